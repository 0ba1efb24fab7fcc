/- Walks over the program, part WY. Conditions: as each theorem says. -/
import Derived.Test.YtpoiojafnnaccaaGreatDoorTFacts
import Derived.Test.YtpoiojafnnaccaaGreatDoorTWB
import Derived.Test.YtpoiojafnnaccaaGreatDoorTWD
import Derived.Test.YtpoiojafnnaccaaGreatDoorTBf
import Derived.Test.YtpoiojafnnaccaaGreatDoorTBd
import Derived.Test.YtpoiojafnnaccaaGreatDoorTWUa
set_option linter.all false
namespace Go.Rc
open Go Go.Proofs Go.Proofs.Tryz
variable {a b1 b2:Option Addr}{n c d r wb rb p1 g1 p2 g2 i:Nat}{w:World}{M Z:Nat→Prop}{m:Int}{l:List Key}{f:FuncId}{cap:Value}{x:dT}{y:Rec}{k:Key}{mO ml:List (Key × Value)}{D:WD}{S:SD}{ab:List aJ}
set_option maxHeartbeats 400000
theorem I7{l:List Int}(bF:St w M Z w []) (hl:Rd RR.int 1 Z w a n c l) (h4:n≤400):Calls prog 7 #[.slice a n c] w fun e w'=>∃d,e=.returned (.pointer (some ⟨d,0,none⟩))∧St w M Z w' [As.jA 74 d]:=
 (K6 (A:=Z) (l:=l) hl h4).mono fun e w' ⟨d,h1,h2,h3,hc⟩=>⟨d,h1,bF.new hc h3 fun x hx=>by have hx:x=d:=hx;subst hx;exact h2⟩
theorem bJ(bF:St w M Z w [As.jA 74 d]) (hm:m≤4611686018427387904):Calls prog 11 #[.pointer (some ⟨d,0,none⟩),.int .i64 m] w fun e w'=>∃z:Int,e=.returned (.int .i64 z)∧0≤z∧(1≤m→z<m)∧St w M Z w' [As.jA 74 d]:=
 (K7 (A:=Z) (As.gd bF.g0) (bF.pO (As.jA 74 d) (by simp) d rfl) hm).mono fun e w' ⟨z,h1,h2,h3,hc,hd⟩=>⟨z,h1,h2,h3,bF.oL (hc.p.mono fun x _ hx=>show x=d from by simpa using hx) hd fun x hx=>.inl hx⟩
theorem I8{l:List ByteArray}(bF:St w M Z w [As.jA 74 d,As.os RR.str 9 1 a r c l]) (h0:0<r) (h1:r≤1000):Calls prog 70 #[.pointer (some ⟨d,0,none⟩),.slice a r c] w fun e w'=>∃s:ByteArray,e=.returned (.string s)∧s∈l∧St w M Z w' [As.jA 74 d,As.os RR.str 9 1 a r c l]:=by
 have hlen:=(As.gs bF.g1).len;refine enter func70 rfl ntmps70 rfl<|?_;have aW:=bF;refine rT ?_;have st1:=aW;refine(cW) kn (bJ st1.e1 (m:=(r:Int)) (by omega)) ?_;rintro _ w1 ⟨z,rfl,atD,af6,Cb⟩;have st2:=St.lr st1 Cb;have af6:=af6 (by omega);obtain⟨i,rfl⟩:∃i:Nat,z=i:=⟨z.toNat,by omega⟩
 have hi:i<l.length:=by omega
 obtain⟨gF,aT⟩:=Ow.addr (As.gs st2.g1) (aq hi);refine WP .r (PV.fC C3 aT rfl rfl (by omega))<|WP .r (PV.pT iq (Ow.rS (As.gs st2.g1) (by omega) aT (aq hi)) rfl rfl)<|(cj) ?_;exact⟨_,rfl,List.getElem_mem hi,st2⟩
theorem Dm(bF:St w M Z w [As.jA 74 d]):Calls prog 34 #[.pointer (some ⟨d,0,none⟩)] w fun e w'=>∃x:Change,e=.returned (.agg x.cells.toArray)∧x.small∧St w M Z w' [As.jA 74 d]:=by
 refine enter func34 rfl ntmps34 rfl<|?_;have aW:=bF;refine(fU) aW fun b2 w1 lA eZ st1=>?_;refine ew ?_;have st2:=st1.p1;refine(cW) kn (bJ st2.e1 (m:=4) (by omega)) ?_;rintro _ w2 ⟨z4,rfl,MN,yV,tu⟩;have aP:=St.lr st2 tu;have yV:=yV (by omega);refine(gg) (qw (n:=z4)) aP fun w3 s3 aU=>?_;refine nx ?_;refine WL.go rfl (OX.bB (us:=words.map Value.string) TD rfl rfl rfl rfl fun b7 w4 uR oo=>?_);have aY:=St.xf (R:=RR.str) (E:=9) (k:=1) (a:=some ⟨b7,0,none⟩) (n:=10) (c:=10) (xs:=words) aU uR.ext (Ow.flat oo rfl (by simp) (by simp [words,Value.oneCell']) rfl (by decide)) (fun x hx=>by simp [aO] at hx;subst hx;exact uR.ge);have bj:=aY.p1;refine(cW) akm (I8 bj.e2 (by decide) (by decide)) ?_;rintro _ w5 ⟨s,rfl,hs,ic⟩;have bP:=St.lr bj ic;refine WP .r (PV.cD (us:=(Change.mk (dQ z4) s).cells) ajN rfl rfl rfl)<|(dA) Qp bP.p2 fun w6 jv jC bQ=>?_;refine(mU) Ib bQ.b0<|?_;exact⟨⟨dQ z4,s⟩,rfl,⟨⟨z4,MN,by omega,rfl⟩,QK s hs⟩,bQ.drop.p1.drop⟩
theorem ob(bF:St w M Z w [As.jA 74 d]) (hm:0≤m) (jf:m≤1000):Calls prog 10 #[.pointer (some ⟨d,0,none⟩),.int .i64 m] w fun e w'=>∃a n c,∃l:List Change,e=.returned (.slice a n c)∧(l.length:Int)≤m∧(∀x∈l,x.small)∧St w M Z w' [As.jA 74 d,As.os RR.cT 79 3 a n c l]:=by
 refine enter func10 rfl ntmps10 rfl<|?_;have aW:=bF;have st1:=aW.fc RR.cT 79 3;refine bC ?_;refine dC ?_;have st2:=st1.p1;refine(cW) kn (bJ st2.e1 (m:=m+1) (by omega)) ?_;rintro _ w1 ⟨z0,rfl,MO,oJ,Cb⟩;have aP:=St.lr st2 Cb;have oJ:=oJ (by omega);obtain⟨z,rfl⟩:∃z:Nat,z0=z:=⟨z0.toNat,by omega⟩;refine dC ?_;refine WC.bU (σ:=Nat × (List Change) × (Option Addr) × Nat × Nat) (eI:=fun(i,l,ko,gK,kq)=>[(0,.pointer (some ⟨d,0,none⟩)),(5,.slice ko gK kq),(6,.int .i64 (i:Int))]) (F:=fun(i,l,ko,gK,kq)=>[As.os RR.cT 79 3 ko gK kq (l),As.jA 74 d]) (I:=fun(i,l,ko,gK,kq)=>(l.length+i≤z)∧(∀x∈l,x.small)∧True) (μ:=fun(i,l,ko,gK,kq)=>i) (z,[],none,0,0) (aP.p1) Sub.t (⟨by simp,by simp,trivial⟩)<|?_;rintro⟨i,l,ko,gK,kq⟩ w2 aU ⟨hlz,CO,_⟩;simp only [CA,NA] at aU hlz CO ⊢;have Vs:=((As.gs aU.g0)).len;refine(br) (fun g12=>?_) fun g12=>?_
 ·
  simp at g12
  refine gp ?_;have aY:=aU.p1;refine(cW) aj6 (Dm aY.e1) ?_;rintro _ w3 ⟨x,rfl,hx,eE⟩;have bj:=St.lr aY eE;refine WL.go rfl (OX.bB (us:=x.cells) Yn rfl rfl rfl rfl fun Sr w4 Zj Zk=>?_);have bP:=bj.fb Zj Zk;refine WL.ap rfl rfl bP.p2 (SR.eP (A:=fun _=>True) (x:=x) (As.gb bP.g0) trivial rfl (by simp [Change.cells,Value.oneCell']) rfl) fun a19 Zl w5 ak0 ak1 bQ=>?_;refine pQ ?_;refine fx (i - 1,l++[x],a19,(gK+1),Zl) ⟨bQ.p1.drop,⟨by simp;omega,fun y hy=>by rcases List.mem_append.1 hy with h | h;exact CO y h;simp at h;subst h;exact hx,trivial⟩⟩
 simp at g12
 refine(cj) ?_;exact⟨_,_,_,l,rfl,by omega,CO,aU.p1⟩
set_option maxHeartbeats 4000000 in
theorem Gj(bF:St w M Z w [As.jA 74 d]):Calls prog 27 #[.pointer (some ⟨d,0,none⟩)] w fun e w'=>∃a n c,∃l:List aJ,∃Z',e=.returned (.slice a n c)∧ay l∧2≤l.length∧l.length≤8∧cQ w.heap.size Z Z'∧St w M Z' w' [As.jA 74 d,As.os RR.gx 69 4 a n c l]:=by
 refine enter func27 rfl ntmps27 rfl<|?_;have aW:=bF;have st1:=aW.fc RR.gx 69 4;refine bC ?_;refine cV ?_;have st2:=st1.p1;refine(cW) kn (bJ st2.e1 (m:=7) (by omega)) ?_;rintro _ w1 ⟨z0,rfl,MO,oJ,Cb⟩;have aP:=St.lr st2 Cb;have oJ:=oJ (by omega);obtain⟨z,rfl⟩:∃z:Nat,z0=z:=⟨z0.toNat,by omega⟩;refine ew ?_;refine WC.bU (σ:=Nat × (List aJ) × (Option Addr) × Nat × Nat) (eI:=fun(i,l,ko,gK,kq)=>[(0,.pointer (some ⟨d,0,none⟩)),(3,.slice ko gK kq),(4,.int .i64 (i:Int))]) (F:=fun(i,l,ko,gK,kq)=>[As.os RR.gx 69 4 ko gK kq (l),As.jA 74 d]) (I:=fun(i,l,ko,gK,kq)=>(l.length+i=z+2)∧True) (μ:=fun(i,l,ko,gK,kq)=>i) (z+2,[],none,0,0) (aP.p1) Sub.t (⟨by simp,trivial⟩)<|?_;rintro⟨i,l,ko,gK,kq⟩ w2 aU ⟨hlz,_⟩;simp only [CA,NA] at aU hlz ⊢;have Vs:=((As.gs aU.g0)).len;refine(br) (fun g16=>?_) fun g16=>?_
 ·
  simp at g16
  refine gp ?_;have aY:=aU.p1;refine(cW) kn (bJ aY.e1 (m:=3) (by omega)) ?_;rintro _ w3 ⟨z1,rfl,apE,Wr,eE⟩;have bj:=St.lr aY eE;have Wr:=Wr (by omega);obtain⟨g,hg⟩:∃g:Bool,g=decide (z1=1):=⟨_,rfl⟩;refine nx ?_;refine WP .r (PV.cD (us:=[.bool (decide (z1=1)),.slice none 0 0,.int .i64 0,.int .i64 0]) Yt rfl rfl rfl)<|?_;refine WL.go rfl (OX.bB (us:=[.bool (decide (z1=1)),.slice none 0 0,.int .i64 0,.int .i64 0]) KP rfl rfl rfl rfl fun b24 w4 amy amz=>?_);have bP:=bj.fb amy amz;refine WL.ap rfl rfl bP.p2 (SR.eP (A:=fun _=>True) (x:=begun g) (As.gb bP.g0) trivial rfl (by simp [Value.oneCell']) ⟨none,0,0,by rw [hg];rfl,SR.nil _ _ _ _⟩) fun a25 amA w5 atE atF bQ=>?_;refine pQ ?_;refine fx (i - 1,l++[begun g],a25,(gK+1),amA) ⟨bQ.p1.drop,⟨by simp;omega,trivial⟩⟩
 simp at g16
 refine bC ?_;refine cV ?_;refine WC.jY (σ:=Nat × (List aJ) × (Nat→Prop)) (eI:=fun(i,l1,Z1)=>[(0,.pointer (some ⟨d,0,none⟩)),(3,.slice ko gK kq),(27,.int .i64 (gK:Int)),(28,.int .i64 (i:Int))]) (F:=fun(i,l1,Z1)=>[As.jA 74 d,As.os RR.gx 69 4 ko gK kq l1]) (I:=fun(i,l1,Z1)=>(i≤gK)∧(oP l1 i)∧(cQ w.heap.size Z Z1)∧True) (μ:=fun(i,l1,Z1)=>gK - i) (Zf:=fun(i,l1,Z1)=>Z1) (0,l,Z) (aU.p1) Sub.t (⟨Nat.zero_le _,oP.start (by omega),cQ.refl _ _,trivial⟩)<|?_;rintro⟨i,l1,Z1⟩ w3 aY ⟨hi,hPo,hZ,_⟩;simp only [CA,NA] at aY hi hPo hZ ⊢;have jO:=((As.gs aY.g1)).len;have hP8:=hPo.1;refine(br) (fun n0=>?_) fun n0=>?_
 ·
  simp at n0
  have cX:i<l1.length:=by omega
  have hrt:=da cX;have xT:=CV cX;refine bC ?_;refine(gg) (yE (n:=(i:Int)) (Ow.rd (As.gs aY.g1) (by omega))) aY fun w4 s4 bj=>?_;refine pQ ?_;obtain⟨bx,mn⟩:=Ow.addr (As.gs bj.g1) (aq cX);refine dy ?_;refine WP .r (PV.fC lS mn rfl rfl (by omega))<|nx ?_;refine WP .r (PV.pT fH (Ow.ring (As.gs bj.g1) mn (by omega) cX) rfl rfl)<|dy ?_;have bP:=bj;refine WC.nF (σ:=Int) [] (fun most=>[(0,.pointer (some ⟨d,0,none⟩)),(3,.slice ko gK kq),(5,.int .i64 (i:Int)),(7,.int .i64 most),(27,.int .i64 (gK:Int)),(28,.int .i64 (i:Int))]) (fun most=>[]) (fun most=>(most=ik l1 i)∧True) bP ?_ ?_
  ·
   refine(br) (fun jP=>?_) fun jP=>?_
   ·
    have jP:l1[i].ring=false:=by simpa using jP
    refine dC ?_;exact tH ((block l1 (i:Int)).1) ⟨bP,⟨by unfold ik;rw [hrt,jP];rfl,trivial⟩⟩
   have jP:l1[i].ring=true:=by simpa using jP
   refine nx ?_;exact tH ((block l1 (i:Int)).2) ⟨bP,⟨by unfold ik;rw [hrt,jP];rfl,trivial⟩⟩
  rintro most w5 bQ ⟨Ws,_⟩;simp only [CA,NA] at bQ Ws ⊢;refine cV ?_;refine WC.df (m:=12) [] [6,9] [5,6,8,9,0,1,2,3,4,7,10,11] [(11,.blk 69 [.bool false,.slice none 0 0,.int .i64 0,.int .i64 0])] bQ (ax.cons M1<|ax.nil) mixed (by kernel_rfl) (by kernel_rfl) rfl<|(jg) (fun w6 Wn I4 bV sD=>?_);simp only [CA,NA] at bV;have aL:=bV;refine OX.call kn rfl rfl ((bJ aL.e1 (m:=4) (by omega)).mono ?_);rintro _ w7 ⟨z2,rfl,af7,I9,kI⟩;have aQ:=St.lr aL kI;have I9:=I9 (by omega);refine⟨_,rfl,kI.cT.size,_,rfl,_,_,_,aQ,aA.k2<|aA.nil,ax.cons M1<|ax.nil,?_⟩;refine(jg) (fun w8 R9x Oq aV yT=>?_);simp only [CA,NA] at aV;have bD:=aV;refine OX.call kn rfl rfl ((bJ bD.e1 (m:=6) (by omega)).mono ?_);rintro _ w9 ⟨z3,rfl,af8,Ja,oq⟩;have bp:=St.lr bD oq;have Ja:=Ja (by omega);refine⟨_,rfl,oq.cT.size,_,rfl,_,_,_,bp,aA.k2<|aA.nil,ax.cons M1<|ax.nil,?_⟩
  iterate 2 refine DG.a ?_
  refine DQ .r (fun wx Zx Rx _ fV l5=>PV.fC lS mn rfl rfl (by omega))<|?_;refine DG.a<|?_;refine DQ .r (fun wx Zx Rx _ fV l5=>PV.pT fH (Ow.ring (As.gs (fV.sv l5).g0) mn (by omega) cX) rfl rfl)<|?_;refine DG.a<|?_;refine DQ .r (fun wx Zx Rx _ fV l5=>PV.cD (us:=[.bool l1[i].ring,.slice none 0 0,.int .i64 (1+z2),.int .i64 z3]) Yt rfl rfl rfl)<|?_;refine DG.side (s:=.blk 69 [.bool false,.slice none 0 0,.int .i64 0,.int .i64 0]) rfl rfl rfl rfl rfl rfl (fun wx Zx Rx Cc fV=>OX.alloc TG rfl fun b wy nw hb=>⟨nw.ext.size,_,rfl,⟨b,rfl⟩,fV.fb nw hb⟩)<|?_;rintro _ ⟨b8,rfl⟩;refine(nk) ?_;intro kN MI ba;simp only [CM,NM,CA,NA,kL.it] at ba;refine(dA) KU ba fun kO jv jC aX=>?_;refine WL.nil (EX.np ?_);refine(bO) fH aX.b0<|cV ?_;have bN:=aX;refine WC.nF (σ:=Int × Int) [_] (fun(f0,c0)=>[(0,.pointer (some ⟨d,0,none⟩)),(3,.slice ko gK kq),(5,.int .i64 (i:Int)),(7,.int .i64 most),(8,.pointer (some ⟨b8,0,none⟩)),(27,.int .i64 (gK:Int)),(28,.int .i64 (i:Int))]) (fun(f0,c0)=>[As.blk b8 69 [.bool l1[i].ring,.slice none 0 0,.int .i64 f0,.int .i64 c0]]) (fun(f0,c0)=>(∀xs:List Ask,jX ⟨l1[i].ring,xs,f0,c0⟩=true)∧True) bN ?_ ?_
  ·
   refine(br) (fun JM=>?_) fun JM=>?_
   ·
    have amB:d<kO.heap.size:=(As.jA 74 d).lt (bN.g1) d rfl;have UK:b8<kO.heap.size:=((As.gb bN.g0)).lt;have bR:=bN;have bE:=bR.conv (B:=As.ajg (ι:=Int) b8 69 fun f=>[.bool l1[i].ring,.slice none 0 0,.int .i64 f,.int .i64 z3]) ⟨_,(As.gb bR.g0)⟩ (fun _ h=>h);have amC:=bE.dc;have af9:=bE.mx;have aga:=bE.size;refine WC.Pr (m:=8) (fun j w w'=>match j with | 2=>je (fun x=>x=d) w w' | 6=>je (fun x=>x=b8) w w' | _=>je (fun _=>False) w w') (E:=dx [(0,PS kO.heap.size 3 6 [.int .i64 0,.int .i64 1,.int .i64 2,.int .i64 4,.int .i64 8,.int .i64 16]),(2,fun v _=>∃z:Nat,v=.int .i64 (z:Int)∧z<6),(3,fun v wx=>∃b k:Nat,v=.pointer (some ⟨b,0+k*1,none⟩)∧k<6∧kO.heap.size≤b∧cI wx b 3 [.int .i64 0,.int .i64 1,.int .i64 2,.int .i64 4,.int .i64 8,.int .i64 16]),(4,fun v _=>∃z:Int,v=.int .i64 z∧0≤z∧z≤65535),(6,fun _ wx=>wx.cell? ⟨b8,2,none⟩=some (.int .i64 5))]) bE (pq (⟨⟨trivial,fun _ _ _ _ _ c h=>PS.st (fun x hx=>by subst hx;exact amB) c h,fun _ _ _ _ _ c h=>PS.st (fun x hx=>hx.elim) c h,fun _ _ _ _ _ c h=>PS.st (fun x hx=>hx.elim) c h,fun _ _ _ _ _ c h=>PS.st (fun x hx=>by subst hx;exact UK) c h,trivial⟩,⟨⟨fun _ _ _ _ _ _ h=>h,trivial,fun _ _ _ _ _ _ h=>h,fun _ _ _ _ _ _ h=>h,fun _ _ _ _ _ _ h=>h,trivial⟩,⟨⟨trivial,trivial,trivial,fun _ _ _ _ _ c ⟨b,k,h1,h2,h3,h4⟩=>⟨b,k,h1,h2,h3,(PB.get (PB.st (fun x hx=>hx.elim) c (v:=.pointer (some ⟨b,0,none⟩)) ⟨b,rfl,h3,h4⟩)).2⟩,fun _ _ _ _ _ c ⟨b,k,h1,h2,h3,h4⟩=>⟨b,k,h1,h2,h3,(PB.get (PB.st (fun x hx=>by subst hx;exact UK) c (v:=.pointer (some ⟨b,0,none⟩)) ⟨b,rfl,h3,h4⟩)).2⟩,trivial⟩,⟨⟨fun _ _ _ _ _ _ h=>h,fun _ _ _ _ _ _ h=>h,trivial,trivial,fun _ _ _ _ _ _ h=>h,trivial⟩,⟨⟨fun _ _ _ _ _ c h=>by rw [← h];exact World.cell?_of_block (c.block b8 (by omega) (fun hx=>hx.elim)),trivial,fun _ _ _ _ _ c h=>by rw [← h];exact World.cell?_of_block (c.block b8 (by omega) (fun hx=>hx.elim)),fun _ _ _ _ _ c h=>by rw [← h];exact World.cell?_of_block (c.block b8 (by omega) (fun hx=>hx.elim)),trivial,trivial⟩,trivial⟩⟩⟩⟩⟩)) mixed (by kernel_rfl)<|?_;refine DW.e rfl rfl rfl rfl rfl (fun wx hC hF=>OX.bB (us:=[.int .i64 0,.int .i64 1,.int .i64 2,.int .i64 4,.int .i64 8,.int .i64 16]) Yr rfl rfl rfl rfl fun b wy nw hb=>⟨⟨Nat.le_trans hC.1 nw.ext.size,hC.2.step nw.ext⟩,nw.ext.p0,_,rfl,_,rfl,Nat.le_trans hC.1 nw.ge,hb⟩)<|?_;rintro _ wz _ ⟨b57,rfl,_,_⟩;refine nx ?_;refine DW.e rfl rfl rfl rfl rfl (fun wx hC hF=>OX.call kn rfl rfl ((bJ (hC.2.one (.tail _ (.head _))) (m:=6) (by omega)).mono ?_))<|?_
    ·
     rintro _ wy ⟨z,rfl,h0,h1,hy⟩;exact⟨_,rfl,⟨Nat.le_trans hC.1 hy.cT.size,hC.2.D0 M1 hy⟩,hy.cT.mono (fun x _ hx=>by obtain⟨A,hA,hx⟩:=hx;simp at hA;subst hA;exact hx),_,rfl,⟨z.toNat,by congr 1;omega,by have:=h1 (by omega);omega⟩⟩
    rintro _ wz _ ⟨z13,rfl,z131⟩
    refine DW.e rfl rfl rfl rfl rfl (fun wx hC hF=>by
     obtain⟨_,⟨b1_,dO,eZ,dB⟩,_⟩:=hF;simp only [Value.slice.injEq,Option.some.injEq,Addr.mk.injEq,and_true,true_and] at dO;subst dO;exact OX.pv (PV.ix (i:=z13) KT rfl rfl z131) rfl ⟨hC,je.refl _ _,_,rfl,_,z13,rfl,z131,eZ,dB⟩) ?_
    rintro _ wz _ ⟨b3,k3,rfl,yn,Iy,dB⟩
    refine DW.e rfl rfl rfl rfl rfl (fun wx hC hF=>by
     obtain⟨⟨b1_,k1_,tL,og,_,pg⟩,_⟩:=hF;simp only [Value.pointer.injEq,Option.some.injEq,Addr.mk.injEq,and_true] at tL;obtain⟨rfl,L8⟩:=tL
     obtain⟨z,hz,h0,h1⟩:∃z:Int,nth [.int .i64 0,.int .i64 1,.int .i64 2,.int .i64 4,.int .i64 8,.int .i64 16] (k3*1)=some (.int .i64 z)∧0≤z∧z≤65535:=by
      have h6:k3=0∨k3=1∨k3=2∨k3=3∨k3=4∨k3=5:=by omega
      rcases h6 with rfl | rfl | rfl | rfl | rfl | rfl <;> exact⟨_,rfl,by decide,by decide⟩
     exact OX.pv (PV.ld1 (o:=0) (j:=k3*1) aZ (cI.range pg) rfl hz) rfl ⟨hC,je.refl _ _,_,rfl,z,rfl,h0,h1⟩) ?_
    rintro _ wz _ ⟨z5,rfl,h5a,h5b⟩;refine nx ?_
    refine DW.e0 rfl rfl rfl rfl (fun wx hC hF=>by
     obtain⟨f,hb⟩:∃f:Int,cI wx b8 69 [.bool l1[i].ring,.slice none 0 0,.int .i64 f,.int .i64 z3]:=hC.2.ok _ M0;exact OX.st (j:=2) Sf hb rfl rfl (by simp [nth]) rfl rfl fun wy s hsz eZ=>⟨⟨Nat.le_trans hC.1 s.size,hC.2.same M0 (s.p.mono fun x _ hx=>show x=b8 from by simpa using hx) ⟨5,eZ⟩⟩,s.p.mono (fun x _ hx=>by simpa using hx),fun _=>cI.range eZ 2 _ rfl⟩) ?_
    rintro _ wz _ h6c;refine(eu) ?_;rintro qW ⟨agb,bZ⟩ ⟨ZN,⟨_,⟨_,⟨_,⟨hF0,_⟩⟩⟩⟩⟩;have cG:=bZ.y5 (PS.pb hF0) amC af9 aga;have cF:=cG.p1
    have cP:=cF.conv (B:=As.blk b8 69 [.bool l1[i].ring,.slice none 0 0,.int .i64 5,.int .i64 z3]) (by
     obtain⟨f,hb⟩:∃f:Int,cI qW b8 69 [.bool l1[i].ring,.slice none 0 0,.int .i64 f,.int .i64 z3]:=cF.ok _ M0;have h1:=(cI.range hb 2 _ rfl).symm.trans ZN
     have h2:f=5:=by simpa using h1
     subst h2;exact hb) (fun _ h=>h)
    refine WL.s1 cP fun uX _ cv=>?_;refine nx ?_;exact tH (5,z5) ⟨cv.p1.drop,⟨fun _=>by unfold jX;simp [JM,h5a,h5b],trivial⟩⟩
   have JM:l1[i].ring=false:=by simpa using JM
   refine nx ?_;exact tH (1+z2,z3) ⟨bN,⟨fun _=>by unfold jX;simp [JM];omega,trivial⟩⟩
  rintro⟨f0,c0⟩ qW bR ⟨UL,_⟩;simp only [CA,NA] at bR UL ⊢;refine ew ?_;have bE:=bR.p1;refine(cW) kn (bJ bE.e1 (m:=4) (by omega)) ?_;rintro _ uX ⟨z6,rfl,agc,Jb,we⟩;have bZ:=St.lr bE we;have Jb:=Jb (by omega);obtain⟨z,hz6⟩:∃z:Nat,z6=z:=⟨z6.toNat,by omega⟩;subst hz6;refine dC ?_;have cG:=bZ.fc RR.ask 129 4;refine WC.bU (σ:=Nat × (List Ask) × (Option Addr) × Nat × Nat) (eI:=fun(k,xs,Gk,Jc,Lz)=>[(0,.pointer (some ⟨d,0,none⟩)),(3,.slice ko gK kq),(5,.int .i64 (i:Int)),(7,.int .i64 most),(8,.pointer (some ⟨b8,0,none⟩)),(9,.int .i64 (k:Int)),(27,.int .i64 (gK:Int)),(28,.int .i64 (i:Int))]) (F:=fun(k,xs,Gk,Jc,Lz)=>[As.os RR.ask 129 4 Gk Jc Lz (xs),As.blk b8 69 [.bool l1[i].ring,.slice Gk Jc Lz,.int .i64 f0,.int .i64 c0],As.jA 74 d]) (I:=fun(k,xs,Gk,Jc,Lz)=>(∀x∈aO Gk,w.heap.size≤x)∧(xs.length+k≤3)∧(∀(k:Nat) x,xs[k]?=some x→gV l1 i l1[i].ring k x=true)∧True) (μ:=fun(k,xs,Gk,Jc,Lz)=>k) (z,[],none,0,0) (cG.p1.p2.p2) Sub.t (⟨by simp [aO],by simp;omega,by simp,trivial⟩)<|?_;rintro⟨k,xs,Gk,Jc,Lz⟩ zN cF ⟨hga,hxk,eL,_⟩;simp only [CA,NA] at cF hga hxk eL ⊢;have hxl:=((As.gs cF.g0)).len;refine(br) (fun jF=>?_) fun jF=>?_
  ·
   simp at jF
   refine ew ?_;have cP:=cF.p2;refine WC.nF (σ:=Nat × Bool) [_] (fun(iI,cell)=>[(0,.pointer (some ⟨d,0,none⟩)),(3,.slice ko gK kq),(5,.int .i64 (i:Int)),(7,.int .i64 most),(8,.pointer (some ⟨b8,0,none⟩)),(9,.int .i64 (k:Int)),(10,.pointer (some ⟨iI,0,none⟩)),(27,.int .i64 (gK:Int)),(28,.int .i64 (i:Int))]) (fun(iI,cell)=>[As.blk iI 129 [.bool cell,.bool false,.int .i64 0,.int .i64 0],As.jA 74 d]) (fun(iI,cell)=>(cell=false→most≠0)∧True) cP ?_ ?_
   ·
    refine cV ?_;have cv:=cP;refine(cW) kn (bJ cv.e1 (m:=3) (by omega)) ?_;rintro _ uY ⟨z7,rfl,agd,Jd,wE⟩;have cK:=St.lr cv wE;have Jd:=Jd (by omega);refine(dW) (fun Sq=>?_) (fun Sq=>?_)
    ·
     refine dy ?_;refine WP .r (PV.cD (us:=_) Vy rfl rfl rfl)<|(fU) cK fun iI zw lV fN ey=>?_;refine(dA) Br ey fun C9 sr nc dz=>?_;refine nx ?_;exact tH (iI,true) ⟨dz,⟨(fun h=>by cases h),trivial⟩⟩
    refine dy ?_;refine WP .r (PV.cD (us:=_) Vy rfl rfl rfl)<|(fU) cK fun iI zw lV fN ey=>?_;refine(dA) Br ey fun C9 ED tj dz=>?_;refine nx ?_;exact tH (iI,decide (most=0)) ⟨dz,⟨fun h=>by simpa using h,trivial⟩⟩
   rintro⟨iI,cell⟩ uY cv ⟨DF,_⟩;simp only [CA,NA] at cv DF ⊢;refine(bO) fH cv.b0<|cV ?_;have cK:=cv;refine WC.nF (σ:=Int) [] (fun m2=>[(0,.pointer (some ⟨d,0,none⟩)),(3,.slice ko gK kq),(5,.int .i64 (i:Int)),(7,.int .i64 most),(8,.pointer (some ⟨b8,0,none⟩)),(9,.int .i64 (k:Int)),(10,.pointer (some ⟨iI,0,none⟩)),(11,.int .i64 m2),(27,.int .i64 (gK:Int)),(28,.int .i64 (i:Int))]) (fun m2=>[]) (fun m2=>(m2=if cell then 4 else ik l1 i)∧True) cK ?_ ?_
   ·
    refine(br) (fun g80=>?_) fun g80=>?_
    ·
     refine dy ?_;exact tH (4) ⟨cK,⟨by rw [g80];rfl,trivial⟩⟩
    have g80:cell=false:=by simpa using g80
    refine nx ?_;exact tH (most) ⟨cK,⟨by rw [g80,Ws];rfl,trivial⟩⟩
   rintro m2 zw ey ⟨Sl,_⟩;simp only [CA,NA] at ey Sl ⊢
   have CK:1≤m2∧m2≤24:=by
    cases cell
    ·
     simp at Sl;have:=DF rfl;omega
    simp at Sl;omega
   refine ew ?_;have dz:=ey.p1;refine(cW) kn (bJ dz.e1 (m:=m2) (by omega)) ?_;rintro _ C9 ⟨z8,rfl,agf,Je,wg⟩;have eC:=St.lr dz wg;have Je:=Je (by omega);refine nx ?_;refine WL.s1 eC.p1 fun CN _ dh=>?_;refine dC ?_;have dV:=dh.p1;refine WC.nF (σ:=Bool) [_] (fun b92=>[(0,.pointer (some ⟨d,0,none⟩)),(3,.slice ko gK kq),(5,.int .i64 (i:Int)),(7,.int .i64 most),(8,.pointer (some ⟨b8,0,none⟩)),(9,.int .i64 (k:Int)),(10,.pointer (some ⟨iI,0,none⟩)),(11,.int .i64 m2),(27,.int .i64 (gK:Int)),(28,.int .i64 (i:Int)),(92,.bool b92)]) (fun b92=>[As.jA 74 d]) (fun b92=>True) dV ?_ ?_
   ·
    refine(bO) fH dV.b1<|(dW) (fun g88=>?_) (fun g88=>?_)
    ·
     refine nx ?_;have db:=dV;refine(cW) kn (bJ db.e1 (m:=2) (by omega)) ?_;rintro _ IF ⟨z9,rfl,agh,Jf,Jg⟩;have dt:=St.lr db Jg;have Jf:=Jf (by omega);refine dy ?_;exact tH (decide (z9=0)) ⟨dt,trivial⟩
    refine ew ?_;exact tH (false) ⟨dV,trivial⟩
   rintro b92 IF db _;simp only [CA,NA] at db ⊢;refine nx ?_;have dt:=db.p1;refine WC.nF (σ:=Int) [_,_] (fun nn=>[(0,.pointer (some ⟨d,0,none⟩)),(3,.slice ko gK kq),(5,.int .i64 (i:Int)),(7,.int .i64 most),(8,.pointer (some ⟨b8,0,none⟩)),(9,.int .i64 (k:Int)),(10,.pointer (some ⟨iI,0,none⟩)),(11,.int .i64 m2),(27,.int .i64 (gK:Int)),(28,.int .i64 (i:Int))]) (fun nn=>[As.blk iI 129 [.bool cell,.bool false,.int .i64 nn,.int .i64 0],As.jA 74 d]) (fun nn=>(0≤nn)∧(nn<m2)∧True) dt ?_ ?_
   ·
    refine(br) (fun g92=>?_) fun g92=>?_
    ·
     refine jx ?_;have du:=dt.p1;refine(cW) kn (bJ du.e1 (m:=(min m2 3)) (by omega)) ?_;rintro _ MJ ⟨z10,rfl,amE,Rr,wA⟩;have eK:=St.lr du wA;have Rr:=Rr (by omega);refine cV ?_;refine WL.s1 eK.p1 fun Ot _ dR=>?_;refine nx ?_;exact tH (m2 - 1 - z10) ⟨dR,⟨by omega,by omega,trivial⟩⟩
    refine nx ?_;exact tH (z8) ⟨dt,⟨by omega,by omega,trivial⟩⟩
   rintro nn MJ du ⟨hn0,hn1,_⟩;simp only [CA,NA] at du hn0 hn1 ⊢;refine dy ?_;have eK:=du.p1;refine WC.nF (σ:=Bool) [_] (fun Rt=>[(0,.pointer (some ⟨d,0,none⟩)),(3,.slice ko gK kq),(5,.int .i64 (i:Int)),(7,.int .i64 most),(8,.pointer (some ⟨b8,0,none⟩)),(9,.int .i64 (k:Int)),(10,.pointer (some ⟨iI,0,none⟩)),(11,.int .i64 m2),(27,.int .i64 (gK:Int)),(28,.int .i64 (i:Int)),(114,.bool Rt)]) (fun Rt=>[As.jA 74 d]) (fun Rt=>(Rt=true→l1[i].ring=false∧xs.length≠0)∧True) eK ?_ ?_
   ·
    refine(bO) fH eK.b3<|(dW) (fun agi=>?_) (fun agi=>?_)
    ·
     refine(bO) nS eK.b3<|(dW) (fun tq=>?_) (fun tq=>?_)
     ·
      refine nx ?_;have dR:=eK;refine(cW) kn (bJ dR.e1 (m:=3) (by omega)) ?_;rintro _ Ot ⟨z11,rfl,amF,Ru,EG⟩;have eF:=St.lr dR EG;have Ru:=Ru (by omega);refine dy ?_;exact tH (decide (z11=1)) ⟨eF,⟨fun _=>⟨by simpa using agi,by have h0:=tq;simp at h0;omega⟩,trivial⟩⟩
     refine ew ?_;exact tH (false) ⟨eK,⟨(fun h=>by cases h),trivial⟩⟩
    refine rT ?_;exact tH (false) ⟨eK,⟨(fun h=>by cases h),trivial⟩⟩
   rintro Rt Ot dR ⟨hb,_⟩;simp only [CA,NA] at dR hb ⊢;refine nx ?_;have eF:=dR.p1;refine WC.nF (σ:=Bool × Int) [_,_] (fun(pk,el)=>[(0,.pointer (some ⟨d,0,none⟩)),(3,.slice ko gK kq),(5,.int .i64 (i:Int)),(7,.int .i64 most),(8,.pointer (some ⟨b8,0,none⟩)),(9,.int .i64 (k:Int)),(10,.pointer (some ⟨iI,0,none⟩)),(27,.int .i64 (gK:Int)),(28,.int .i64 (i:Int))]) (fun(pk,el)=>[As.blk iI 129 [.bool cell,.bool pk,.int .i64 nn,.int .i64 el],As.jA 74 d]) (fun(pk,el)=>(pk=true→l1[i].ring=false∧xs.length≠0∧0≤el∧el<m2)∧(pk=false→el=0)∧True) eF ?_ ?_
   ·
    refine(br) (fun Ck=>?_) fun Ck=>?_
    ·
     refine dy ?_;have eY:=eF.p1;refine(cW) kn (bJ eY.e1 (m:=m2) (by omega)) ?_;rintro _ Rp ⟨z12,rfl,amG,Rv,MP⟩;have eG:=St.lr eY MP;have Rv:=Rv (by omega);refine nx ?_;refine WL.s1 eG.p1 fun Wo _ iv=>?_;refine nx ?_;refine WL.s1 iv fun Wp _ ja=>?_;refine nx ?_;exact tH (true,z12) ⟨ja,⟨fun _=>⟨(hb Ck).1,(hb Ck).2,by omega,by omega⟩,(fun h=>by cases h),trivial⟩⟩
    refine nx ?_;exact tH (false,0) ⟨eF,⟨(fun h=>by cases h),fun _=>rfl,trivial⟩⟩
   rintro⟨pk,el⟩ Rp eY ⟨hpk,Xj,_⟩;simp only [CA,NA] at eY hpk Xj ⊢;refine(bO) nS eY.b3<|(bA) oT eY.b0<|?_;refine WL.go rfl (OX.bB (us:=(Ask.mk cell pk nn el).cells) Yo rfl rfl rfl rfl fun Ov Wo agj agk=>?_);have eG:=eY.fb agj agk;have hzs:=eG.size;refine WL.ap rfl rfl eG.p3 (SR.eP (A:=fun _=>True) (x:=Ask.mk cell pk nn el) (As.gb eG.g0) trivial rfl (by simp [Ask.cells,Value.oneCell']) rfl) fun a124 agl Wp agm apG iv=>?_;refine nx ?_;refine WL.s1 iv.p4 fun w25 _ ja=>?_;refine kE ?_;refine fx (k - 1,xs++[⟨cell,pk,nn,el⟩],a124,(Jc+1),agl) ⟨ja.p2.drop.p2.drop.p1,⟨fun x hx=>(agm x hx).elim (hga x) (Nat.le_trans hzs),by simp;omega,Nz eL (Xy (x:=⟨cell,pk,nn,el⟩) Sl hn0 hn1 hpk Xj),trivial⟩⟩
  simp at jF
  refine ew ?_;have UL:=UL xs;have cP:=cF.bX (by omega);have qX:=hZ.trans (cQ.fo (F:=fun x=>x∈aO Gk) hga) (Nat.le_refl _);refine(bA) yC cP.b1<|?_;refine WP .r (PV.fC lS mn rfl rfl (by omega))<|?_;refine WL.go rfl (OX.Xe (i:=i) KU (As.gs cP.g3) mn cX rfl rfl rfl (by simp [Value.oneCell']) ⟨l1[i].ring,xs,f0,c0⟩ ⟨Gk,Jc,Lz,rfl,(As.gr cP.g0)⟩ fun uY s8 h8=>?_);have cv:=cP.p3.iY s8 h8 (fun x h=>.inl h);refine gp ?_;refine fx (i+1,l1.set i ⟨l1[i].ring,xs,f0,c0⟩,_) ⟨cv.p1.drop.p1.drop.p1,⟨by omega,oP.set hPo cX (da cX).symm ⟨show xs.length≤6 by omega,eL,UL⟩,qX,trivial⟩⟩
 simp at n0
 have zI:i=l1.length:=by omega
 subst zI;have hRk:=hPo.ok;refine(cj) ?_;exact⟨_,_,_,l1,_,rfl,hRk,by omega,by omega,hZ,aY⟩
set_option maxHeartbeats 400000
theorem Cl{p:Key→Bool}(zG:CF prog f) (hl:Rd RR.key 2 Z w a n c l) (hp:∀w1,bm [] w w1→∀x∈l,Calls prog f #[x.val,cap] w1 fun e w'=>e=.returned (.bool (p x))∧bm [] w1 w'):Calls prog 137 #[.slice a n c,.func (.func f) #[] #[cap]] w fun e w'=>∃j:Int,e=.returned (.int .i64 j)∧D4 l p j∧bm [] w w':=by
 have hlen:=hl.len;have hle:=hl.le;refine enter func137 rfl ntmps137 rfl<|?_;have aW:=St.s0 w;refine bC ?_;refine cV ?_;refine WC.bU (σ:=Nat) (eI:=fun i=>[(0,.slice a n c),(1,.func (.func f) #[] #[cap]),(7,.int .i64 (n:Int)),(8,.int .i64 (i:Int))]) (F:=fun i=>[]) (I:=fun i=>(i≤n)∧(∀j x,j<i→l[j]?=some x→p x=false)∧True) (μ:=fun i=>n - i) (0) (aW) Sub.t (⟨by omega,fun j x h=>by omega,trivial⟩)<|?_;rintro i w1 st1 ⟨hi,gh,_⟩;simp only [CA,NA] at st1 hi gh ⊢;refine(br) (fun g9=>?_) fun g9=>?_
 ·
  simp at g9
  have cX:i<l.length:=by omega
  refine rT ?_;obtain⟨gF,js,iU,aT,fl,bz,ck,di⟩:=Rd.at hl cX;have bz:=RR.cL bz;subst bz;refine dC ?_;refine WP .r (PV.fC fP aT rfl rfl (by omega))<|(bA) av (bG ck (St.cg st1) (by simp))<|?_;refine WL.go rfl (OX.qM zG rfl rfl rfl ((Calls.cap (hp _ (St.cg st1) l[i] (List.getElem_mem cX))).mono ?_));rintro _ w2 ⟨rfl,s2⟩;refine⟨_,rfl,?_⟩;have st2:=st1.step s2;refine(br) (fun g16=>?_) fun g16=>?_
  ·
   refine(cj) ?_;exact⟨_,rfl,.inl ⟨i,_,aq cX,g16,gh,rfl⟩,(St.cg st2)⟩
  have g16:p l[i]=false:=by simpa using g16
  refine gp ?_;refine fx (i+1) ⟨st2,⟨by omega,dJ cX gh (by simpa using g16),trivial⟩⟩
 simp at g9
 have cx:∀x∈l,p x=false:=fun x hx=>by obtain⟨j,hj,rfl⟩:=List.getElem_of_mem hx;exact gh j _ (by omega) (aq hj)
 refine(cj) ?_;exact⟨_,rfl,.inr ⟨cx,rfl⟩,(St.cg st1)⟩
theorem wF{p:Key→Bool}(zG:CF prog f) (hl:Rd RR.key 2 Z w a n c l) (hp:∀w1,bm [] w w1→∀x∈l,Calls prog f #[x.val,cap] w1 fun e w'=>e=.returned (.bool (p x))∧bm [] w1 w'):CR prog 88 #[.slice a n c,.func (.func f) #[] #[cap]] w (.bool (l.any p)):=by
 refine enter func88 rfl ntmps88 rfl<|?_;have aW:=St.s0 w;refine(cW) QB (Cl (w:=w) zG (hl.ext (St.cg aW)) (fun w1 h1=>hp w1 (bm.trans (St.cg aW) h1))) ?_;rintro _ w1 ⟨j,rfl,hj,s1⟩;have st1:=aW.step s1;have Vv:=hj.any;refine(cj) ?_;exact⟨by rw [Vv],(St.cg st1)⟩
theorem tY{l1 l2:List Key}{A B:Nat→Prop}{b:Option Addr}{m:Nat}(h1:Ab A w a n c l1) (h2:Ab B w b m d l2):CR prog 100 #[.slice a n c,.slice b m d] w (.bool (decide (l1=l2))):=by
 have jO:=SR.len h1;have su:=SR.le h1;have pW:=SR.len h2;have fT:=SR.le h2;refine enter func100 rfl ntmps100 rfl<|?_;have aW:=St.s0 w;refine bC ?_;refine(br) (fun g10=>?_) fun g10=>?_
 ·
  simp at g10
  refine(cj) ?_;exact⟨by rw [decide_eq_false (fun e:l1=l2=>g10 (by rw [jO,pW,e]))],(St.cg aW)⟩
 simp at g10
 refine rT ?_;refine WC.bU (σ:=Nat) (eI:=fun i=>[(0,.slice a n c),(1,.slice b m d),(12,.int .i64 (n:Int)),(13,.int .i64 (i:Int))]) (F:=fun i=>[]) (I:=fun i=>(i≤n)∧(l1.take i=l2.take i)∧True) (μ:=fun i=>n - i) (0) (aW) Sub.t (⟨by omega,rfl,trivial⟩)<|?_;rintro i w1 st1 ⟨hi,gh,_⟩;simp only [CA,NA] at st1 hi gh ⊢;refine(br) (fun g14=>?_) fun g14=>?_
 ·
  simp at g14
  have cX:i<l1.length:=by omega
  have yF:i<l2.length:=by omega
  refine rT ?_;obtain⟨gF,js,iU,aT,fl,bz,ck,di⟩:=SR.at h1 (aq cX);obtain rfl:=bz;obtain⟨vV,Ix,FU,fO,vW,gN,j4,pJ⟩:=SR.at h2 (aq yF);obtain rfl:=gN;have Sm:=st1.dc;refine WC.dS (m:=8) st1 mixed<|cV ?_;refine DP .r (fun _ hC=>PV.fC fP aT rfl rfl (by omega))<|DP .r (fun _ hC=>VA av (bG ck (St.cg hC.2) (by simp)) .r)<|cV ?_;refine DP .r (fun _ hC=>PV.fC fP fO rfl rfl (by omega))<|DP .r (fun _ hC=>VA av (bG j4 (St.cg hC.2) (by simp)) .r)<|(eu)<|?_;rintro w2 ⟨pL,st2⟩ _;refine WP .r (PV.R0 im (p:=l1[i]) (q:=l2[i]) rfl rfl)<|(br) (fun g24=>?_) fun g24=>?_
  ·
   simp at g24
   refine(cj) ?_;exact⟨by rw [decide_eq_false (fun e:l1=l2=>g24 (by subst e;rfl))],(St.cg st2)⟩
  simp at g24
  refine gp ?_;refine fx (i+1) ⟨st2,⟨by omega,by rw [List.take_succ_eq_append_getElem cX,List.take_succ_eq_append_getElem yF,gh,g24],trivial⟩⟩
 simp at g14
 have cx:l1=l2:=by
  have h:=gh;rw [List.take_of_length_le (by omega),List.take_of_length_le (by omega)] at h;exact h
 refine(cj) ?_;exact⟨by rw [decide_eq_true cx],(St.cg st1)⟩
set_option maxHeartbeats 1600000 in
theorem Gl{ar a1 a2:Option Addr}{cr n1 e1 n2 e2:Nat}(bF:St w M Z w []) (mF:Rd RR.aH 4 Z w a1 n1 e1 x.ah) (hr:Rd RR.ff 8 Z w a2 n2 e2 x.ao) (h6:x.ao.length≤4000) (h7:x.ah.length≤4000) (hS:qj x.ao):Calls prog 48 #[.slice ar r cr,.agg (x.row a1 n1 e1 a2 n2 e2).toArray] w fun e w'=>∃(D:WD) (wb:Nat) (bs:List Nat) (ml:List (Key × Value)) (Z':Nat→Prop),e=.returned (.pointer (some ⟨wb,0,none⟩))∧oQ x.ao bs ml∧cQ w.heap.size Z Z'∧St w M Z' w' [As.blk wb 154 (D.cells x),As.map Key.val D.m ml,As.fz (D5 60 x.ao bs)]:=by
 refine enter func48 rfl ntmps48 rfl<|?_;have aW:=bF;have st1:=aW.fr mF;have st2:=st1.fr hr;refine(ef) st2 fun b3 w1 gO dB aP=>?_;refine dC ?_;refine WC.df (m:=7) [] [2,6] [1,2,4,5,6,0,3] [(3,.map)] aP (ax.cons M0<|ax.cons M1<|ax.cons M2<|ax.nil) mixed (by kernel_rfl) (by kernel_rfl) rfl<|(nj) aM SV.g0<|(jg) (fun w2 Lt u4 aU oa=>?_);simp only [CA,NA] at aU;have aY:=aU;refine OX.call ad4 rfl rfl ((sB (x:=x) aY.e0 (As.gr aY.g2) (As.gr aY.g1) (by omega) (by omega)).mono ?_);rintro _ w3 ⟨f1,f2,f3,f4,f5,f6,Z1,rfl,gQ,eE⟩;have bj:=St.lv aY eE gQ;have EW:=St.cH eE.p1;have fh:=aY.size;have oZ:=gQ.le fh;have NK:f5=x.ao.length:=((As.gs bj.g1)).len;have bP:=bj.p1.bX (by omega);have kZ:=oZ.trans (cQ.fo (F:=fun x=>x∈aO f4) EW) fh;refine⟨_,rfl,eE.cT.size,_,rfl,_,_,_,bP,aA.k4<|aA.cons<|aA.nil,ax.cons M2<|ax.cons M3<|ax.cons M4<|ax.nil,?_⟩;refine(nj) aM SV.g0<|(jg) (fun w4 Wn I4 bQ sD=>?_);simp only [CA,NA] at bQ;have bV:=bQ;refine OX.call Qy rfl rfl ((mq (x:=x) bV.e0).mono ?_);rintro _ w5 ⟨d1,d2,d3,rfl,ic⟩;have aL:=St.lr bV ic;refine⟨_,rfl,ic.cT.size,_,rfl,_,_,_,aL,aA.k4<|aA.k4<|aA.nil,ax.cons M5<|ax.cons M6<|ax.cons M7<|ax.nil,?_⟩;refine DG.a<|?_;refine DG.side (s:=.map) rfl rfl rfl rfl rfl rfl (fun wx Zx Rx Cc fV=>OX.makeMap Key.val rfl fun b wy nw hb=>⟨nw.ext.size,_,rfl,⟨b,rfl⟩,fV.Pq nw hb⟩)<|?_;rintro _ ⟨rI,rfl⟩;refine(nk) ?_;intro w6 fh aQ;simp only [CM,NM,CA,NA,kL.it] at aQ;refine WP .r (PV.cD (us:=(WD.cells ⟨ar,f1,f4,r,cr,f2,f3,f5,f6,rI,d1⟩ x)) Vz rfl rfl rfl)<|(ef) aQ fun tB w7 Q6 Uv aV=>?_;refine nx ?_;refine WL.nil (EX.np ?_);refine kE ?_;refine WP .r (PV.ld1 (j:=3) eN aV.b0 rfl rfl)<|ew ?_;have bD:=aV.fact (B:=As.fz (D5 60 (x.ao.take 0) [])) (D5.nil _ _ _) (fun _ hx=>hx);refine WC.jY (σ:=Nat × (List Nat) × (List (Key × Value)) × (Nat→Prop)) (eI:=fun(i,bs,ml,Z3)=>[(5,.pointer (some ⟨tB,0,none⟩)),(21,.slice f4 f5 f6),(22,.int .i64 (f5:Int)),(23,.int .i64 (i:Int))]) (F:=fun(i,bs,ml,Z3)=>[As.map Key.val rI ml,As.fz (D5 60 (x.ao.take i) bs)]) (I:=fun(i,bs,ml,Z3)=>(i≤x.ao.length)∧(oQ (x.ao.take i) bs ml)∧(cQ w.heap.size Z Z3)∧True) (μ:=fun(i,bs,ml,Z3)=>x.ao.length - i) (Zf:=fun(i,bs,ml,Z3)=>Z3) (0,[],[],_) (bD.p2) Sub.t (⟨Nat.zero_le _,oQ.nil,kZ,trivial⟩)<|?_;rintro⟨i,bs,ml,Z3⟩ w8 bp ⟨hi,xT,qX,_⟩;simp only [CA,NA] at bp hi xT qX ⊢;have LZ:=xT.1;rw [List.length_take] at LZ;refine(br) (fun g24=>?_) fun g24=>?_
 ·
  simp at g24
  have cX:i<x.ao.length:=by omega
  have lB:=bp.size;refine ew ?_;obtain⟨gF,js,iU,aT,fl,bz,ck,di⟩:=Rd.at (As.gr bp.g6) cX;obtain⟨q1,q2,q3,rfl,qz,pg⟩:=bz;have ba:=bp.fg di ck;refine nx ?_;refine WP .r (PV.fC jk aT rfl rfl (by omega))<|(bA) dn (As.om ba.g0)<|(fU) ba fun b7 w9 uR oo aX=>?_;refine(dA) gJ aX fun kN jv jC bN=>?_;refine nx ?_
  have amH:∀x,x=b7→w.heap.size≤x:=fun x e=>by rw [e];exact Nat.le_trans lB uR.ge
  refine nx ?_;have hN5:=bN.dc;refine WC.dS (m:=6) bN mixed<|(lX) iQ St.g4<|(CS) av St.g0<|(eu)<|?_;rintro kO ⟨Gh,bR⟩ _;refine WL.go rfl (OX.put eD iR (As.gm bR.g2) rfl rfl rfl fun qW FX BZ=>?_);have bE:=bR.p2.mS FX BZ;refine dy ?_;have bZ:=bE.p1;have cG:=bZ.freeze (B:=As.fz (D5 60 (x.ao.take (i+1)) (bs++[b7]))) (by rw [List.take_succ_eq_append_getElem cX];exact D5.snoc ((D5 _ _ _).mono (fun _ h=>.inl h) (As.gf bZ.g3)) (by rw [xT.1]) (.inr rfl) (As.gb bZ.g0)) (fun _ hx=>hx);have cF:=cG.p3.drop;have xU:=qX.trans (cQ.fo (F:=fun x=>x=b7) amH) (Nat.le_refl _);refine dC ?_;refine fx (i+1,bs++[b7],_,_) ⟨cF.p2.drop.p1,⟨by omega,by rw [List.take_succ_eq_append_getElem cX];exact xT.snoc (hS.ne cX),xU,trivial⟩⟩
 simp at g24
 have Gi:x.ao.take i=x.ao:=List.take_of_length_le (by omega);rw [Gi] at xT;have ba:=bp.p1.CE (B:=As.fz (D5 60 x.ao bs)) (by rw [Gi]);refine(cj) ?_;exact⟨⟨ar,f1,f4,r,cr,f2,f3,f5,f6,rI,d1⟩,tB,bs,ml,_,rfl,xT,qX,ba.p1.p2.k3⟩
theorem Jh(hW:cI w wb 154 (D.cells x)) (hm:KM Key.val w D.m mO) (hg:cq mO k=some (.pointer (some ⟨rb,0,none⟩))) (hR:cI w rb 60 (y.row a n c)) (hv:y.az=x.ae) (hk:aB k=false):CR prog 92 #[.pointer (some ⟨wb,0,none⟩),k.val] w (.bool true):=by
 refine enter func92 rfl ntmps92 rfl<|?_;have aW:=St.s0 w;refine(ef) aW fun b3 w1 gO dB st1=>?_;refine dC ?_;have zo:=st1.dc;refine WC.dS (m:=5) st1 mixed<|dy ?_;refine DP .r (fun _ hC=>V1 iQ (cI.range (hW.ext (St.cg hC.2))) .r)<|(ju) av St.g0<|(eu)<|?_;rintro w2 ⟨fh,st2⟩ _;refine WP .r (PV.dG eD iR jB (hm.ext (St.cg st2)) (hg) rfl rfl)<|dC ?_;have QX:=st2.dc;refine WC.eU (m:=15) (E:=dx [(1,fun v _=>v=.bool false)]) st2 (bS (⟨fun _ _ _ _ _ _ _ h=>h,trivial⟩)) mixed (by kernel_rfl)<|(ju) av St.g0<|?_;refine DW.c1 (u:=.bool false) (fun wx hC hF=>dF (k:=k)) (by rw [hk])<|dC ?_;refine DW.gi (t:=17) rfl (fun g17=>?_) (fun g17=>?_)
 ·
  refine dy ?_;refine DP .r (fun _ hC=>V1 aZ (cI.range (hR.ext (St.cg hC.2))) .r)<|dC ?_;refine DP .r (fun _ hC=>PV.ld1 (j:=1) aZ (cI.range (hW.ext (St.cg hC.2))) rfl rfl)<|(eu)<|?_;rintro w3 ⟨pK,aP⟩ ⟨_,_⟩;refine(cj) ?_;exact⟨by simp [hv],(St.cg aP)⟩
 exact gw g17
theorem Gm(hW:cI w wb 154 (D.cells x)) (hm:KM Key.val w D.m mO) (hg:cq mO k=some (.pointer (some ⟨rb,0,none⟩))) (hR:cI w rb 60 (y.row a n c)) (hv:y.az=x.ae) (hk:aB k=false):CR prog 49 #[.pointer (some ⟨wb,0,none⟩),k.val] w (.agg #[.int .i64 0,.int .i64 0,.string ⟨#[]⟩]):=by
 refine enter func49 rfl ntmps49 rfl<|?_;have aW:=St.s0 w;refine(ef) aW fun b3 w1 gO dB st1=>?_;refine(fU) st1 fun b4 w2 jE bM st2=>?_;refine dy ?_;have zo:=st2.dc;refine WC.dS (m:=5) st2 mixed<|dy ?_;refine DP .r (fun _ hC=>V1 iQ (cI.range (hW.ext (St.cg hC.2))) .r)<|(ju) av St.g1<|(eu)<|?_;rintro w3 ⟨fh,aP⟩ _;refine WP .r (PV.dG eD iR jB (hm.ext (St.cg aP)) (hg) rfl rfl)<|(bA) av aP.b1<|(gg) (Jh (hW.ext (St.cg aP)) (hm.ext (St.cg aP)) hg (hR.ext (St.cg aP)) hv hk) aP fun w4 s4 aU=>?_;refine dy ?_;refine WC.zP rfl<|(dA) Bq aU fun w5 jv jC aY=>?_;refine(mU) uD aY.b0<|?_;exact⟨rfl,(St.cg aY)⟩
theorem oK(hv:y.az=x.ae):CR prog 104 #[.agg ([Value.int .i64 x.ae,.slice b1 p1 g1,.slice b2 p2 g2,.pointer (some ⟨S.s,0,none⟩),.pointer (some ⟨wb,0,none⟩)]:List Value).toArray,.agg (y.row a n c).toArray] w (.bool true):=by
 refine enter func104 rfl ntmps104 rfl<|?_;have aW:=St.s0 w;refine(ef) aW fun b2 w1 lA eZ st1=>?_;refine(ef) st1 fun b3 w2 gO dB st2=>?_;refine(bO) aZ st2.b0<|cV ?_;refine WP .r (PV.ld1 (j:=0) aZ st2.b1 rfl rfl)<|(cj) ?_;exact⟨by simp [hv],(St.cg st2)⟩
theorem Dn(hn:n=y.reads.length) (hn4:n≤4000):CR prog 63 #[.agg ([Value.int .i64 x.ae,.slice b1 p1 g1,.slice b2 p2 g2,.pointer (some ⟨S.s,0,none⟩),.pointer (some ⟨wb,0,none⟩)]:List Value).toArray,.agg (y.row a n c).toArray] w (.bool (xw y)):=by
 refine enter func63 rfl ntmps63 rfl<|?_;have aW:=St.s0 w;refine(ef) aW fun b2 w1 lA eZ st1=>?_;refine(ef) st1 fun b3 w2 gO dB st2=>?_;refine(bO) aZ st2.b0<|(bO) fA st2.b0<|(cj) ?_;exact⟨by unfold xw;rw [hn],(St.cg st2)⟩
theorem sE(bF:St w M Z w [As.map Key.val S.m ml,As.map Key.val S.q []]) (hf:(S.FV prog ab x).p Z w) (hm:bd ab x.ah ml) (hR:ay ab) (hS:∀k,(valOf ab x.ah k).size≤1000) (hk:gH ab y.key):Calls prog 105 #[.agg ([Value.int .i64 x.ae,.slice b1 p1 g1,.slice b2 p2 g2,.pointer (some ⟨S.s,0,none⟩),.pointer (some ⟨wb,0,none⟩)]:List Value).toArray,.agg (y.row a n c).toArray] w fun e w'=>∃ed,e=.returned (.bool (vA ab x.ah y))∧bd ab x.ah ed∧iJ ml ed∧St w M Z w' [As.map Key.val S.m ed,As.map Key.val S.q []]:=by
 refine enter func105 rfl ntmps105 rfl<|?_;have aW:=bF;have st1:=aW.fact (B:=As.fz (S.FV prog ab x)) hf (fun _ hx=>hx);refine(ef) st1 fun b2 w1 lA eZ st2=>?_;refine(ef) st2 fun b3 w2 gO dB aP=>?_;refine dC ?_;refine WC.df (m:=7) [] [4] [0,1,2,3,4,5,6] [] aP (ax.cons M0<|ax.cons M1<|ax.cons M2<|ax.nil) mixed (by kernel_rfl) (by kernel_rfl) rfl<|(xh) uF SV.g1<|(J7) av SV.g0<|(jg) (fun w3 UG Gd aU qY=>?_);simp only [CA,NA] at aU;have aY:=aU.p4.p4;refine OX.call N4 rfl rfl ((Cj hR hS hk _ _ _ _ _ aY.e2 (As.gf aY.g4) hm (fun _=>nI.nil _)).mono ?_);rintro _ w4 ⟨fm,rfl,jf,fT,fE⟩;have bj:=St.lr aY fE;refine⟨_,rfl,fE.cT.size,_,rfl,_,_,_,bj,aA.k4<|aA.cons<|aA.nil,ax.cons M2<|ax.cons M3<|ax.cons M4<|ax.nil,?_⟩;refine(xh) iq SV.g0<|(nk)<|?_;intro w5 fh bP;simp only [CM,NM,CA,NA,kL.it] at bP;refine cV ?_;refine WL.nil (EX.np ?_);refine(cj) ?_;exact⟨fm,rfl,jf,fT,bP.p1.p1.k2⟩
theorem Cm(bF:St w M Z w [As.map Key.val S.m ml,As.map Key.val S.q []]) (hf:(S.FV prog ab x).p Z w) (hm:bd ab x.ah ml) (hR:ay ab) (hS:∀k,(valOf ab x.ah k).size≤1000) (hk:gH ab y.key) (hv:y.az=x.ae):Calls prog 59 #[.agg ([Value.int .i64 x.ae,.slice b1 p1 g1,.slice b2 p2 g2,.pointer (some ⟨S.s,0,none⟩),.pointer (some ⟨wb,0,none⟩)]:List Value).toArray,.agg (y.row a n c).toArray] w fun e w'=>∃ed,e=.returned (.bool (vA ab x.ah y))∧bd ab x.ah ed∧iJ ml ed∧St w M Z w' [As.map Key.val S.m ed,As.map Key.val S.q []]:=by
 refine enter func59 rfl ntmps59 rfl<|?_;have aW:=bF;have st1:=aW.fact (B:=As.fz (S.FV prog ab x)) hf (fun _ hx=>hx);refine(ef) st1 fun b2 w1 lA eZ st2=>?_;refine(ef) st2 fun b3 w2 gO dB aP=>?_;refine(bA) nP aP.b1<|(bA) dn aP.b0<|(gg) (oK hv) aP fun w3 s3 aU=>?_;refine(bA) nP aU.b1<|(bA) dn aU.b0<|?_;have aY:=aU.p4.p4;refine(cW) VK (sE aY.e2 (As.gf aY.g4) hm hR hS hk) ?_;rintro _ w4 ⟨fm,rfl,jf,fT,fE⟩;have bj:=St.lr aY fE;refine(cj) ?_;exact⟨fm,rfl,jf,fT,bj.p1.p1.k2⟩
theorem Dp(bF:St w M Z w [As.map Key.val S.m ml,As.map Key.val S.q []]) (hf:(S.FV prog ab x).p Z w) (hm:bd ab x.ah ml) (hR:ay ab) (hS:∀k,(valOf ab x.ah k).size≤1000) (hi:i<ab.length) (OH:k=aS ab (i:Int)):Calls prog 106 #[.pointer (some ⟨S.s,0,none⟩),k.val] w fun e w'=>∃ed ra rn rc,e=.returned (.slice ra rn rc)∧bd ab x.ah ed∧iJ ml ed∧St w M Z w' [As.os RR.key 58 2 ra rn rc (dD ab x.ah i),As.map Key.val S.m ed,As.map Key.val S.q []]:=by
 subst OH;have qf:=hR.len;have gk:=dI hi (show i≤99 by omega);refine enter func106 rfl ntmps106 rfl<|?_;have aW:=bF;have st1:=aW.fact (B:=As.fz (S.FV prog ab x)) hf (fun _ hx=>hx);refine(ef) st1 fun b3 w1 gO dB st2=>?_;refine(bA) av st2.b0<|?_;refine WL.c1 (u:=.bool false) (dF (k:=aS ab (i:Int))) (by rw [gk]) st2 fun w2 s2 aP=>?_;refine cV ?_;refine WC.gT rfl<|(bA) av aP.b0<|nx ?_;refine WP .r (PV.func (us:=[.pointer (some ⟨S.s,0,none⟩)]) (vs:=[]) rfl rfl)<|?_;have aU:=aP.p3.p3;refine(cW) MD (yS aU.e2 (As.gf aU.g3) hm hR hi hS (fun _ _ _=>nI.nil _) (fun a ha=>Cj hR hS (ha.Nk hR))) ?_;rintro _ w3 ⟨fm,ra,rn,rc,rfl,jf,fT,eE⟩;have aY:=St.lr aU eE;refine bC ?_;refine(cj) ?_;exact⟨fm,_,_,_,rfl,jf,fT,aY.p3.drop.p3.drop⟩
theorem Cn(bF:St w M Z w [As.map Key.val S.m ml,As.map Key.val S.q []]) (hf:(S.FV prog ab x).p Z w) (hm:bd ab x.ah ml) (hR:ay ab) (hS:∀k,(valOf ab x.ah k).size≤1000) (hi:i<ab.length) (hy:y.key=aS ab (i:Int)) (hv:y.az=x.ae) (oR:Rd RR.key 2 Z w a n c y.reads):Calls prog 60 #[.agg ([Value.int .i64 x.ae,.slice b1 p1 g1,.slice b2 p2 g2,.pointer (some ⟨S.s,0,none⟩),.pointer (some ⟨wb,0,none⟩)]:List Value).toArray,.agg (y.row a n c).toArray] w fun e w'=>∃ed,e=.returned (.bool (tc ab x.ah y))∧bd ab x.ah ed∧iJ ml ed∧St w M Z w' [As.map Key.val S.m ed,As.map Key.val S.q []]:=by
 have ha6:=l7 hR hi;have J5:=nL ab x.ah i;refine enter func60 rfl ntmps60 rfl<|?_;have aW:=bF;have st1:=aW.fr oR;have st2:=st1.fact (B:=As.fz (S.FV prog ab x)) hf (fun _ hx=>hx);refine(ef) st2 fun b2 w1 lA eZ aP=>?_;refine(ef) aP fun b3 w2 gO dB aU=>?_;refine dC ?_;refine WC.df (m:=12) [] [2,9] [0,1,2,3,4,5,6,7,8,9,10,11] [] aU (ax.k4 M0 M1 M2 M3<|ax.nil) mixed (by kernel_rfl) (by kernel_rfl) rfl<|(nj) nP SV.g1<|(nj) dn SV.g0<|(jg) (fun w3 Lt u4 aY oa=>?_);simp only [CA,NA] at aY;refine OX.call VJ rfl rfl ((oK hv).mono ?_);rintro _ w4 ⟨rfl,s4⟩;have bj:=aY.step s4;refine⟨_,rfl,s4.size,_,rfl,_,_,_,bj,aA.k4<|aA.k2<|aA.nil,ax.k4 M0 M1 M2 M3<|ax.nil,?_⟩
 iterate 3 refine DG.a ?_
 refine(xh) uF SV.g1<|(J7) av SV.g0<|(jg) (fun w5 R9x Oq bP yT=>?_);simp only [CA,NA] at bP;have bQ:=bP.p5.p5;refine OX.call VL rfl rfl ((Dp bQ.e2 (As.gf bQ.g4) hm hR hS hi hy).mono ?_);rintro _ w6 ⟨fm,ra,rn,rc,rfl,jf,fT,mE⟩;have bV:=St.lr bQ mE;refine⟨_,rfl,mE.cT.size,_,rfl,_,_,_,bV,aA.k4<|aA.k2<|aA.cons<|aA.nil,ax.k4 M3 M4 M5 M6<|ax.nil,?_⟩;refine(xh) fA SV.g0<|(nk)<|?_;intro w7 fh aL;simp only [CM,NM,CA,NA,kL.it] at aL;refine(gg) (tY (Ow.rd (As.gs aL.g0) (by omega)) (As.gr aL.g6)) aL fun w8 s8 aQ=>?_;refine cV ?_;refine WL.nil (EX.np ?_);refine(cj) ?_;exact⟨fm,by unfold tc;rw [hy,iO hR hi],jf,fT,aQ.p2.p2.k2⟩
theorem Co{bv:Nat}(bF:St w M Z w []) (hb:cI w bv 123 [Value.int .i64 x.ae,.slice b1 p1 g1,.slice b2 p2 g2,.pointer (some ⟨S.s,0,none⟩),.pointer (some ⟨wb,0,none⟩)]) (hr:Rd RR.ff 8 Z w b2 p2 g2 x.ao) (j8:∀y∈x.ao,y.az=x.ae) (hk:gH ab k):CR prog 107 #[k.val,.pointer (some ⟨bv,0,none⟩)] w (.bool false):=by
 have l8:=hk.gY;refine enter func107 rfl ntmps107 rfl<|?_;have aW:=St.rb bF;have st1:=aW.fr hr;refine(ef) st1 fun b2 w1 lA eZ st2=>?_;refine gp ?_;refine WP .r (PV.ld1 (j:=2) eN (cI.range (hb.ext (St.cg st2))) rfl rfl)<|(bA) av st2.b0<|?_;have aP:=st2;refine(cW) YT (qD (k:=k) aP.e0 (As.gr aP.g1)) ?_;rintro _ w2 ⟨f1,f2,f3,rfl,_,tu⟩;have aU:=St.lr aP tu;refine(fU) aU fun b4 w3 jE bM aY=>?_;refine(dA) gJ aY fun w4 jv jC bj=>?_;refine dC ?_;refine WC.mC (t:=3) (v:=.bool false) bj ?_<|?_
 ·
  refine(bA) av bj.b2<|(gg) (dF (k:=k)) bj fun w5 s5 bP=>?_;refine(dW) (fun g17=>?_) (fun g17=>?_)
  ·
   refine(bA) av bP.b2<|(gg) (l4 (k:=k) l8) bP fun w6 s6 bQ=>?_;refine(dW) (fun g22=>?_) (fun g22=>?_)
   ·
    refine(dW) (fun fy=>?_) (fun fy=>?_)
    ·
     have hvk:(aG x.ao k).az=x.ae:=Xz j8 (by simp_all);refine(bA) nP (cI.range (hb.ext (St.cg bQ)))<|(bA) dn bQ.b0<|(gg) (oK (y:=aG x.ao k) hvk) bQ fun w7 s7 bV=>?_;exact(iu) (tG (aj g17<|aj g22 fy)) (bV)
    exact(iu) (tG (aj g17<|aj g22 fy)) (bQ)
   exact(iu) (tG (aj g17 g22)) (bQ)
  refine bC ?_;exact(iu) (tG g17) (bP)
 intro w5 bP;refine(cj) ?_;exact⟨rfl,(St.cg bP)⟩
theorem Cp(bF:St w M Z w []) (hr:Rd RR.ff 8 Z w b2 p2 g2 x.ao) (j8:∀y∈x.ao,y.az=x.ae) (hv:y.az=x.ae) (oR:Rd RR.key 2 Z w a n c y.reads) (xm:∀k∈y.reads,gH ab k):CR prog 61 #[.agg ([Value.int .i64 x.ae,.slice b1 p1 g1,.slice b2 p2 g2,.pointer (some ⟨S.s,0,none⟩),.pointer (some ⟨wb,0,none⟩)]:List Value).toArray,.agg (y.row a n c).toArray] w (.bool true):=by
 refine enter func61 rfl ntmps61 rfl<|?_;have aW:=St.rb bF;have st1:=aW.fr hr;have st2:=st1.fr oR;refine(ef) st2 fun b2 w1 lA eZ aP=>?_;refine(ef) aP fun b3 w2 gO dB aU=>?_;refine(bA) nP aU.b1<|(bA) dn aU.b0<|(gg) (oK hv) aU fun w3 s3 aY=>?_;refine(bO) fA aY.b0<|?_;refine WP .r (PV.func (us:=[]) (vs:=[.pointer (some ⟨b2,0,none⟩)]) rfl rfl)<|?_;refine WL.c1 (u:=.bool false) (wF (p:=fun _=>false) ad9 (As.gr aY.g2) (fun w1 h1 k hk=>Co (ab:=ab) (M:=fun _=>False) (Z:=Z) (St.start (fun x hx=>Nat.lt_of_lt_of_le (aY.mx x hx) h1.size)) (((As.gb aY.g1)).ext h1) (((As.gr aY.g3)).ext h1) j8 (xm k hk))) (by rw [List.any_eq_false.2 (fun _ _=>by simp)]) aY fun w4 s4 bj=>?_;refine(cj) ?_;exact⟨rfl,(St.cg bj)⟩
theorem Dq{bs:List Nat}{j:Nat}(bF:St w M Z w [As.map Key.val S.m ml,As.map Key.val S.q [],As.blk wb 154 (D.cells x),As.map Key.val D.m mO,As.fz (D5 60 x.ao bs)]) (hf:(S.FV prog ab x).p Z w) (hm:bd ab x.ah ml) (hR:ay ab) (hS:∀k,(valOf ab x.ah k).size≤1000) (hk:gH ab y.key) (gk:aB y.key=false) (hv:y.az=x.ae) (xT:oQ x.ao bs mO) (hj:x.ao[j]?=some y):Calls prog 62 #[.agg ([Value.int .i64 x.ae,.slice b1 p1 g1,.slice b2 p2 g2,.pointer (some ⟨S.s,0,none⟩),.pointer (some ⟨wb,0,none⟩)]:List Value).toArray,.agg (y.row a n c).toArray] w fun e w'=>∃ed,e=.returned (.bool (vA ab x.ah y))∧bd ab x.ah ed∧iJ ml ed∧St w M Z w' [As.map Key.val S.m ed,As.map Key.val S.q [],As.blk wb 154 (D.cells x),As.map Key.val D.m mO,As.fz (D5 60 x.ao bs)]:=by
 obtain⟨rb,MQ⟩:∃b,bs[j]?=some b:=⟨_,aq (show j<bs.length by have:=(List.getElem?_eq_some_iff.1 hj).1;rw [xT.1];exact this)⟩;have wB:=xT.2 j y rb hj MQ;refine enter func62 rfl ntmps62 rfl<|?_;have aW:=bF;have st1:=aW.fact (B:=As.fz (S.FV prog ab x)) hf (fun _ hx=>hx);refine(ef) st1 fun b2 w1 lA eZ st2=>?_;refine(ef) st2 fun b3 w2 gO dB aP=>?_;refine dC ?_;obtain⟨_,aR,nR,cR,hbR⟩:=(As.gf aP.g7) j y rb hj MQ;refine(bO) FE aP.b1<|(kF) av aP.b0<|(gg) (Gm (As.gb aP.g5) (As.gm aP.g6) wB hbR hv gk) aP fun w3 s3 aU=>?_;refine WP .r (PV.xj (fs:=[_,_]) (f:=0) (off:=0) (T:=111) underlying111 rfl rfl (show ∀w,(isAgg 3).run _ w=.ok false w from isAgg3) rfl rfl)<|(dW) (fun g12=>?_) (fun g12=>?_)
 ·
  exact gw g12
 refine(bA) nP aU.b1<|(bA) dn aU.b0<|?_;have aY:=aU.p4.p4;refine(cW) VK (sE aY.e2 (As.gf aY.g4) hm hR hS hk) ?_;rintro _ w4 ⟨fm,rfl,jf,fT,fE⟩;have bj:=St.lr aY fE;refine(cj) ?_;exact⟨fm,rfl,jf,fT,bj.p2.drop.p2.drop.p2.drop⟩
end Go.Rc

