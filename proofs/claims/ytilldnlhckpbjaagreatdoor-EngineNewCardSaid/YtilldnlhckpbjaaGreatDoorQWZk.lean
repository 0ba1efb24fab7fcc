/- Walks over the program, part WZk. Conditions: as each theorem says. -/
import Derived.Test.YtilldnlhckpbjaaGreatDoorQFacts
import Derived.Test.YtilldnlhckpbjaaGreatDoorQWYd
import Derived.Test.YtilldnlhckpbjaaGreatDoorQWH
import Derived.Test.YtilldnlhckpbjaaGreatDoorQBe
import Derived.Test.YtilldnlhckpbjaaGreatDoorQBg
import Derived.Test.YtilldnlhckpbjaaGreatDoorQWYk
import Derived.Test.YtilldnlhckpbjaaGreatDoorQWUa
import Derived.Test.YtilldnlhckpbjaaGreatDoorQBf
import Derived.Test.YtilldnlhckpbjaaGreatDoorQBh
import Derived.Test.YtilldnlhckpbjaaGreatDoorQWN
set_option linter.all false
namespace Go.Rc
open Go Go.Proofs Go.Proofs.Tryz
variable {x:cB}{a1 a2 a b ar:Option Addr}{n1 e1 n2 e2 n c m e r cr d:Nat}{w:World}{M Z Z2:Nat→Prop}{l q:List Key}{aa:List aG}
set_option maxHeartbeats 400000
set_option maxHeartbeats 1600000 in
set_option maxRecDepth 8000 in
theorem j4{l:List Change}{al:Option Addr}{nl g:Nat}(gJ:St w M Z w []) (hi:Rd RR.aD 4 Z w a1 n1 e1 x.ab) (hr:Rd RR.iV 8 Z w a2 n2 e2 x.ai) (hl:Rd RR.cq 3 Z w al nl g l) (hb:gz x) (hx:hW x.ad x.ab) (hs:∀c∈l,c.small) (hl4:l.length≤32):Calls prog 9 #[.agg (x.row a1 n1 e1 a2 n2 e2).toArray,.slice al nl g] w fun e w'=>∃(y:cB) (b1 b2:Option Addr) (m1 d1 m2 d2:Nat) (er:Int) (Z':Nat→Prop),e=.returned (.tuple #[.agg (y.row b1 m1 d1 b2 m2 d2).toArray,.int .i64 er])∧y.ai=x.ai∧x.ad≤y.ad∧y.ad≤1073741824∧hW y.ad y.ab∧y.ab.length≤64∧y.ad≤x.ad+1∧S0 x l y∧AO x l y∧(x.ad+1≤1073741824→er=0)∧Rd RR.aD 4 Z' w' b1 m1 d1 y.ab∧Rd RR.iV 8 Z' w' b2 m2 d2 y.ai∧fE w.heap.size Z Z'∧St w M Z' w' []:=by
 have hln:=hl.len;have h7a:=hb.2.2.2.2.1;have h6a:=hb.2.2.2.2.2.1
 have h6:x.ai.length≤1000000:=by omega
 have h7:x.ab.length≤1000000:=by omega
 have hv0:=hb.2.2.1;have CN:=hb.2.2.2.1;refine enter func9 rfl ntmps9 rfl<|?_;have aO:=St.rb gJ;have st1:=aO.fr hi;have st2:=st1.fr hr;have lN:=st2.fr hl;refine(dx) lN fun b2 w1 Td CC jl=>?_;refine(gx) jl fun b4 w2 CX H0 ki=>?_;refine(bP) cc ki.b1<|?_;have jr:=ki;refine(cJ) Pn (pk (x:=x) jr.e0 (As.gr jr.g4) (As.gr jr.g3) h6 h7) ?_;rintro _ w3 ⟨f1,f2,f3,f4,f5,f6,Z1,rfl,yz,vJ⟩;have ku:=St.lv jr vJ yz;have Yv:=St.gV vJ;have Yw:=St.gV vJ.p1;have xX:=jr.size;have MM:=yz.le xX;have Yx:=St.fresh ku;have im:=ku.eX (by omega);have Yy:=St.fresh im.p1;have jZ:=im.p1.eX (by omega);have Yz:=(MM.trans (fE.wt (F:=fun x=>x∈bA f1) Yv) xX).trans (fE.wt (F:=fun x=>x∈bA f4) Yw) xX;refine(dZ) kW jZ.p3 fun w4 nT rH fw=>?_;refine(bP) cc fw.b0<|(cJ) Po (nI (x:=x) (As.gr fw.g2) (As.gr fw.g1)) ?_;rintro _ w5 ⟨bb,rfl,hbb,s5⟩;have eC:=fw.step s5;obtain rfl:bb=true:=hbb.2 hb;refine(aX) (fun g24=>?_) fun g24=>?_
 ·
  exact cL g24
 ·
  refine(aX) (fun F5=>?_) fun F5=>?_
  ·
   exact cL F5
  refine aT ?_;refine WC.bj (σ:=Nat) (db:=fun i=>[(1,.slice al nl g),(2,.pointer (some ⟨b2,0,none⟩)),(4,.pointer (some ⟨b4,0,none⟩)),(34,.slice al nl g),(35,.int .i64 (nl:Int)),(36,.int .i64 (i:Int))]) (F:=fun i=>[]) (I:=fun i=>(i≤l.length)∧True) (μ:=fun i=>l.length - i) (0) (eC) Sub.t (⟨by omega,trivial⟩)<|?_;rintro i w6 eQ ⟨dw,_⟩;simp only [CA,NA] at eQ dw ⊢;refine(aX) (fun g37=>?_) fun g37=>?_
  ·
   simp at g37
   have H:i<l.length:=by omega
   have IL:=hs _ (List.getElem_mem H);have Tn:=IL.ok;have HZ:=IL.2;refine dp ?_;obtain⟨jj,sJ,sK,eB,ma,J,iH,iI⟩:=Rd.at (As.gr eQ.g4) H;have J:=RR.bt J;subst J;have P:=eQ.fg iI iH;refine nx ?_;refine WP .r (PV.dR Cu eB rfl rfl (by omega))<|(bP) xI (As.nS P.g0)<|(gx) P fun b7 w7 nw7 hb7 N=>?_;refine(dZ) EC N fun w8 Bt wu V=>?_;refine(ko) ak V.b0<|?_;refine WL.c1 (u:=.bool true) (gl (k:=l[i].key)) (by rw [Tn.1]) V fun w9 s9 Q=>?_;refine(ko) ak Q.b0<|?_;refine WL.c1 (u:=.bool true) (dP (k:=l[i].key)) (by rw [Tn.2]) Q fun lI s10 e4=>?_;refine cw ?_;refine WC.ef rfl<|fb ?_;refine fx (i+1) ⟨e4.drop.drop,⟨by omega,trivial⟩⟩
  skip
  refine aT ?_;refine bM ?_;refine WC.bj (σ:=Nat) (db:=fun i=>[(1,.slice al nl g),(2,.pointer (some ⟨b2,0,none⟩)),(4,.pointer (some ⟨b4,0,none⟩)),(52,.slice al nl g),(53,.int .i64 (nl:Int)),(54,.int .i64 (i:Int))]) (F:=fun i=>[]) (I:=fun i=>(i≤l.length)∧True) (μ:=fun i=>l.length - i) (0) (eQ) Sub.t (⟨by omega,trivial⟩)<|?_;rintro i w7 P ⟨dw,_⟩;simp only [CA,NA] at P dw ⊢;refine(aX) (fun Rw=>?_) fun Rw=>?_
  ·
   simp at Rw
   have H:i<l.length:=by omega
   have IL:=hs _ (List.getElem_mem H);have HZ:=IL.2;refine dp ?_;obtain⟨jj,sJ,sK,eB,ma,J,iH,iI⟩:=Rd.at (As.gr P.g4) H;have J:=RR.bt J;subst J;have N:=P.fg iI iH;refine nx ?_;refine WP .r (PV.dR Cu eB rfl rfl (by omega))<|(bP) xI (As.nS N.g0)<|(gx) N fun b9 w8 nw9 hb9 V=>?_;refine(dZ) EC V fun w9 LS BR Q=>?_;refine(bp) ff Q.b0<|(aX) (fun HP=>?_) fun HP=>?_
   ·
    exact cL HP
   refine fb ?_;refine fx (i+1) ⟨Q.drop.drop,⟨by omega,trivial⟩⟩
  skip
  refine(bP) cc P.b0<|?_;have N:=P;refine(cJ) Pn (pk (x:=x) N.e0 (As.gr N.g2) (As.gr N.g1) h6 h7) ?_;rintro _ w8 ⟨k1,k2,k3,k4,k5,k6,Z2,rfl,RV,j0⟩;have V:=St.lv N j0 RV;have YA:=St.gV j0;have YB:=St.gV j0.p1;have sS:=N.size;have YC:=Yz.trans RV sS;have YD:=St.fresh V;have Q:=V.eX (by omega);have YE:=St.fresh Q.p1;have e4:=Q.p1.eX (by omega);have YF:=(YC.trans (fE.wt (F:=fun x=>x∈bA k1) YA) sS).trans (fE.wt (F:=fun x=>x∈bA k4) YB) sS;refine(gx) e4 fun R w9 H3 H4 fh=>?_;refine(dZ) kW fh fun lI S6 S7 eD=>?_;refine(bp) aP eD.b0<|bM ?_;refine WL.s1 eD fun mH _ eU=>?_;refine aT ?_;refine cw ?_;refine WC.nf (σ:=Nat × Bool × (List bW) × (Option Addr) × Nat × Nat × (Nat→Prop)) (db:=fun(i,ch,li,K,D,L,S)=>[(1,.slice al nl g),(2,.pointer (some ⟨b2,0,none⟩)),(4,.pointer (some ⟨b4,0,none⟩)),(10,.pointer (some ⟨R,0,none⟩)),(11,.bool ch),(70,.slice al nl g),(71,.int .i64 (nl:Int)),(72,.int .i64 (i:Int))]) (F:=fun(i,ch,li,K,D,L,S)=>[As.blk R 32 [.int .i64 (x.ad+1),.slice K D L,.slice k4 k5 k6],As.ro RR.aD 4 K D L li]) (I:=fun(i,ch,li,K,D,L,S)=>(i≤l.length)∧(hW (x.ad+1) li)∧(li.length≤x.ab.length+i)∧(∀k,(∀c∈l,c.key≠k)→bf li k=bf x.ab k)∧(∀k,bf li k=bf x.ab k∨(bf li k).changed=x.ad+1)∧(fE w.heap.size Z S)∧(Cf x l i ch li)∧True) (μ:=fun(i,ch,li,K,D,L,S)=>l.length - i) (Zf:=fun(i,ch,li,K,D,L,S)=>S) (0,false,x.ab,k1,k2,k3,_) (eU.p2.p1) Sub.t (⟨by omega,hx.mono (by omega),by omega,fun _ _=>rfl,fun _=>.inl rfl,YF,.start,trivial⟩)<|?_;rintro⟨i,ch,li,K,D,L,S⟩ pS B ⟨dw,hG,YG,Ts,Tt,sw,FO,_⟩;simp only [CA,NA] at B dw hG YG Ts Tt sw FO ⊢;refine(aX) (fun Ic=>?_) fun Ic=>?_
  ·
   have YH:=((As.gr B.g1)).len
   simp at Ic
   have H:i<l.length:=by omega
   have IL:=hs _ (List.getElem_mem H);refine dp ?_;obtain⟨jj,sJ,sK,eB,ma,J,iH,iI⟩:=Rd.at (As.gr B.g7) H;have J:=RR.bt J;subst J;have s:=B.fg iI iH;refine bM ?_;refine WP .r (PV.dR Cu eB rfl rfl (by omega))<|(bP) xI (As.nS s.g0)<|(gx) s fun NG rO H8 Ym gw=>?_;refine(dZ) EC gw fun x2 ss4 SN ic=>?_;refine aT ?_;refine nx ?_;refine WP .r (PV.Dj Cu (i:=i+1) (As.gr ic.g9) rfl rfl (by omega))<|cv ?_;have eb:=ic.fr (SR.drop (i:=i+1) (As.gr ic.g9) (by omega));refine bM ?_;refine WC.bj (σ:=Nat × Bool) (db:=fun(q,W)=>[(1,.slice al nl g),(2,.pointer (some ⟨b2,0,none⟩)),(4,.pointer (some ⟨b4,0,none⟩)),(10,.pointer (some ⟨R,0,none⟩)),(11,.bool ch),(13,.pointer (some ⟨NG,0,none⟩)),(14,.bool W),(70,.slice al nl g),(71,.int .i64 (nl:Int)),(72,.int .i64 (i:Int)),(80,.slice (lT al (i+1) 3 g) (nl - (i+1)) (g - (i+1))),(81,.int .i64 ((nl - (i+1):Nat):Int)),(82,.int .i64 (q:Int))]) (F:=fun(q,W)=>[]) (I:=fun(q,W)=>(q≤nl - (i+1))∧(q=0→W=true)∧True) (μ:=fun(q,W)=>nl - (i+1) - q) (0,true) (eb) Sub.t (⟨by omega,fun _=>rfl,trivial⟩)<|?_;rintro⟨q,W⟩ x3 e7 ⟨hq,hla,_⟩;simp only [CA,NA] at e7 hq hla ⊢;refine(aX) (fun NC=>?_) fun NC=>?_
   ·
    simp at NC
    have Ij:q<(l.drop (i+1)).length:=by rw [List.length_drop];omega
    refine dp ?_;obtain⟨rM,Fo,Fp,iJ,yk,lh,pz,nP⟩:=Rd.at (As.gr e7.g0) Ij;have lh:=RR.bt lh;subst lh;have O:=e7.fg nP pz;refine nx ?_;refine WP .r (PV.dR Cu iJ rfl rfl (by omega))<|(bP) xI (As.nS O.g0)<|(gx) O fun b16 vq YI YJ j2=>?_;refine(dZ) EC j2 fun Bu Wd We X=>?_;refine bM ?_;have C:=X;refine WC.iU (σ:=Bool) [] (fun Ms=>[(1,.slice al nl g),(2,.pointer (some ⟨b2,0,none⟩)),(4,.pointer (some ⟨b4,0,none⟩)),(10,.pointer (some ⟨R,0,none⟩)),(11,.bool ch),(13,.pointer (some ⟨NG,0,none⟩)),(14,.bool Ms),(70,.slice al nl g),(71,.int .i64 (nl:Int)),(72,.int .i64 (i:Int)),(80,.slice (lT al (i+1) 3 g) (nl - (i+1)) (g - (i+1))),(81,.int .i64 ((nl - (i+1):Nat):Int)),(82,.int .i64 (q:Int))]) (fun Ms=>[]) (fun Ms=>True) C ?_ ?_
    ·
     refine(cO) (fun H5=>?_) (fun H5=>?_)
     ·
      refine(ko) ak C.b0<|(ko) ak C.b3<|?_;refine WP .r (PV.It fP (p:=(l.drop (i+1))[q].key) (q:=l[i].key) rfl rfl)<|cv ?_;exact nj (_) ⟨C,trivial⟩
     refine gW ?_;exact nj (_) ⟨C,trivial⟩
    rintro Ms CL G _;simp only [CA,NA] at G ⊢;refine fj ?_;refine fx (q+1,_) ⟨G.drop.drop,⟨by omega,fun h=>absurd h (Nat.succ_ne_zero _),trivial⟩⟩
   skip
   refine fb ?_;refine WC.eF (t:=105) (v:=.bool (!W || decide ((bf x.ab l[i].key).value=l[i].value))) e7 ?_<|?_
   ·
    have agk:=e7.bL;refine WC.dh (m:=9) (E:=cA [(6,fun v _=>v=.string (bf x.ab l[i].key).value)]) e7 (bz (⟨fun _ _ _ _ _ _ _ h=>h,trivial⟩)) mixed (by kernel_rfl)<|(pF) (fun MP=>?_) (fun MP=>?_)
    ·
     refine(cM) ?_;rintro vq ⟨RW,O⟩ _;exact(cp) (tG MP) (O)
    refine(gy) cc St.g6<|(y9) ak St.g1<|?_;refine DW.c0 (fun wx hC hF=>ui (x:=x) (k:=l[i].key) (As.gr hC.2.g8) (As.gr hC.2.g7))<|(gX) ff St.g1<|(cM)<|?_;rintro vq ⟨RW,O⟩ ⟨_,_⟩;exact(cp) (tG MP) (O)
   intro vq O;refine(aX) (fun MQ=>?_) fun MQ=>?_
   ·
    refine gW ?_;refine fx (i+1,ch,li,K,D,L,S) ⟨O.drop.drop.drop,⟨by omega,hG,by show li.length≤x.ab.length+(i+1);omega,Ts,Tt,sw,FO.skip H (fun e=>hla (by omega)) MQ,trivial⟩⟩
   refine aT ?_;refine(bp) i7 O.b3<|dp ?_;have j2:=O.fV RR.aD 80 4;refine WC.bj (σ:=Nat × Bool × (List bW) × (Option Addr) × Nat × Nat) (db:=fun(q,put,acc,j,f,o)=>[(1,.slice al nl g),(2,.pointer (some ⟨b2,0,none⟩)),(4,.pointer (some ⟨b4,0,none⟩)),(10,.pointer (some ⟨R,0,none⟩)),(11,.bool true),(13,.pointer (some ⟨NG,0,none⟩)),(17,.slice j f o),(18,.bool put),(70,.slice al nl g),(71,.int .i64 (nl:Int)),(72,.int .i64 (i:Int)),(107,.slice K D L),(108,.int .i64 (D:Int)),(109,.int .i64 (q:Int))]) (F:=fun(q,put,acc,j,f,o)=>[As.os RR.aD 80 4 j f o (acc)]) (I:=fun(q,put,acc,j,f,o)=>(q≤li.length)∧(acc++eu (⟨l[i].key,l[i].value,x.ad+1⟩:bW) (li.drop q) put=eu (⟨l[i].key,l[i].value,x.ad+1⟩:bW) li false)∧True) (μ:=fun(q,put,acc,j,f,o)=>li.length - q) (0,false,[],none,0,0) (j2) Sub.t (⟨by omega,rfl,trivial⟩)<|?_;rintro⟨q,put,acc,j,f,o⟩ Bu X ⟨hq,T,_⟩;simp only [CA,NA] at X hq T ⊢;have RX:=GB T;have YK:=((As.gs X.g0)).len;refine(aX) (fun lO=>?_) fun lO=>?_
   ·
    simp at lO
    have Ij:q<li.length:=by omega
    have CI:=GA Ij T
    dsimp only at CI
    refine dp ?_;obtain⟨Fg,Ys,Yt,iG,RP,yF,FM,FN⟩:=Rd.at (As.gr X.g5) Ij;have yF:=RR.bt yF;subst yF;have C:=X.fg FN FM;refine nx ?_;refine WP .r (PV.dR pM iG rfl rfl (by omega))<|(bP) kc (As.nS C.g0)<|(gx) C fun b20 CL agl agm G=>?_;refine(dZ) xK G fun Ff ss6 hs6 Y=>?_;refine(ko) ak Y.b0<|(ko) ak Y.b4<|(eY) (lH (k:=li[q].key) (q:=l[i].key)) Y fun HT X0 nQ=>?_;refine dp ?_;have vX:=nQ;refine WC.iU (σ:=Bool) [] (fun CQ=>[(1,.slice al nl g),(2,.pointer (some ⟨b2,0,none⟩)),(4,.pointer (some ⟨b4,0,none⟩)),(10,.pointer (some ⟨R,0,none⟩)),(11,.bool true),(13,.pointer (some ⟨NG,0,none⟩)),(17,.slice j f o),(18,.bool put),(20,.pointer (some ⟨b20,0,none⟩)),(21,.int .i64 (bl li[q].key l[i].key)),(70,.slice al nl g),(71,.int .i64 (nl:Int)),(72,.int .i64 (i:Int)),(107,.slice K D L),(108,.int .i64 (D:Int)),(109,.int .i64 (q:Int)),(123,.bool CQ)]) (fun CQ=>[]) (fun CQ=>(CQ=(decide (0≤bl li[q].key l[i].key) && !put))∧True) vX ?_ ?_
    ·
     refine(cO) (fun MR=>?_) (fun MR=>?_)
     ·
      refine cw ?_;exact nj (!put) ⟨vX,⟨by rw [decide_eq_true (show 0≤bl li[q].key l[i].key by simp at MR;omega)];rfl,trivial⟩⟩
     refine cw ?_;exact nj (false) ⟨vX,⟨by rw [decide_eq_false (show ¬0≤bl li[q].key l[i].key by simp at MR;omega)];rfl,trivial⟩⟩
    rintro CQ Ji pU ⟨MS,_⟩;simp only [CA,NA] at pU MS ⊢;refine nx ?_;have mN:=pU.p2;refine WC.iU (σ:=Bool × (List bW) × (Option Addr) × Nat × Nat) [_] (fun(MT,z,j,f,o)=>[(1,.slice al nl g),(2,.pointer (some ⟨b2,0,none⟩)),(4,.pointer (some ⟨b4,0,none⟩)),(10,.pointer (some ⟨R,0,none⟩)),(11,.bool true),(13,.pointer (some ⟨NG,0,none⟩)),(17,.slice j f o),(18,.bool MT),(20,.pointer (some ⟨b20,0,none⟩)),(21,.int .i64 (bl li[q].key l[i].key)),(70,.slice al nl g),(71,.int .i64 (nl:Int)),(72,.int .i64 (i:Int)),(107,.slice K D L),(108,.int .i64 (D:Int)),(109,.int .i64 (q:Int))]) (fun(MT,z,j,f,o)=>[As.os RR.aD 80 4 j f o (z)]) (fun(MT,z,j,f,o)=>(z++(if bl li[q].key l[i].key=0 then [] else [li[q]])++eu (⟨l[i].key,l[i].value,x.ad+1⟩:bW) (li.drop (q+1)) MT=eu (⟨l[i].key,l[i].value,x.ad+1⟩:bW) li false)∧True) mN ?_ ?_
    ·
     refine(aX) (fun Al=>?_) fun Al=>?_
     ·
      refine(ko) ak mN.b4<|(bp) ff mN.b4<|(bp) aP (bJ.range (As.gb mN.g6))<|?_;refine WP .r (PV.br (us:=(⟨l[i].key,l[i].value,x.ad+1⟩:bW).cells) Hd rfl rfl rfl)<|?_;refine WL.go rfl (OX.aS (us:=(⟨l[i].key,l[i].value,x.ad+1⟩:bW).cells) zL rfl rfl rfl rfl fun agn Nx RY RZ=>?_);have U:=mN.df RY RZ;refine WL.ap rfl rfl U.p1 (SR.dr (A:=fun _=>True) (x:=(⟨l[i].key,l[i].value,x.ad+1⟩:bW)) (As.gb U.g0) trivial rfl (by simp [bW.cells,Value.oneCell']) rfl) fun YL R0 Rg acm acn k7=>?_;refine cv ?_;exact nj (true,acc++[(⟨l[i].key,l[i].value,x.ad+1⟩:bW)],YL,(f+1),R0) ⟨k7.p1.drop,⟨by have h2:(decide (0≤bl li[q].key l[i].key) && !put)=true:=(by rw [← MS];simpa using Al);have h3:(put || decide (0≤bl li[q].key l[i].key))=true:=(by revert h2;cases put <;> simp);rw [if_pos h2,h3] at CI;exact CI,trivial⟩⟩
     refine nx ?_;exact nj (put,acc,j,f,o) ⟨mN,⟨by have h2:(decide (0≤bl li[q].key l[i].key) && !put)=false:=(by rw [← MS];simpa using Al);have h3:(put || decide (0≤bl li[q].key l[i].key))=put:=(by revert h2;cases put <;> simp);rw [if_neg (by rw [h2];simp),h3,List.append_nil] at CI;exact CI,trivial⟩⟩
    rintro⟨MT,z,j,f,o⟩ Nx U ⟨sn,_⟩;simp only [CA,NA] at U sn ⊢
    have aco:z.length≤li.length+1:=by have h1:=congrArg List.length sn;rw [List.length_append,List.length_append] at h1;have:=kN (⟨l[i].key,l[i].value,x.ad+1⟩:bW) li false;omega
    have acp:=((As.gs U.g0)).len;refine(aX) (fun FP=>?_) fun FP=>?_
    ·
     simp at FP
     refine(bP) kc U.b1<|?_;refine WL.go rfl (OX.aS (us:=li[q].cells) zL rfl rfl rfl rfl fun ago Rg R1 R2=>?_);have k7:=U.df R1 R2;refine WL.ap rfl rfl k7.p1 (SR.dr (A:=fun _=>True) (x:=li[q]) (As.gb k7.g0) trivial rfl (by simp [bW.cells,Value.oneCell']) rfl) fun a139 R3 Te acq acr Au=>?_;refine gW ?_;refine fx (q+1,MT,z++[li[q]],a139,(f+1),R3) ⟨Au.p1.drop.p1.drop.p1.drop,⟨by omega,by rw [← sn,if_neg FP],trivial⟩⟩
    simp at FP
    refine fb ?_;refine fx (q+1,MT,z,j,f,o) ⟨U.p1.drop.p1.drop,⟨by omega,by rw [← sn,if_pos FP,List.append_nil],trivial⟩⟩
   simp at lO
   rw [List.drop_eq_nil_of_le (by omega)] at T;refine aT ?_;have C:=X;refine WC.iU (σ:=(List bW) × (Option Addr) × Nat × Nat) [_] (fun(z,j,f,o)=>[(1,.slice al nl g),(2,.pointer (some ⟨b2,0,none⟩)),(4,.pointer (some ⟨b4,0,none⟩)),(10,.pointer (some ⟨R,0,none⟩)),(11,.bool true),(17,.slice j f o),(70,.slice al nl g),(71,.int .i64 (nl:Int)),(72,.int .i64 (i:Int))]) (fun(z,j,f,o)=>[As.os RR.aD 80 4 j f o (z)]) (fun(z,j,f,o)=>(z=eu (⟨l[i].key,l[i].value,x.ad+1⟩:bW) li false)∧True) C ?_ ?_
   ·
    refine(aX) (fun MU=>?_) fun MU=>?_
    ·
     refine(ko) ak C.b2<|(bp) ff C.b2<|(bp) aP C.b4<|?_;refine WP .r (PV.br (us:=(⟨l[i].key,l[i].value,x.ad+1⟩:bW).cells) Hd rfl rfl rfl)<|?_;refine WL.go rfl (OX.aS (us:=(⟨l[i].key,l[i].value,x.ad+1⟩:bW).cells) zL rfl rfl rfl rfl fun agp CL R4 R5=>?_);have G:=C.df R4 R5;refine WL.ap rfl rfl G.p1 (SR.dr (A:=fun _=>True) (x:=(⟨l[i].key,l[i].value,x.ad+1⟩:bW)) (As.gb G.g0) trivial rfl (by simp [bW.cells,Value.oneCell']) rfl) fun a152 R6 Ff acs acu Y=>?_;refine bM ?_;exact nj (acc++[(⟨l[i].key,l[i].value,x.ad+1⟩:bW)],a152,(f+1),R6) ⟨Y.p1.drop,⟨by have hp:put=false:=(by simpa using MU);rw [hp] at T;exact T,trivial⟩⟩
    refine nx ?_;exact nj (acc,j,f,o) ⟨C,⟨by have hp:put=true:=(by simpa using MU);rw [hp] at T;exact(List.append_nil acc).symm.trans T,trivial⟩⟩
   rintro⟨z,j,f,o⟩ CL G ⟨AA,_⟩;simp only [CA,NA] at G AA ⊢;refine nx ?_;have RX:=kN (⟨l[i].key,l[i].value,x.ad+1⟩:bW) li false;have YK:=((As.gs G.g0)).len;rw [← AA] at RX;have MV:=St.fresh G;have Y:=G.eX (by omega);have Ih:=sw.trans (fE.wt (F:=fun x=>x∈bA j) MV) (Nat.le_refl _);have nQ:=Y.p5.drop;refine cv ?_;refine WL.s1 nQ.p4 fun Ff _ vX=>?_;refine fb ?_;refine fx (i+1,true,z,j,f,o,_) ⟨vX.p2.drop.p2.drop.p2.drop,⟨by omega,by rw [AA];exact hG.put IL (by omega),by show z.length≤x.ab.length+(i+1);rw [AA];have:=kN (⟨l[i].key,l[i].value,x.ad+1⟩:bW) li false;omega,fun k hk=>by rw [AA,lD (hk _ (List.getElem_mem H))];exact Ts k hk,by rw [AA];exact GN Tt _ rfl,Ih,by rw [AA];exact FO.put H MQ,trivial⟩⟩
  have YH:=((As.gr B.g1)).len
  simp at Ic
  refine aT ?_;refine(aX) (fun YM=>?_) fun YM=>?_
  ·
   refine(bP) cc B.b3<|(dZ) kW B.p6 fun rO ss7 hs7 s=>?_;refine fj ?_;refine EX.jd rfl (RS.cell cc rfl s.b0 rfl<|RS.tmp rfl<|RS.nil) rfl<|?_;exact⟨x,_,_,_,_,_,_,_,_,rfl,rfl,Int.le_refl _,CN,hx,h7a,by omega,.refl _ _,FO.same (by omega) (by simp_all),fun _=>rfl,(As.gr s.g6),(As.gr s.g5),sw,(St.wk s.k0)⟩
  refine(bp) i7 B.b0<|(aX) (fun MW=>?_) fun MW=>?_
  ·
   refine(bP) cc B.b3<|(dZ) kW B.p6 fun rO ss8 hs8 s=>?_;refine fj ?_;refine EX.jd rfl (RS.cell cc rfl s.b0 rfl<|RS.tmp rfl<|RS.nil) rfl<|?_;exact absurd MW (by have:=hG.len;simp;omega)
  refine(bp) aP B.b0<|(aX) (fun Ik=>?_) fun Ik=>?_
  ·
   refine(bP) cc B.b3<|(dZ) kW B.p6 fun rO ss9 Tc s=>?_;refine fj ?_;refine EX.jd rfl (RS.cell cc rfl s.b0 rfl<|RS.tmp rfl<|RS.nil) rfl<|?_;exact⟨x,_,_,_,_,_,_,_,_,rfl,rfl,Int.le_refl _,CN,hx,h7a,by omega,.refl _ _,⟨fun c _ _ h=>by(simp at Ik;omega),fun _=>.inl rfl,fun _=>.inl rfl⟩,fun h=>by(simp at Ik;omega),(As.gr s.g6),(As.gr s.g5),sw,(St.wk s.k0)⟩
  refine(bP) cc B.b0<|(dZ) kW B.p6 fun rO agq agr s=>?_;refine cw ?_;refine EX.jd rfl (RS.cell cc rfl s.b0 rfl<|RS.tmp rfl<|RS.nil) rfl<|?_;exact⟨⟨x.ad+1,li,x.ai⟩,_,_,_,_,_,_,_,_,rfl,rfl,by show x.ad≤x.ad+1;omega,by simp at Ik;show x.ad+1≤_;omega,hG,by simp at MW;show li.length≤64;omega,Int.le_refl _,⟨Ts,.inr ⟨rfl,Tt⟩⟩,FO.done (by omega),fun _=>rfl,(As.gr s.g2),(As.gr s.g3),sw,(St.wk s.k0)⟩
 -- kX eH C49
set_option maxHeartbeats 400000
theorem yG(hl:Rd RR.key 2 Z w a n c l) (hm:Rd RR.key 2 Z2 w b m e q):CR prog 15 #[.slice a n c,.slice b m e] w (.bool (decide (l=q))):=by
 have y:=hl.len;have z:=hm.len;have hle:=hl.le;refine enter func15 rfl ntmps15 rfl<|?_;have aO:=St.s0 w;refine aT ?_;refine(aX) (fun g11=>?_) fun g11=>?_
 ·
  simp at g11
  refine(bB) ?_;exact⟨by rw [decide_eq_false fun h=>g11 (by rw [y,z,h])],(St.cg aO)⟩
 simp at g11
 refine iM ?_;refine WC.bj (σ:=Nat) (db:=fun i=>[(1,.slice b m e),(12,.slice a n c),(13,.int .i64 (n:Int)),(14,.int .i64 (i:Int))]) (F:=fun i=>[]) (I:=fun i=>(i≤n)∧(l.take i=q.take i)∧True) (μ:=fun i=>n - i) (0) (aO) Sub.t (⟨by omega,by simp,trivial⟩)<|?_;rintro i w1 st1 ⟨hi,f,_⟩;simp only [CA,NA] at st1 hi f ⊢;refine(aX) (fun g15=>?_) fun g15=>?_
 ·
  simp at g15
  have k:i<l.length:=by omega
  have o:i<q.length:=by omega
  obtain⟨H,J,K,A,L,g,B,N⟩:=Rd.at hl k;have g:=RR.bt g;subst g;obtain⟨O,P,Q,C,R,j,D,S⟩:=Rd.at hm o;have j:=RR.bt j;subst j;refine fb ?_;refine WP .r (PV.dR ez A rfl rfl (by omega))<|(bP) ak (aV B (St.cg st1) (by simp))<|(gx) st1 fun T w2 U V st2=>?_;refine(dZ) gk st2 fun w3 W X s=>?_;refine cv ?_;have Y:=s.bL;refine WC.dS (m:=5) s mixed<|bM ?_;refine DP .r (fun _ u=>PV.dR ez C rfl rfl (by omega))<|DP .r (fun _ u=>VA ak (aV D (St.cg u.2) (by simp)) .r)<|(gy) ak St.g0<|(cM)<|?_;rintro w4 ⟨vt,v⟩ _;refine WP .r (PV.It fP (p:=q[i]) (q:=l[i]) rfl rfl)<|(aX) (fun g24=>?_) fun g24=>?_
  ·
   simp at g24
   refine(bB) ?_;exact⟨by rw [decide_eq_false fun h=>g24 (by subst h;rfl)],(St.cg v)⟩
  simp at g24
  have E:=g24.symm;refine fb ?_;refine fx (i+1) ⟨v.drop,⟨by omega,by rw [List.take_succ_eq_append_getElem k,List.take_succ_eq_append_getElem o,f,E],trivial⟩⟩
 simp at g15
 refine(bB) ?_;exact⟨by rw [decide_eq_true];have h1:l.take i=l:=List.take_of_length_le (by omega);have G:q.take i=q:=List.take_of_length_le (by omega);rw [← h1,← G];exact f,(St.cg st1)⟩
theorem lj(hl:Rd RR.key 2 Z w a n c l) (hm:Rd RR.key 2 Z2 w b m e q) (h:l=q):CR prog 15 #[.slice a n c,.slice b m e] w (.bool true):=by
 have:=yG hl hm
 rwa [decide_eq_true h] at this
set_option maxHeartbeats 400000
theorem vY(z:St w M Z w []):Calls prog 26 #[] w fun e w'=>∃(a:Option Addr) (n c:Nat) (Z':Nat→Prop),e=.returned (.slice a n c)∧Rd RR.dM 4 Z' w' a n c H2∧fE w.heap.size Z Z'∧St w M Z' w' []:=by
 refine enter func26 rfl ntmps26 rfl<|?_;have aO:=St.rb z;refine fb ?_;refine WP .r (PV.br (us:=[.bool true,.bool false,.int .i64 0,.int .i64 0]) Ex rfl rfl rfl)<|?_;refine WL.go rfl (OX.aS (us:=[.bool true,.bool false,.int .i64 0,.int .i64 0]) Eu rfl rfl rfl rfl fun b2 w1 o A=>?_);have st1:=St.qu (R:=RR.ask) (E:=75) (k:=4) (a:=some ⟨b2,0,none⟩) (n:=1) (c:=1) (xs:=[(⟨true,false,0,0⟩:Ask)]) aO o.ext (OR.dr A (Nat.zero_le _) rfl (by simp [Value.oneCell']) rfl) (fun x f=>by simp [bA] at f;subst f;exact o.ge);refine WP .r (PV.br (us:=[.bool false,.slice (some ⟨b2,0,none⟩) 1 1,.int .i64 2,.int .i64 0]) Hc rfl rfl rfl)<|WP .r (PV.br (us:=[.bool false,.bool false,.int .i64 0,.int .i64 0]) Ex rfl rfl rfl)<|WP .r (PV.br (us:=[.bool true,.bool false,.int .i64 1,.int .i64 0]) Ex rfl rfl rfl)<|?_;refine WL.go rfl (OX.aS (us:=([.bool false,.bool false,.int .i64 0,.int .i64 0]++[.bool true,.bool false,.int .i64 1,.int .i64 0])) K5 rfl rfl rfl rfl fun g w2 p C=>?_);have st2:=St.qu (R:=RR.ask) (E:=75) (k:=4) (a:=some ⟨g,0,none⟩) (n:=2) (c:=2) (xs:=[(⟨false,false,0,0⟩:Ask),⟨true,false,1,0⟩]) st1 p.ext (OR.Oy (r:=[.bool false,.bool false,.int .i64 0,.int .i64 0]) (s:=[.bool true,.bool false,.int .i64 1,.int .i64 0]) C (Nat.zero_le _) rfl rfl (by simp [Value.oneCell']) rfl rfl) (fun x f=>by simp [bA] at f;subst f;exact p.ge);refine WP .r (PV.br (us:=[.bool false,.slice (some ⟨g,0,none⟩) 2 2,.int .i64 1,.int .i64 0]) Hc rfl rfl rfl)<|?_;refine WL.go rfl (OX.aS (us:=([.bool false,.slice (some ⟨b2,0,none⟩) 1 1,.int .i64 2,.int .i64 0]++[.bool false,.slice (some ⟨g,0,none⟩) 2 2,.int .i64 1,.int .i64 0])) K4 rfl rfl rfl rfl fun j w3 D F=>?_);have t:=st2.df D F;refine bM ?_;have G:=St.fresh t.p2;have u:=t.p2.eX (by simp);have H:=St.fresh u.p2;have I:=u.p2.eX (by simp);have i:=I.p2;have v:=i.conv (B:=As.os RR.dM 71 4 (some ⟨j,0,none⟩) 2 2 H2) (OR.Oy (As.gb i.g0) (Nat.zero_le _) rfl rfl (by simp [Value.oneCell']) ⟨some ⟨b2,0,none⟩,1,1,rfl,(As.gr i.g2)⟩ ⟨some ⟨g,0,none⟩,2,2,rfl,(As.gr i.g1)⟩) (fun x h=>by show x=j;change x∈bA (some ⟨j,0,none⟩) at h;simpa [bA] using h);have J:=St.fresh v;have y:=v.eX (by decide);refine(bB) ?_;exact⟨_,_,_,_,rfl,(As.gr y.g0),((fE.wt G).trans (fE.wt H) (Nat.le_refl _)).trans (fE.wt J) (Nat.le_refl _),(St.wk y.k0)⟩
set_option maxHeartbeats 4000000 in
theorem mh(gJ:St w M Z w []) (ht:j5 prog Z w):Calls prog 6 #[] w fun e w'=>∃Z':Nat→Prop,e=.returned (.bool true)∧St w M Z' w' []:=by
 have i:∀k∈[K1],dU H2 k:=fun k hk=>by rw [List.mem_singleton.1 hk];exact zF
 refine enter func6 rfl ntmps6 rfl<|?_;have aO:=gJ;have st1:=aO.fact (B:=As.fz (FZ.Iy prog)) ht (fun _ p=>p);refine fb ?_;have st2:=st1;refine(cJ) U0 (vY st2.e0) ?_;rintro _ w1 ⟨ra,rn,rc,Zh,rfl,XM,hZh,Mw⟩;have lN:=St.lv st2 Mw hZh;have jl:=lN.fr (XM);refine dp ?_;refine WP .r (PV.br (us:=((⟨0,[],[]⟩:cB).row none 0 0 none 0 0)) O7 rfl rfl rfl)<|(eY) (gH (n:=0)) jl fun w2 s2 ki=>?_;refine WP .r (PV.br (us:=(⟨C0,z4⟩:Change).cells) K8 rfl rfl rfl)<|?_;refine WL.go rfl (OX.aS (us:=(⟨C0,z4⟩:Change).cells) zM rfl rfl rfl rfl fun XH w3 X MH=>?_);have jr:=St.qu (R:=RR.cq) (E:=63) (k:=3) (a:=some ⟨XH,0,none⟩) (n:=1) (c:=1) (xs:=[(⟨C0,z4⟩:Change)]) ki X.ext (OR.dr MH (Nat.zero_le _) rfl (by simp [Change.cells,Value.oneCell']) rfl) (fun x p=>by simp [bA] at p;subst p;exact X.ge);have ku:=jr.eX (by simp);have H:=ku;refine(cJ) UR (j4 (x:=⟨0,[],[]⟩) (l:=[(⟨C0,z4⟩:Change)]) H.e0 (Rd.nil _ _ _ _) (Rd.nil _ _ _ _) (As.gr H.g0) GX (hW.nil _) smA (by simp)) ?_;rintro _ w4 ⟨y,ya1,ya2,agt,agu,agv,agw,agx,yaZ,rfl,agy,agz,agA,YN,agB,agC,agD,YO,agE,YP,YQ,YR,sa⟩;have jZ:=St.lv H sa YR;obtain rfl:=aoA YO;have v:=LC.nil H2 (⟨1,iA,[]⟩:cB) rfl (by decide) (by decide) YN (by simp);have fw:=jZ.fr (YP);have eC:=fw.fr (YQ);refine(gx) eC fun b2 w5 Td CC eQ=>?_;refine(dZ) kW eQ fun w6 nT rH dG=>?_;refine cw ?_;refine WC.cu (m:=10) [8,9] [3,4,5] [2,3,4,0,1,5,6,7,8,9] [] dG (av.k4 M0 M1 M2 M3<|av.cons M4<|av.cons M5<|av.nil) mixed (by kernel_rfl) (by kernel_rfl) rfl<|(gK) (fun w7 I J K L=>?_);simp only [CA,NA] at K;refine OX.call vg rfl rfl ((fu (n:=1) (aa:=H2) (As.gr K.g4)).mono ?_);rintro _ w8 ⟨rfl,Y⟩;have dQ:=K.step Y;refine⟨_,rfl,Y.size,_,rfl,_,_,_,dQ,aC.k4<|aC.k2<|aC.nil,av.k4 M0 M1 M2 M3<|av.cons M4<|av.cons M5<|av.nil,?_⟩;refine(gK) (fun w9 Je yg gI kZ=>?_);simp only [CA,NA] at gI;refine OX.aS (us:=K1.cells) du rfl rfl rfl rfl fun N lI R7 YS=>?_;have e4:=gI.df R7 YS;have fh:=e4;have eD:=fh.conv (B:=As.os RR.key 43 2 (some ⟨N,0,none⟩) 1 1 [K1]) (OR.dr (As.gb fh.g0) (Nat.zero_le _) rfl (by simp [Key.cells,Value.oneCell']) rfl) (fun x h=>by show x=N;change x∈bA (some ⟨N,0,none⟩) at h;simpa [bA] using h);have eU:=eD.eX (by simp);refine⟨R7.ext.size,_,rfl,_,_,_,eU,aC.k4<|aC.k2<|aC.cons<|aC.nil,av.k4 M1 M2 M3 M4<|av.cons M5<|av.cons M6<|av.nil,?_⟩;refine(mQ) cc SV.g0<|(gK) (fun mH My Ax gY mg=>?_);simp only [CA,NA] at gY;have f:=gY;refine OX.call Lk rfl rfl ((gZ (x:=(⟨1,iA,[]⟩:cB)) (goals:=[K1]) f.e0 (As.gf f.g6) (As.gr f.g5) (As.gr f.g3) (As.gr f.g2) (As.gr f.g0) hU v i (by simp)).mono ?_);rintro _ pS ⟨z,agF,rs3,p31,p32,p33,j31,k31,j32,k32,j33,k33,Z3x,rfl,O,agI,MN,agJ,YT,YU,um⟩;have C:=St.lv f um YU;obtain⟨j,Nt,F4,hw3,R8⟩:=O.done hU v i;have R9:az z K1=true:=(MN K1 (List.mem_singleton.2 rfl)).resolve_left (by rw [Ec];simp);have Sa:=j.lb.ok.gO.len;have Sa:z.ai.length≤4000:=Sa;have agK:=j.lb.ok.sC;obtain⟨_,_,_,agL,_⟩:=O.ready hU v i;have agM:=YT.length_eq;have agN:=((As.gs C.g0)).len;have agO:=((As.gs C.g1)).len;have agP:=((As.gs C.g2)).len;obtain⟨hh1,hh2⟩:=GY v rfl O R9
 obtain rfl:j33=2:=by omega
 have ic:=C.eX (by omega);have eb:=ic.p1.eX (by omega);have e7:=eb.p2.eX (by omega);refine⟨_,rfl,um.cq.size,_,rfl,_,_,_,e7,aC.k4<|aC.k4<|aC.k2<|aC.nil,av.k4 M4 M5 M6 M7<|av.cons M8<|av.cons M9<|av.nil,?_⟩
 iterate 4 refine DG.a ?_
 refine(ly) ?_;intro rO xV gS;simp only [CM,NM,CA,NA,iK.it] at gS;refine(dZ) kW gS.p4 fun x2 Bt wu j2=>?_;refine bM ?_;refine WL.nil (EX.np ?_);refine bM ?_;refine WC.cu (m:=9) [7] [1,3,4] [1,2,3,0,4,5,6,7,8] [(8,.blk 32 [.int .i64 0,.slice none 0 0,.slice none 0 0])] j2 (av.k4 M0 M1 M2 M3<|av.k4 M4 M5 M6 M7<|av.cons M8<|av.cons M9<|av.nil) mixed (by kernel_rfl) (by kernel_rfl) rfl<|(gK) (fun x3 R1x Rf oE Jh=>?_);simp only [CA,NA] at oE;refine OX.call HF rfl rfl ((gH (n:=0)).mono ?_);rintro _ vq ⟨rfl,QS⟩;have oF:=oE.step QS;refine⟨_,rfl,QS.size,_,rfl,_,_,_,oF,aC.k4<|aC.k4<|aC.k2<|aC.nil,av.k4 M0 M1 M2 M3<|av.k4 M4 M5 M6 M7<|av.cons M8<|av.cons M9<|av.nil,?_⟩;refine DQ .r (fun wx Zx Rx _ mM uq=>PV.br (us:=(⟨C0,z5⟩:Change).cells) K8 rfl rfl rfl)<|(gK) (fun Bu I J ta L=>?_);simp only [CA,NA] at ta;refine OX.aS (us:=(⟨C0,z5⟩:Change).cells) zM rfl rfl rfl rfl fun P CL Sb YV=>?_;have rZ:=ta.df Sb YV;have nQ:=rZ;have vX:=nQ.conv (B:=As.os RR.cq 63 3 (some ⟨P,0,none⟩) 1 1 [(⟨C0,z5⟩:Change)]) (OR.dr (As.gb nQ.g0) (Nat.zero_le _) rfl (by simp [Change.cells,Value.oneCell']) rfl) (fun x h=>by show x=P;change x∈bA (some ⟨P,0,none⟩) at h;simpa [bA] using h);have pU:=vX.eX (by simp);refine⟨Sb.ext.size,_,rfl,_,_,_,pU,aC.k4<|aC.k4<|aC.k2<|aC.cons<|aC.nil,av.k4 M1 M2 M3 M4<|av.k4 M5 M6 M7 M8<|av.cons M9<|av.cons nU<|av.nil,?_⟩;refine(mQ) cc SV.g0<|(gK) (fun Ff Je yg mN kZ=>?_);simp only [CA,NA] at mN;have o:=mN;refine OX.call UR rfl rfl ((j4 (x:=z) (l:=[(⟨C0,z5⟩:Change)]) o.e0 (As.gr o.g4) (As.gr o.g3) (As.gr o.g0) j.lb.ok.gz j.lb.aD smQ (by simp)).mono ?_);rintro _ HT ⟨y,yb1,yb2,agR,agS,agT,agU,agV,ybZ,rfl,YW,YX,YY,YZ,Y0,agW,Y1,Y2,agX,Y3,Y4,Y5,rT⟩;have k7:=St.lv o rT Y5;have D:=j.apply Y1 YW YX YY YZ Y0;obtain rfl:=aoB Nt F4 Y2;have Au:=k7.fr (Y3);have FC:=Au.fr (Y4);refine⟨_,rfl,rT.cq.size,_,rfl,_,_,_,FC,aC.k4<|aC.k4<|aC.k4<|aC.cons<|aC.nil,av.k4 M3 M4 M5 M6<|av.k4 M7 M8 M9 nU<|av.cons pV<|av.cons sk<|av.nil,?_⟩
 iterate 3 refine DG.a ?_
 refine DG.side (s:=.blk 32 [.int .i64 0,.slice none 0 0,.slice none 0 0]) rfl rfl rfl rfl rfl rfl (fun wx Zx Rx su mM=>OX.alloc Pg rfl fun b wy nw hb=>⟨nw.ext.size,_,rfl,⟨b,rfl⟩,mM.df nw hb⟩)<|?_;rintro _ ⟨b6,rfl⟩;refine(ly) ?_;intro Ji XQ Sc;simp only [CM,NM,CA,NA,iK.it] at Sc;refine(dZ) kW Sc fun Nx LS BR Y6=>?_;refine nx ?_;refine WL.nil (EX.np ?_);refine bM ?_;refine WC.cu (m:=10) [8,9] [3,4,5] [2,3,4,0,1,5,6,7,8,9] [] Y6 (av.k4 M0 M1 M2 M3<|av.k4 M4 M5 M6 M7<|av.k4 M8 M9 nU pV<|av.cons sk<|av.cons yR<|av.nil) mixed (by kernel_rfl) (by kernel_rfl) rfl<|(gK) (fun Rg I J Q L=>?_);simp only [CA,NA] at Q;refine OX.call vg rfl rfl ((fu (n:=1) (aa:=H2) (As.gr Q.g12)).mono ?_);rintro _ Te ⟨rfl,s24⟩;have Y7:=Q.step s24;refine⟨_,rfl,s24.size,_,rfl,_,_,_,Y7,aC.k4<|aC.k4<|aC.k4<|aC.k2<|aC.nil,av.k4 M0 M1 M2 M3<|av.k4 M4 M5 M6 M7<|av.k4 M8 M9 nU pV<|av.cons sk<|av.cons yR<|av.nil,?_⟩;refine(gK) (fun w25 Je yg Sd kZ=>?_);simp only [CA,NA] at Sd;refine OX.aS (us:=K1.cells) du rfl rfl rfl rfl fun S w26 Se Y8=>?_;have Y9:=Sd.df Se Y8;have Sf:=Y9;have Za:=Sf.conv (B:=As.os RR.key 43 2 (some ⟨S,0,none⟩) 1 1 [K1]) (OR.dr (As.gb Sf.g0) (Nat.zero_le _) rfl (by simp [Key.cells,Value.oneCell']) rfl) (fun x h=>by show x=S;change x∈bA (some ⟨S,0,none⟩) at h;simpa [bA] using h);have Zb:=Za.eX (by simp);refine⟨Se.ext.size,_,rfl,_,_,_,Zb,aC.k4<|aC.k4<|aC.k4<|aC.k2<|aC.cons<|aC.nil,av.k4 M1 M2 M3 M4<|av.k4 M5 M6 M7 M8<|av.k4 M9 nU pV sk<|av.cons yR<|av.cons Il<|av.nil,?_⟩;refine(mQ) cc SV.g0<|(gK) (fun w27 My Ax Sg mg=>?_);simp only [CA,NA] at Sg;have g:=Sg;refine OX.call Lk rfl rfl ((gZ (x:=(⟨2,iB,z.ai⟩:cB)) (goals:=[K1]) g.e0 (As.gf g.g14) (As.gr g.g13) (As.gr g.g3) (As.gr g.g2) (As.gr g.g0) hU D i (by simp)).mono ?_);rintro _ w28 ⟨Wp,agY,rs5,p51,p52,p53,j51,k51,j52,k52,j53,k53,Z5x,rfl,T,agZ,Zc,ag0,Sh,Zd,Ju⟩;have F:=St.lv g Ju Zd;obtain⟨lc5,hi5,HU,hw5,acx⟩:=T.done hU D i;have Ze:az Wp K1=true:=(Zc K1 (List.mem_singleton.2 rfl)).resolve_left (by rw [Ec];simp);have Si:=lc5.lb.ok.gO.len;have Si:Wp.ai.length≤4000:=Si;have ag1:=lc5.lb.ok.sC;obtain⟨_,_,_,ag2,_⟩:=T.ready hU D i;have ag3:=Sh.length_eq;have ag4:=((As.gs F.g0)).len;have Xh:=((As.gs F.g1)).len;have ag5:=((As.gs F.g2)).len;obtain⟨hrs,yO,CV⟩:=GZ j F4 hh2 R9 R8 D rfl T Ze Sh;subst hrs;have Zg:=F.eX (by omega);have Zi:=Zg.p1.eX (by omega);have Zj:=Zi.p2.eX (by omega);refine⟨_,rfl,Ju.cq.size,_,rfl,_,_,_,Zj,aC.k4<|aC.k4<|aC.k4<|aC.k4<|aC.k2<|aC.nil,av.k4 M4 M5 M6 M7<|av.k4 M8 M9 nU pV<|av.k4 sk yR Il Nf<|av.cons NK<|av.cons SB<|av.nil,?_⟩
 iterate 4 refine DG.a ?_
 refine(ly) ?_;intro w29 FD Sj;simp only [CM,NM,CA,NA,iK.it] at Sj;refine(dZ) kW Sj.p4 fun w30 S6 S7 Zk=>?_;refine bM ?_;refine WL.nil (EX.np ?_);refine bM ?_;refine WC.cu (m:=7) [6] [2,3] [1,2,0,3,4,5,6] [] Zk (av.k4 M0 M1 M2 M3<|av.k4 M4 M5 M6 M7<|av.k4 M8 M9 nU pV<|av.k4 sk yR Il Nf<|av.cons NK<|av.cons SB<|av.nil) mixed (by kernel_rfl) (by kernel_rfl) rfl<|(gK) (fun w31 R2x Sk U Jv=>?_);simp only [CA,NA] at U;refine OX.call vg rfl rfl ((fu (n:=1) (aa:=H2) (As.gr U.g16)).mono ?_);rintro _ w32 ⟨rfl,s32⟩;have Zl:=U.step s32;refine⟨_,rfl,s32.size,_,rfl,_,_,_,Zl,aC.k4<|aC.k4<|aC.k4<|aC.k4<|aC.k2<|aC.nil,av.k4 M0 M1 M2 M3<|av.k4 M4 M5 M6 M7<|av.k4 M8 M9 nU pV<|av.k4 sk yR Il Nf<|av.cons NK<|av.cons SB<|av.nil,?_⟩;refine(mQ) cc SV.g0<|(gK) (fun w33 I J Sl L=>?_);simp only [CA,NA] at Sl;have G:=Sl;refine OX.call U1 rfl rfl ((ti (k:=K1) G.e0 (As.gr G.g3) (As.gr G.g2)).mono ?_);rintro _ w34 ⟨rfl,Jw⟩;have Zm:=St.lr G Jw;rw [yO,CV];refine⟨_,rfl,Jw.cq.size,_,rfl,_,_,_,Zm,aC.k4<|aC.k4<|aC.k4<|aC.k4<|aC.k2<|aC.nil,av.k4 M0 M1 M2 M3<|av.k4 M4 M5 M6 M7<|av.k4 M8 M9 nU pV<|av.k4 sk yR Il Nf<|av.cons NK<|av.cons SB<|av.nil,?_⟩
 iterate 3 refine DG.a ?_
 refine(ly) ?_;intro w35 vt V;simp only [CM,NM,CA,NA,iK.it] at V;refine bM ?_;refine WL.nil (EX.np ?_);refine fj ?_;refine WL.ct (t:=58) rfl (fun g58=>?_) (fun g58=>?_)
 ·
  refine cw ?_;refine WL.ct (t:=62) rfl (fun LD=>?_) (fun LD=>?_)
  ·
   refine dp ?_;refine WL.ct (t:=67) rfl (fun Nz=>?_) (fun Nz=>?_)
   ·
    refine bM ?_;refine WL.c1 (u:=K0.val) (fu (n:=0) (aa:=H2) (As.gr V.g16)) (by rw [show aN H2 0=K0 from nz]) V fun w36 s36 Zn=>?_;refine WL.go rfl (OX.aS (us:=K0.cells) du rfl rfl rfl rfl fun b71 w37 L0 HS=>?_);have W:=Zn.df L0 HS;refine(eY) (lj (As.gr W.g2) (SR.dr (A:=fun _=>True) (x:=K0) (As.gb W.g0) trivial rfl (by simp [Key.cells,Value.oneCell']) rfl) rfl) W fun w38 s38 Zo=>?_;refine fj ?_;refine WL.ct (t:=78) rfl (fun g78=>?_) (fun g78=>?_)
    ·
     refine(bB) ?_;exact⟨_,rfl,Zo.k0⟩
    exact cL g78
   exact cL Nz
  exact cL LD
 ·
  exact cL g58
 -- kX eH G74
set_option maxHeartbeats 400000
set_option maxHeartbeats 1600000 in
theorem tj{k:Key}(gJ:St w M Z w []) (ht:j5 prog Z w) (hu:Rd RR.dM 4 Z w ar r cr aa) (hi:Rd RR.aD 4 Z w a1 n1 e1 x.ab) (hr:Rd RR.iV 8 Z w a2 n2 e2 x.ai) (H:ao aa) (hB:gz x) (hk:dU aa k) (Ns:fL aa k=true):Calls prog 13 #[.slice ar r cr,.agg (x.row a1 n1 e1 a2 n2 e2).toArray,k.val] w fun e w'=>∃(ra:Option Addr) (E rc:Nat) (L:List Key) (Z':Nat→Prop),e=.returned (.tuple #[.slice ra E rc,.int .i64 0])∧L.length≤124∧(∀y,y∈L↔zq aa x.ab k y)∧fE w.heap.size Z Z'∧St w M Z' w' [As.os RR.key 43 2 ra E rc L]:=by
 refine enter func13 rfl ntmps13 rfl<|?_;have aO:=St.rb gJ;have st1:=aO.fr hu;have st2:=st1.fr hi;have lN:=st2.fr hr;have jl:=lN.fact (B:=As.fz (FZ.Iy prog)) ht (fun _ hx=>hx);refine(dx) jl fun b4 w1 CX H0 ki=>?_;refine(dx) ki fun b5 w2 QF QG J=>?_;refine(bP) cc J.b1<|(bP) ak J.b0<|(eY) (jo (As.gr J.g5) (As.gr J.g4) (As.gr J.g3) H hB Ns) J fun w3 s3 ku=>?_;refine(aX) (fun g20=>?_) fun g20=>?_
 ·
  exact cL g20
 refine(bP) cc ku.b1<|?_;have im:=ku;refine(cJ) Lm (mI (x:=x) im.e0) ?_;rintro _ w4 ⟨d1,d2,d3,rfl,sa⟩;have jZ:=St.lr im sa;refine cw ?_;refine WC.cu (m:=7) [] [2,4] [2,3,4,0,1,5,6] [(1,.sl 43 1 k.cells)] jZ (av.k4 M0 M1 M2 M3<|av.k4 M4 M5 M6 M7<|av.cons M8<|av.nil) mixed (by kernel_rfl) (by kernel_rfl) rfl<|(gK) (fun w5 R2x Sk fw Jv=>?_);simp only [CA,NA] at fw;refine OX.makeMap Key.val rfl fun K w6 Sm Zp=>?_;have eC:=fw.Gi Sm Zp;refine⟨Sm.ext.size,_,rfl,_,_,_,eC,aC.k4<|aC.k4<|aC.k2<|aC.nil,av.k4 M1 M2 M3 M4<|av.k4 M5 M6 M7 M8<|av.cons M9<|av.nil,?_⟩;refine(mQ) ak SV.g3<|?_;refine DG.cs rfl rfl rfl rfl rfl (fun w7 Je yg X kZ=>?_);simp only [CA,NA] at X;refine OX.ins cE kh (As.gm X.g0) rfl rfl rfl fun w8 nT vo=>?_;have dG:=X.iu nT vo;refine⟨nT.size,rfl,_,_,_,dG,aC.k4<|aC.k4<|aC.k2<|aC.nil,av.k4 M1 M2 M3 M4<|av.k4 M5 M6 M7 M8<|av.cons M9<|av.nil,?_⟩;refine(mQ) ak SV.g3<|?_;refine DG.side (s:=.sl 43 1 k.cells) rfl rfl rfl rfl rfl rfl (fun wx Zx Rx su Y=>OX.aS (us:=k.cells) du rfl rfl rfl rfl fun b wy P hb=>⟨P.ext.size,_,rfl,⟨b,rfl⟩,Y.df P hb⟩)<|?_;rintro _ ⟨R,rfl⟩
 iterate 2 refine DG.a ?_
 refine(ly) ?_;intro w9 FD dX;simp only [CM,NM,CA,NA,iK.it] at dX;refine nx ?_;refine WL.nil (EX.np ?_);have dQ:=dX.p1.sr (B:=As.map Key.val K (gQ [k])) (rfl);have gI:=dQ.p1;have e4:=gI.conv (B:=As.os RR.key 43 2 (some ⟨R,0,none⟩) 1 1 [k]) (OR.dr (As.gb gI.g0) (Nat.zero_le _) rfl (by simp [Key.cells,Value.oneCell']) rfl) (fun x h=>by show x=R;change x∈bA (some ⟨R,0,none⟩) at h;simpa [bA] using h);refine gW ?_;refine WC.bj (σ:=Nat × (List Key) × (List (Key × Value)) × (List (Key × Value)) × (Option Addr) × Nat × Nat) (db:=fun(i,l,ml,ql,f,g,o)=>[(9,.pointer (some ⟨d1,0,none⟩)),(10,.slice f g o),(11,.map (some K)),(12,.int .i64 (i:Int))]) (F:=fun(i,l,ml,ql,f,g,o)=>[As.os RR.key 43 2 f g o (l),As.map Key.val K (gQ l),As.map Key.val d2 ml,As.map Key.val d3 ql]) (I:=fun(i,l,ml,ql,f,g,o)=>(wA aa x.ab k l i 0)∧(aJ aa x.ab ml)∧(∀y,bq ql y≠none→∃j:Nat,j<i∧l[j]?=some y)∧True) (μ:=fun(i,l,ml,ql,f,g,o)=>200 - i) (0,[k],[],[],(some ⟨R,0,none⟩),1,1) (e4.p4.p4.p3.p3) Sub.t (⟨wA.start hk,aJ.nil,fun y h=>absurd rfl h,trivial⟩)<|?_;rintro⟨i,l,ml,ql,f,g,o⟩ lI G ⟨hb,hm,Zq,_⟩;simp only [CA,NA] at G hb hm Zq ⊢;have hln:=((As.gs G.g0)).len;have acC:=hb.len H;refine(aX) (fun Zr=>?_) fun Zr=>?_
 ·
  simp at Zr
  have S:i<l.length:=by omega
  have NF:=hb.yN l[i] (List.getElem_mem S);have OM:=qR (aD:=x.ab) H NF
  have Zs:bq ql l[i]=none:=Classical.byContradiction fun h=>by
   obtain⟨j,h1,N⟩:=Zq _ h;have h3:=(List.getElem?_eq_some_iff.1 N);obtain⟨h4,h5⟩:=h3;exact absurd ((List.getElem_inj hb.jq).1 h5) (by omega)
  refine dp ?_;obtain⟨jj,eB⟩:=Ow.addr (As.gs G.g0) (ah S);refine cw ?_;refine WP .r (PV.dR ez eB rfl rfl (by omega))<|(bP) ak (Ow.kl (As.gs G.g0) (by omega) eB (ah S))<|?_;have u:=G.p3.p3.p4;refine(cJ) Pq (mf (x:=x) (D:=⟨ar,a1,a2,r,cr,n1,e1,n2,e2,d2,d3,d1⟩) u.e3 ⟨(As.gr u.g10),(As.gr u.g9),(As.gr u.g8),(As.gf u.g7)⟩ hm H NF Zs) ?_;rintro _ mH ⟨ra,E,rc,dj,ql2,rfl,ss,Ij,sc⟩;have O:=St.lr u sc;have Bf:=((As.gs O.g3)).len;refine dp ?_;refine WC.bj (σ:=Nat × (List Key) × (Option Addr) × Nat × Nat) (db:=fun(q,p,f,g,o)=>[(9,.pointer (some ⟨d1,0,none⟩)),(10,.slice f g o),(11,.map (some K)),(12,.int .i64 (i:Int)),(41,.slice ra E rc),(42,.int .i64 (E:Int)),(43,.int .i64 (q:Int))]) (F:=fun(q,p,f,g,o)=>[As.os RR.key 43 2 f g o (p),As.map Key.val K (gQ p)]) (I:=fun(q,p,f,g,o)=>(q≤E)∧(wA aa x.ab k p i q)∧(p[i]?=some l[i])∧(∀y,bq ql y≠none→∃j:Nat,j<i∧p[j]?=some y)∧True) (μ:=fun(q,p,f,g,o)=>E - q) (0,l,f,g,o) (O.p5.p5) Sub.t (⟨Nat.zero_le _,hb,ah S,Zq,trivial⟩)<|?_;rintro⟨q,p,f,g,o⟩ pS v ⟨hq,Q,C,T,_⟩;simp only [CA,NA] at v hq Q C T ⊢;have Zt:=((As.gs v.g0)).len;have Zu:=Q.len H;refine(aX) (fun Zv=>?_) fun Zv=>?_
  ·
   simp at Zv
   obtain⟨y,hy⟩:∃y,(cy aa x.ab l[i])[q]?=some y:=⟨_,List.getElem?_eq_getElem (show q<(cy aa x.ab l[i]).length by omega)⟩;refine dp ?_;obtain⟨rM,iJ⟩:=Ow.addr (As.gs v.g5) hy;refine nx ?_;refine WP .r (PV.dR ez iJ rfl rfl (by omega))<|(bP) ak (Ow.kl (As.gs v.g5) (by omega) iJ hy)<|(gx) v fun b14 rO Rz Ft gn=>?_;refine(dZ) gk gn fun x2 Bt wu U=>?_;refine(bP) ak U.b0<|?_;refine WP .r (PV.j6 cE kh Hg (As.gm U.g2) (qS p y) rfl rfl)<|(aX) (fun Zw=>?_) fun Zw=>?_
   ·
    have V:y∉p:=by simpa using Zw
    refine WC.cu (m:=7) [] [5] [2,3,4,5,0,1,6] [(4,.sl 43 1 y.cells)] U (av.k4 M0 M2 M3 M4<|av.k4 M5 M6 M7 M8<|av.k4 M9 nU pV sk<|av.nil) mixed (by kernel_rfl) (by kernel_rfl) rfl<|(mQ) ak SV.g0<|?_;refine DG.side (s:=.sl 43 1 y.cells) rfl rfl rfl rfl rfl rfl (fun wx Zx Rx su Y=>OX.aS (us:=y.cells) du rfl rfl rfl rfl fun b wy P hb=>⟨P.ext.size,_,rfl,⟨b,rfl⟩,Y.df P hb⟩)<|?_;rintro _ ⟨b55,rfl⟩;refine(gK) (fun x3 My Ax W mg=>?_);simp only [CA,NA] at W;refine OX.mX nG rfl rfl rfl (As.gs W.g1) (SR.dr (A:=fun _=>True) (x:=y) (show bJ _ b55 _ _ from W.ok _ (.tail _ (.tail _ (.tail _ (.tail _ (.tail _ (.tail _ (.tail _ (.tail _ (.tail _ (.tail _ (.tail _ (.tail _ (.tail _ (mg _ (.head _)))))))))))))))) trivial rfl (by simp [Key.cells,Value.oneCell']) rfl) (by omega) (by omega) (Nat.zero_le _) fun a56 Zy vq Zz s56 ZA aha=>?_;have eb:=W.p1.gN s56 Zz ZA;refine⟨s56.size,_,rfl,_,_,_,eb,aC.k4<|aC.k4<|aC.k4<|aC.cons<|aC.nil,av.k4 M1 M2 M3 M4<|av.k4 M5 M6 M7 M8<|av.k4 M9 nU pV sk<|av.nil,?_⟩;refine(mQ) ak SV.g0<|(ly) ?_;intro Bu Jf e7;simp only [CM,NM,CA,NA,iK.it] at e7;refine WL.go rfl (OX.put cE kh (As.gm e7.g3) rfl rfl rfl fun CL An Ao=>?_);have gS:=e7.p3.iu An Ao;refine WL.nil (EX.np ?_);have j2:=gS.sr (B:=As.map Key.val K (gQ (p++[y]))) (by rw [qT _ V]);refine fj ?_;refine fx (q+1,p++[y],a56,(g+1),Zy) ⟨j2.p1.drop.p2.drop.p1,⟨by omega,Q.add H C hy V,by rw [List.getElem?_append_left (List.getElem?_eq_some_iff.1 C).1];exact C,fun z hz=>by obtain⟨j,h1,N⟩:=T z hz;exact⟨j,h1,by rw [List.getElem?_append_left (List.getElem?_eq_some_iff.1 N).1];exact N⟩,trivial⟩⟩
   have V:y∈p:=by simpa using Zw
   refine fb ?_;refine fx (q+1,p,f,g,o) ⟨U.drop,⟨by omega,Q.has C hy V,C,T,trivial⟩⟩
  simp at Zv
  refine iM ?_
  refine fx (i+1,p,dj,ql2,f,g,o) ⟨v.p5.drop.p4.p4.p3.p3,⟨Q.next C (by omega),ss,fun y hy=>by
   rcases Ij y hy with e | h
   ·
    exact⟨i,by show i<i+1;omega,by rw [e];exact C⟩
   obtain⟨j,h1,N⟩:=T y h;exact⟨j,by show j<i+1;omega,N⟩,trivial⟩⟩
 simp at Zr
 refine fj ?_;have FL:=St.fresh G;have u:=G.eX (by omega);refine bM ?_;have O:=u;refine(cJ) Pk (nK O.e0 (As.gr O.g0) (fun _ h _=>h) (by omega)) ?_;rintro _ mH ⟨o1,o2,o3,rfl,sc⟩;have v:=St.lr O sc;refine(wv) ?_;exact⟨o1,o2,o3,iY l,_,rfl,Nat.le_trans (lB _) (by omega),fun y=>(lC _ _).trans (hb.done (by omega) y),fE.wt (F:=fun x=>x∈bA f) FL,(St.wk v.k1)⟩
set_option maxHeartbeats 400000
set_option maxHeartbeats 400000
set_option maxHeartbeats 400000
set_option maxHeartbeats 400000
set_option maxHeartbeats 400000
set_option maxHeartbeats 400000
theorem yH(D:St w M Z w [As.gv 67 d]) (hu:Rd RR.dM 4 Z w ar r cr aa) (h0:1≤aa.length) (H:aa.length≤100):Calls prog 37 #[.pointer (some ⟨d,0,none⟩),.slice ar r cr] w fun e w'=>∃k:Key,e=.returned k.val∧mu aa k∧St w M Z w' [As.gv 67 d]:=by
 have hlen:=hu.len;refine enter func37 rfl ntmps37 rfl<|?_;have aO:=D;have st1:=aO.fr hu;refine(gx) st1 fun b4 w1 I J st2=>?_;refine fj ?_;have u:=st2.p2;refine(cJ) jh (bu u.e1 (m:=8) (by omega)) ?_;rintro _ w2 ⟨K,rfl,L,v,E⟩;have y:=St.lr u E;have v:=v (by omega);refine(aX) (fun g7=>?_) fun g7=>?_
 ·
  skip
  refine cv ?_;have h:=y;refine(cJ) jh (bu h.e1 (m:=4) (by omega)) ?_;rintro _ w3 ⟨z4,rfl,F,z,p⟩;have o:=St.lr h p;have z:=z (by omega);refine(eY) (gH (n:=z4)) o fun w4 N g=>?_;refine(dZ) gk g.p1 fun w5 O P f=>?_;refine(kp) ak f.b0<|?_;exact⟨_,rfl,.inl ⟨z4,F,by omega,rfl⟩,f.drop.p1.drop⟩
 skip
 refine fj ?_;have h:=y;refine(cJ) jh (bu h.e1 (m:=2) (by omega)) ?_;rintro _ w3 ⟨z2,rfl,Q,A,p⟩;have o:=St.lr h p;have A:=A (by omega);refine(aX) (fun g13=>?_) fun g13=>?_
 ·
  skip
  refine lW ?_;refine WP .r (PV.Gf rfl rfl)<|?_;have g:=o;refine(cJ) jh (bu g.e1 (m:=min 3 (r:Int)) (by omega)) ?_;rintro _ w4 ⟨z22,rfl,R,B,s⟩;have f:=St.lr g s;have B:=B (by omega);refine(eY) (fu (n:=(r:Int) - 1 - z22) (As.gr f.g2)) f fun w5 G t=>?_;refine(dZ) gk t.p1 fun w6 S T j=>?_;refine(kp) ak j.b0<|?_;obtain⟨i,hi⟩:∃i:Nat,(r:Int) - 1 - z22=i:=⟨((r:Int) - 1 - z22).toNat,by omega⟩;exact⟨_,rfl,.inr ⟨i,by omega,by rw [hi]⟩,j.drop.p1.drop⟩
 skip
 refine gW ?_;have g:=o;refine(cJ) jh (bu g.e1 (m:=(r:Int)) (by omega)) ?_;rintro _ w4 ⟨z5,rfl,U,C,s⟩;have f:=St.lr g s;have C:=C (by omega);refine(eY) (fu (n:=z5) (As.gr f.g2)) f fun w5 G t=>?_;refine(dZ) gk t.p1 fun w6 V W j=>?_;refine(kp) ak j.b0<|?_;obtain⟨i,rfl⟩:∃i:Nat,z5=i:=⟨z5.toNat,by omega⟩;exact⟨_,rfl,.inr ⟨i,by omega,rfl⟩,j.drop.p1.drop⟩
theorem vW{m:Int}(B:St w M Z w [As.gv 67 d]) (hu:Rd RR.dM 4 Z w ar r cr aa) (h0:1≤aa.length) (C:aa.length≤100) (hm:1≤m) (Q:m≤1000):Calls prog 11 #[.pointer (some ⟨d,0,none⟩),.slice ar r cr,.int .i64 m] w fun e w'=>∃a n c,∃l:List Key,e=.returned (.slice a n c)∧(l.length:Int)≤m∧(∀x∈l,mu aa x)∧St w M Z w' [As.gv 67 d,As.os RR.key 43 2 a n c l]:=by
 have hlen:=hu.len;refine enter func11 rfl ntmps11 rfl<|?_;have aO:=B;have st1:=aO.fr hu;have st2:=st1.fV RR.key 43 2;refine aT ?_;refine cv ?_;have s:=st2.p2;refine(cJ) jh (bu s.e1 (m:=m) (by omega)) ?_;rintro _ w1 ⟨z0,rfl,R,u,D⟩;have E:=St.lr s D;have u:=u (by omega);obtain⟨z,rfl⟩:∃z:Nat,z0=z:=⟨z0.toNat,by omega⟩;refine dp ?_;refine WC.bj (σ:=Nat × (List Key) × (Option Addr) × Nat × Nat) (db:=fun(i,l,g,f,j)=>[(0,.pointer (some ⟨d,0,none⟩)),(1,.slice ar r cr),(7,.slice g f j),(8,.int .i64 (i:Int))]) (F:=fun(i,l,g,f,j)=>[As.os RR.key 43 2 g f j (l),As.gv 67 d]) (I:=fun(i,l,g,f,j)=>(l.length+i≤z+1)∧(∀x∈l,mu aa x)∧True) (μ:=fun(i,l,g,f,j)=>i) (z+1,[],none,0,0) (E.p1) Sub.t (⟨by simp,by simp,trivial⟩)<|?_;rintro⟨i,l,g,f,j⟩ w2 k ⟨G,o,_⟩;simp only [CA,NA] at k G o ⊢;have S:=((As.gs k.g0)).len;refine(aX) (fun g14=>?_) fun g14=>?_
 ·
  simp at g14
  refine gW ?_;have p:=k.p1;refine(cJ) U4 (yH p.e1 (As.gr p.g2) h0 C) ?_;rintro _ w3 ⟨x,rfl,H,J⟩;have K:=St.lr p J;refine WL.go rfl (OX.aS (us:=x.cells) du rfl rfl rfl rfl fun T w4 L N=>?_);have v:=K.df L N;refine WL.ap rfl rfl v.p2 (SR.dr (A:=fun _=>True) (x:=x) (As.gb v.g0) trivial rfl (by simp [Key.cells,Value.oneCell']) rfl) fun a22 O w5 U V P=>?_;refine lW ?_;refine fx (i - 1,l++[x],a22,(f+1),O) ⟨P.p1.drop,⟨by simp;omega,fun y hy=>by rcases List.mem_append.1 hy with h | h;exact o y h;simp at h;subst h;exact H,trivial⟩⟩
 simp at g14
 refine(bB) ?_;exact⟨_,_,_,l,rfl,by omega,o,k.p2.drop.p1⟩
end Go.Rc

