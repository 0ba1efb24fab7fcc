/- Walks over the program, part WZl. Conditions: as each theorem says. -/
import Derived.Test.YtjpagoacbadijaaGreatDoorJFacts
import Derived.Test.YtjpagoacbadijaaGreatDoorJWX
import Derived.Test.YtjpagoacbadijaaGreatDoorJBf
import Derived.Test.YtjpagoacbadijaaGreatDoorJWF
import Derived.Test.YtjpagoacbadijaaGreatDoorJWH
import Derived.Test.YtjpagoacbadijaaGreatDoorJBh
import Derived.Test.YtjpagoacbadijaaGreatDoorJWK
set_option linter.all false
namespace Go.Rc
open Go Go.Proofs Go.Proofs.Tryz
variable {l:List Key}{f:FuncId}{cap:Value}{a ar a1 a2:Option Addr}{n c r cr n1 e1 n2 e2:Nat}{w:World}{Z A M:Nat→Prop}{aa:List az}{x:cI}{k:Key}
set_option maxHeartbeats 400000
theorem r9{p:Key→Bool}(m:CF prog f) (hl:Rd RR.key 2 Z w a n c l) (o:∀w1,aJ [] w w1→∀x∈l,Calls prog f #[x.val,cap] w1 fun e w'=>e=.returned (.bool (p x))∧aJ [] w1 w'):Calls prog 123 #[.slice a n c,.func (.func f) #[] #[cap]] w fun e w'=>∃j:Int,e=.returned (.int .i64 j)∧tH l p j∧aJ [] w w':=by
 have hlen:=hl.len;have hle:=hl.le;refine enter func123 rfl ntmps123 rfl<|?_;have aO:=St.s0 w;refine aN ?_;refine bP ?_;refine WC.br (σ:=Nat) (cT:=fun i=>[(0,.slice a n c),(1,.func (.func f) #[] #[cap]),(7,.int .i64 (n:Int)),(8,.int .i64 (i:Int))]) (F:=fun i=>[]) (I:=fun i=>(i≤n)∧(∀j x,j<i→l[j]?=some x→p x=false)∧True) (μ:=fun i=>n - i) (0) (aO) Sub.t (⟨by omega,fun j x h=>by omega,trivial⟩)<|?_;rintro i w1 st1 ⟨hi,b,_⟩;simp only [CA,NA] at st1 hi b ⊢;refine(aP) (fun g9=>?_) fun g9=>?_
 ·
  simp at g9
  have d:i<l.length:=by omega
  refine na ?_;obtain⟨z,B,C,q,D,g,s,E⟩:=Rd.at hl d;have g:=RR.bX g;subst g;refine cB ?_;refine WP .r (PV.dM dL q rfl rfl (by omega))<|(bj) ak (aR s (St.cg st1) (by simp))<|?_;refine WL.go rfl (OX.mS m rfl rfl rfl ((Calls.cap (o _ (St.cg st1) l[i] (List.getElem_mem d))).mono ?_));rintro _ w2 ⟨rfl,s2⟩;refine⟨_,rfl,?_⟩;have st2:=st1.step s2;refine(aP) (fun g16=>?_) fun g16=>?_
  ·
   refine(bF) ?_;exact⟨_,rfl,.inl ⟨i,_,ae d,g16,b,rfl⟩,(St.cg st2)⟩
  have g16:p l[i]=false:=by simpa using g16
  refine eL ?_;refine dX (i+1) ⟨st2,⟨by omega,cn d b (by simpa using g16),trivial⟩⟩
 simp at g9
 have u:∀x∈l,p x=false:=fun x v=>by obtain⟨j,y,rfl⟩:=List.getElem_of_mem v;exact b j _ (by omega) (ae y)
 refine(bF) ?_;exact⟨_,rfl,.inr ⟨u,rfl⟩,(St.cg st1)⟩
theorem nP{p:Key→Bool}(b:CF prog f) (hl:Rd RR.key 2 Z w a n c l) (d:∀w1,aJ [] w w1→∀x∈l,Calls prog f #[x.val,cap] w1 fun e w'=>e=.returned (.bool (p x))∧aJ [] w1 w'):CR prog 84 #[.slice a n c,.func (.func f) #[] #[cap]] w (.bool (l.any p)):=by
 refine enter func84 rfl ntmps84 rfl<|?_;have aO:=St.s0 w;refine(cA) EO (r9 (w:=w) b (hl.ext (St.cg aO)) (fun w1 h1=>d w1 (aJ.trans (St.cg aO) h1))) ?_;rintro _ w1 ⟨j,rfl,g,s1⟩;have st1:=aO.step s1;have h:=g.any;refine(bF) ?_;exact⟨by rw [h],(St.cg st1)⟩
set_option maxHeartbeats 400000
theorem ta(hu:ee A w ar r cr aa) (hi:Rd RR.aC 4 Z w a1 n1 e1 x.ab) (hr:Rd RR.e8 8 Z w a2 n2 e2 x.ah) (e:ao aa) (g:gQ x) (hk:eh aa k=true):CR prog 48 #[.slice ar r cr,.agg (x.row a1 n1 e1 a2 n2 e2).toArray,k.val] w (.int .i64 0):=by
 refine enter func48 rfl ntmps48 rfl<|?_;have aO:=St.s0 w;refine(dr) aO fun b4 w1 q s st1=>?_;refine(dr) st1 fun b5 w2 t v st2=>?_;refine(cA) Py (o8 (hu.ext (St.cg st2))) ?_;rintro _ w3 ⟨bv,rfl,h,i⟩;have b:=st2.step i;obtain rfl:bv=true:=h.2 e;refine(aP) (fun g7=>?_) fun g7=>?_
 ·
  exact ep g7
 ·
  refine(bj) bz b.b1<|(cA) Lc (j8 (x:=x) (hi.ext (St.cg b)) (hr.ext (St.cg b))) ?_;rintro _ w4 ⟨j,rfl,m,o⟩;have d:=b.step o;obtain rfl:j=true:=m.2 g;refine(aP) (fun g11=>?_) fun g11=>?_
  ·
   exact ep g11
  refine(bj) ak d.b0<|?_;refine WL.c1 (u:=.bool true) (pa (k:=k) (hu.ext (St.cg d))) (by rw [hk]) d fun w5 y p=>?_;refine cB ?_;refine WC.fP rfl<|(bF) ?_;exact⟨rfl,(St.cg p)⟩
 -- z B C
theorem sZ(s:St w M Z w []) (ht:jM prog Z w) (hu:Rd RR.fl 4 Z w ar r cr aa) (hi:Rd RR.aC 4 Z w a1 n1 e1 x.ab) (hr:Rd RR.e8 8 Z w a2 n2 e2 x.ah) (g:ao aa) (t:gQ x) (hk:eU aa k) (u:eh aa k=true):Calls prog 24 #[.slice ar r cr,.agg (x.row a1 n1 e1 a2 n2 e2).toArray,k.val] w fun e w'=>e=.returned (.tuple #[.string (valOf aa x.ab k),.int .i64 0])∧St w M Z w' []:=by
 refine enter func24 rfl ntmps24 rfl<|?_;have aO:=s;have st1:=aO.fr hu;have st2:=st1.fr hi;have v:=st2.fr hr;have y:=v.fact (B:=As.fz (FZ.F0 prog)) ht (fun _ z=>z);refine(dr) y fun b4 w1 H I C=>?_;refine(dr) C fun b5 w2 J K b=>?_;refine(bj) bz b.b1<|(bj) ak b.b0<|(eZ) (ta (As.gr b.g5) (As.gr b.g4) (As.gr b.g3) g t u) b fun w3 L E=>?_;refine(aP) (fun g14=>?_) fun g14=>?_
 ·
  exact ep g14
 refine ct ?_;refine WC.dx (m:=5) [] [2,4] [0,1,2,3,4] [] E (av.k4 M0 M1 M2 M3<|av.cons M4<|av.cons M5<|av.nil) mixed (by kernel_rfl) (by kernel_rfl) rfl<|(py) bz SV.g1<|(iF) (fun w4 N O h P=>?_);simp only [CA,NA] at h;have i:=h;refine OX.call Pr rfl rfl ((rH (x:=x) i.e0).mono ?_);rintro _ w5 ⟨d1,d2,d3,rfl,j⟩;have F:=St.lr i j;refine⟨_,rfl,j.bR.size,_,rfl,_,_,_,F,aG.k4<|aG.k4<|aG.cons<|aG.nil,av.k4 M3 M4 M5 M6<|av.cons M7<|av.cons M8<|av.nil,?_⟩;refine(py) ak SV.g0<|(iF) (fun w6 Q R o S=>?_);simp only [CA,NA] at o;have d:=o.p1.p1;refine OX.call EN rfl rfl ((um (x:=x) (D:=⟨ar,a1,a2,r,cr,n1,e1,n2,e2,d2,d3,d1⟩) g hk _ _ _ [] d.e2 ⟨(As.gr d.g8),(As.gr d.g7),(As.gr d.g6),(As.gf d.g5)⟩ aM.nil).mono ?_);rintro _ w7 ⟨dt,rfl,T,U,p⟩;have G:=St.lr d p;refine⟨_,rfl,p.bR.size,_,rfl,_,_,_,G,aG.k4<|aG.k4<|aG.cons<|aG.nil,av.k4 M3 M4 M5 M6<|av.cons M7<|av.cons M8<|av.nil,?_⟩;refine(pS) ?_;intro V W q;simp only [CM,NM,CA,NA,ky.it] at q;refine bP ?_;refine WL.nil (EX.np ?_);refine(sf) ?_;exact⟨rfl,q.k0⟩
theorem vJ(hi:Rd RR.aC 4 Z w a1 n1 e1 x.ab) (hr:Rd RR.e8 8 Z w a2 n2 e2 x.ah):CR prog 23 #[.agg (x.row a1 n1 e1 a2 n2 e2).toArray,k.val] w (.tuple #[.string (dO x k),.bool (eO x k)]):=by
 refine enter func23 rfl ntmps23 rfl<|?_;have aO:=St.s0 w;refine(dr) aO fun b2 w1 o p st1=>?_;refine(dr) st1 fun b3 w2 q s st2=>?_;refine(bj) ak st2.b0<|(eZ) (dd (k:=k)) st2 fun w3 u b=>?_;refine(aP) (fun g9=>?_) fun g9=>?_
 ·
  skip
  refine(bj) bz b.b1<|(bj) ak b.b0<|(eZ) (lC (x:=x) (k:=k) (hi.ext (St.cg b)) (hr.ext (St.cg b))) b fun w4 j g=>?_;refine(sf) ?_;exact⟨by unfold dO eO;rw [if_pos g9,g9];rfl,(St.cg g)⟩
 skip
 refine(bp) el b.b1<|(bj) ak b.b0<|(cA) ov (cX (k:=k) (hr.ext (St.cg b))) ?_;rintro _ w4 ⟨f1,f2,f3,rfl,j⟩;have g:=b.step j;refine(ft) g fun y w5 z B m=>?_;refine(dh) fA m fun w6 C D d=>?_;refine cB ?_;refine WC.dA (t:=27) (v:=.bool ((ay x.ah k).isSome && decide ((aD x.ah k).aq=x.ad))) d ?_<|?_
 ·
  refine(cz) (fun g21=>?_) (fun g21=>?_)
  ·
   refine(bp) aK d.b0<|(bp) aK d.b2<|?_;exact(bW) (tG g21) (d)
  exact(bW) (tG g21) (d)
 intro w7 h;refine(aP) (fun i=>?_) fun i=>?_
 ·
  have e:eO x k=true:=by unfold eO;rw [g9,i];rfl
  refine(bp) eV h.b0<|(sf) ?_;exact⟨by unfold dO;rw [if_neg (by rw [g9];simp),if_pos e,e],(St.cg h)⟩
 have e:eO x k=false:=by unfold eO;rw [g9,i];rfl
 refine(sf) ?_;exact⟨by unfold dO;rw [if_neg (by rw [g9];simp),if_neg (by rw [e];simp),e],(St.cg h)⟩
set_option maxHeartbeats 400000
set_option maxHeartbeats 400000
set_option maxHeartbeats 400000
set_option maxHeartbeats 400000
set_option maxHeartbeats 400000
set_option maxHeartbeats 400000
set_option maxHeartbeats 1600000 in
set_option maxRecDepth 8000 in
theorem ka{l:List Change}{al:Option Addr}{nl d:Nat}(gq:St w M Z w []) (hi:Rd RR.aC 4 Z w a1 n1 e1 x.ab) (hr:Rd RR.e8 8 Z w a2 n2 e2 x.ah) (hl:Rd RR.bR 3 Z w al nl d l) (hb:gQ x) (hx:gZ x.ad x.ab) (hs:∀c∈l,c.small) (Tt:l.length≤32):Calls prog 21 #[.agg (x.row a1 n1 e1 a2 n2 e2).toArray,.slice al nl d] w fun e w'=>∃(y:cI) (b1 b2:Option Addr) (m1 d1 m2 d2:Nat) (er:Int) (Z':Nat→Prop),e=.returned (.tuple #[.agg (y.row b1 m1 d1 b2 m2 d2).toArray,.int .i64 er])∧y.ah=x.ah∧x.ad≤y.ad∧y.ad≤1073741824∧gZ y.ad y.ab∧y.ab.length≤64∧y.ad≤x.ad+1∧OJ x l y∧AO x l y∧(x.ad+1≤1073741824→er=0)∧Rd RR.aC 4 Z' w' b1 m1 d1 y.ab∧Rd RR.e8 8 Z' w' b2 m2 d2 y.ah∧dV w.heap.size Z Z'∧St w M Z' w' []:=by
 have hln:=hl.len;have h7a:=hb.2.2.2.2.1;have h6a:=hb.2.2.2.2.2.1
 have h6:x.ah.length≤1000000:=by omega
 have h7:x.ab.length≤1000000:=by omega
 have hv0:=hb.2.2.1;have Dc:=hb.2.2.2.1;refine enter func21 rfl ntmps21 rfl<|?_;have aO:=St.rb gq;have st1:=aO.fr hi;have st2:=st1.fr hr;have jg:=st2.fr hl;refine(dr) jg fun b2 w1 X7 E1 iH=>?_;refine(ft) iH fun b4 w2 E0 I3 l5=>?_;refine(bj) bz l5.b1<|?_;have ks:=l5;refine(cA) EJ (gV (x:=x) ks.e0 (As.gr ks.g4) (As.gr ks.g3) h6 h7) ?_;rintro _ w3 ⟨f1,f2,f3,f4,f5,f6,Z1,rfl,FD,pH⟩;have jn:=St.lv ks pH FD;have Zd:=St.dw pH;have Ze:=St.dw pH.p1;have Ag:=ks.size;have Dd:=FD.le Ag;have Zg:=St.fresh jn;have ji:=jn.dZ (by omega);have Zh:=St.fresh ji.p1;have kz:=ji.p1.dZ (by omega);have Zi:=(Dd.trans (dV.nR (F:=fun x=>x∈bl f1) Zd) Ag).trans (dV.nR (F:=fun x=>x∈bl f4) Ze) Ag;refine(dh) jE kz.p3 fun w4 l4 mK dY=>?_;refine(bj) bz dY.b0<|(cA) Lc (j8 (x:=x) (As.gr dY.g2) (As.gr dY.g1)) ?_;rintro _ w5 ⟨bb,rfl,hbb,s5⟩;have eu:=dY.step s5;obtain rfl:bb=true:=hbb.2 hb;refine(aP) (fun g24=>?_) fun g24=>?_
 ·
  exact ep g24
 ·
  refine(aP) (fun Ge=>?_) fun Ge=>?_
  ·
   exact ep Ge
  refine aN ?_;refine WC.br (σ:=Nat) (cT:=fun i=>[(1,.slice al nl d),(2,.pointer (some ⟨b2,0,none⟩)),(4,.pointer (some ⟨b4,0,none⟩)),(34,.slice al nl d),(35,.int .i64 (nl:Int)),(36,.int .i64 (i:Int))]) (F:=fun i=>[]) (I:=fun i=>(i≤l.length)∧True) (μ:=fun i=>l.length - i) (0) (eu) Sub.t (⟨by omega,trivial⟩)<|?_;rintro i w6 cQ ⟨eS,_⟩;simp only [CA,NA] at cQ eS ⊢;refine(aP) (fun g37=>?_) fun g37=>?_
  ·
   simp at g37
   have G:i<l.length:=by omega
   have Ny:=hs _ (List.getElem_mem G);have hsk:=Ny.ok;have LZ:=Ny.2;refine cW ?_;obtain⟨jf,pG,mF,cx,iB,H,eK,fB⟩:=Rd.at (As.gr cQ.g4) G;have H:=RR.bX H;subst H;have O:=cQ.fg fB eK;refine nx ?_;refine WP .r (PV.dM Cu cx rfl rfl (by omega))<|(bj) xz (As.ll O.g0)<|(ft) O fun b7 w7 QJ QK L=>?_;refine(dh) EE L fun w8 v7 nZ U=>?_;refine(jJ) ak U.b0<|?_;refine WL.c1 (u:=.bool true) (gj (k:=l[i].key)) (by rw [hsk.1]) U fun w9 s9 P=>?_;refine(jJ) ak P.b0<|?_;refine WL.c1 (u:=.bool true) (dd (k:=l[i].key)) (by rw [hsk.2]) P fun kl QQ fy=>?_;refine cB ?_;refine WC.fP rfl<|eL ?_;refine dX (i+1) ⟨fy.drop.drop,⟨by omega,trivial⟩⟩
  skip
  refine aN ?_;refine bP ?_;refine WC.br (σ:=Nat) (cT:=fun i=>[(1,.slice al nl d),(2,.pointer (some ⟨b2,0,none⟩)),(4,.pointer (some ⟨b4,0,none⟩)),(52,.slice al nl d),(53,.int .i64 (nl:Int)),(54,.int .i64 (i:Int))]) (F:=fun i=>[]) (I:=fun i=>(i≤l.length)∧True) (μ:=fun i=>l.length - i) (0) (cQ) Sub.t (⟨by omega,trivial⟩)<|?_;rintro i w7 O ⟨eS,_⟩;simp only [CA,NA] at O eS ⊢;refine(aP) (fun g55=>?_) fun g55=>?_
  ·
   simp at g55
   have G:i<l.length:=by omega
   have Ny:=hs _ (List.getElem_mem G);have LZ:=Ny.2;refine cW ?_;obtain⟨jf,pG,mF,cx,iB,H,eK,fB⟩:=Rd.at (As.gr O.g4) G;have H:=RR.bX H;subst H;have L:=O.fg fB eK;refine nx ?_;refine WP .r (PV.dM Cu cx rfl rfl (by omega))<|(bj) xz (As.ll L.g0)<|(ft) L fun b9 w8 nw9 hb9 U=>?_;refine(dh) EE U fun w9 CC yG P=>?_;refine(bp) eV P.b0<|(aP) (fun HM=>?_) fun HM=>?_
   ·
    exact ep HM
   refine eL ?_;refine dX (i+1) ⟨P.drop.drop,⟨by omega,trivial⟩⟩
  skip
  refine(bj) bz O.b0<|?_;have L:=O;refine(cA) EJ (gV (x:=x) L.e0 (As.gr L.g2) (As.gr L.g1) h6 h7) ?_;rintro _ w8 ⟨k1,k2,k3,k4,k5,k6,Z2,rfl,x9,nF⟩;have U:=St.lv L nF x9;have Zj:=St.dw nF;have Zk:=St.dw nF.p1;have sD:=L.size;have uh:=Zi.trans x9 sD;have Zl:=St.fresh U;have P:=U.dZ (by omega);have Zm:=St.fresh P.p1;have fy:=P.p1.dZ (by omega);have Zn:=(uh.trans (dV.nR (F:=fun x=>x∈bl k1) Zj) sD).trans (dV.nR (F:=fun x=>x∈bl k4) Zk) sD;refine(ft) fy fun Q w9 x3 x4 gJ=>?_;refine(dh) jE gJ fun kl Nl Nn dU=>?_;refine(bp) aK dU.b0<|bP ?_;refine WL.s1 dU fun lB _ ew=>?_;refine aN ?_;refine cB ?_;refine WC.jv (σ:=Nat × Bool × (List ca) × (Option Addr) × Nat × Nat × (Nat→Prop)) (cT:=fun(i,ch,li,J,C,K,R)=>[(1,.slice al nl d),(2,.pointer (some ⟨b2,0,none⟩)),(4,.pointer (some ⟨b4,0,none⟩)),(10,.pointer (some ⟨Q,0,none⟩)),(11,.bool ch),(70,.slice al nl d),(71,.int .i64 (nl:Int)),(72,.int .i64 (i:Int))]) (F:=fun(i,ch,li,J,C,K,R)=>[As.blk Q 31 [.int .i64 (x.ad+1),.slice J C K,.slice k4 k5 k6],As.ro RR.aC 4 J C K li]) (I:=fun(i,ch,li,J,C,K,R)=>(i≤l.length)∧(gZ (x.ad+1) li)∧(li.length≤x.ab.length+i)∧(∀k,(∀c∈l,c.key≠k)→bw li k=bw x.ab k)∧(∀k,bw li k=bw x.ab k∨(bw li k).changed=x.ad+1)∧(dV w.heap.size Z R)∧(Cl x l i ch li)∧True) (μ:=fun(i,ch,li,J,C,K,R)=>l.length - i) (Zf:=fun(i,ch,li,J,C,K,R)=>R) (0,false,x.ab,k1,k2,k3,_) (ew.p2.p1) Sub.t (⟨by omega,hx.mono (by omega),by omega,fun _ _=>rfl,fun _=>.inl rfl,Zn,.start,trivial⟩)<|?_;rintro⟨i,ch,li,J,C,K,R⟩ pJ z ⟨eS,hG,Zo,TN,TO,BE,FT,_⟩;simp only [CA,NA] at z eS hG Zo TN TO BE FT ⊢;refine(aP) (fun RX=>?_) fun RX=>?_
  ·
   have Zp:=((As.gr z.g1)).len
   simp at RX
   have G:i<l.length:=by omega
   have Ny:=hs _ (List.getElem_mem G);refine cW ?_;obtain⟨jf,pG,mF,cx,iB,H,eK,fB⟩:=Rd.at (As.gr z.g7) G;have H:=RR.bX H;subst H;have o:=z.fg fB eK;refine bP ?_;refine WP .r (PV.dM Cu cx rfl rfl (by omega))<|(bj) xz (As.ll o.g0)<|(ft) o fun Nr rJ HT W8 jH=>?_;refine(dh) EE jH fun yH Tu MW ic=>?_;refine aN ?_;refine nx ?_;refine WP .r (PV.Dx Cu (i:=i+1) (As.gr ic.g9) rfl rfl (by omega))<|ct ?_;have fh:=ic.fr (SR.drop (i:=i+1) (As.gr ic.g9) (by omega));refine bP ?_;refine WC.br (σ:=Nat × Bool) (cT:=fun(q,V)=>[(1,.slice al nl d),(2,.pointer (some ⟨b2,0,none⟩)),(4,.pointer (some ⟨b4,0,none⟩)),(10,.pointer (some ⟨Q,0,none⟩)),(11,.bool ch),(13,.pointer (some ⟨Nr,0,none⟩)),(14,.bool V),(70,.slice al nl d),(71,.int .i64 (nl:Int)),(72,.int .i64 (i:Int)),(80,.slice (lL al (i+1) 3 d) (nl - (i+1)) (d - (i+1))),(81,.int .i64 ((nl - (i+1):Nat):Int)),(82,.int .i64 (q:Int))]) (F:=fun(q,V)=>[]) (I:=fun(q,V)=>(q≤nl - (i+1))∧(q=0→V=true)∧True) (μ:=fun(q,V)=>nl - (i+1) - q) (0,true) (fh) Sub.t (⟨by omega,fun _=>rfl,trivial⟩)<|?_;rintro⟨q,V⟩ v8 fO ⟨hq,hla,_⟩;simp only [CA,NA] at fO hq hla ⊢;refine(aP) (fun g83=>?_) fun g83=>?_
   ·
    simp at g83
    have CU:q<(l.drop (i+1)).length:=by rw [List.length_drop];omega
    refine cW ?_;obtain⟨oz,Ae,xN,hU,pc,iY,iX,jG⟩:=Rd.at (As.gr fO.g0) CU;have iY:=RR.bX iY;subst iY;have N:=fO.fg jG iX;refine nx ?_;refine WP .r (PV.dM Cu hU rfl rfl (by omega))<|(bj) xz (As.ll N.g0)<|(ft) N fun Nq xW Fm HS j9=>?_;refine(dh) EE j9 fun CK Tm Tn W=>?_;refine bP ?_;have B:=W;refine WC.jy (σ:=Bool) [] (fun Mu=>[(1,.slice al nl d),(2,.pointer (some ⟨b2,0,none⟩)),(4,.pointer (some ⟨b4,0,none⟩)),(10,.pointer (some ⟨Q,0,none⟩)),(11,.bool ch),(13,.pointer (some ⟨Nr,0,none⟩)),(14,.bool Mu),(70,.slice al nl d),(71,.int .i64 (nl:Int)),(72,.int .i64 (i:Int)),(80,.slice (lL al (i+1) 3 d) (nl - (i+1)) (d - (i+1))),(81,.int .i64 ((nl - (i+1):Nat):Int)),(82,.int .i64 (q:Int))]) (fun Mu=>[]) (fun Mu=>True) B ?_ ?_
    ·
     refine(cz) (fun Fv=>?_) (fun Fv=>?_)
     ·
      refine(jJ) ak B.b0<|(jJ) ak B.b3<|?_;refine WP .r (PV.FX ek (p:=(l.drop (i+1))[q].key) (q:=l[i].key) rfl rfl)<|ct ?_;exact n0 (_) ⟨B,trivial⟩
     refine jx ?_;exact n0 (_) ⟨B,trivial⟩
    rintro Mu Db D _;simp only [CA,NA] at D ⊢;refine fZ ?_;refine dX (q+1,_) ⟨D.drop.drop,⟨by omega,fun h=>absurd h (Nat.succ_ne_zero _),trivial⟩⟩
   skip
   refine eL ?_;refine WC.dA (t:=105) (v:=.bool (!V || decide ((bw x.ab l[i].key).value=l[i].value))) fO ?_<|?_
   ·
    have af7:=fO.bG;refine WC.cJ (m:=9) (E:=bS [(6,fun v _=>v=.string (bw x.ab l[i].key).value)]) fO (aU (⟨fun _ _ _ _ _ _ _ h=>h,trivial⟩)) mixed (by kernel_rfl)<|(lP) (fun MJ=>?_) (fun MJ=>?_)
    ·
     refine(cy) ?_;rintro xW ⟨Sm,N⟩ _;exact(bW) (tG MJ) (N)
    refine(fk) bz St.g6<|(tu) ak St.g1<|?_;refine DW.c0 (fun wx hC hF=>lC (x:=x) (k:=l[i].key) (As.gr hC.2.g8) (As.gr hC.2.g7))<|(gP) eV St.g1<|(cy)<|?_;rintro xW ⟨Sm,N⟩ ⟨_,_⟩;exact(bW) (tG MJ) (N)
   intro xW N;refine(aP) (fun MK=>?_) fun MK=>?_
   ·
    refine jx ?_;refine dX (i+1,ch,li,J,C,K,R) ⟨N.drop.drop.drop,⟨by omega,hG,by show li.length≤x.ab.length+(i+1);omega,TN,TO,BE,FT.skip G (fun e=>hla (by omega)) MK,trivial⟩⟩
   refine aN ?_;refine(bp) jD N.b3<|cW ?_;have j9:=N.fY RR.aC 102 4;refine WC.br (σ:=Nat × Bool × (List ca) × (Option Addr) × Nat × Nat) (cT:=fun(q,put,acc,g,b,j)=>[(1,.slice al nl d),(2,.pointer (some ⟨b2,0,none⟩)),(4,.pointer (some ⟨b4,0,none⟩)),(10,.pointer (some ⟨Q,0,none⟩)),(11,.bool true),(13,.pointer (some ⟨Nr,0,none⟩)),(17,.slice g b j),(18,.bool put),(70,.slice al nl d),(71,.int .i64 (nl:Int)),(72,.int .i64 (i:Int)),(107,.slice J C K),(108,.int .i64 (C:Int)),(109,.int .i64 (q:Int))]) (F:=fun(q,put,acc,g,b,j)=>[As.os RR.aC 102 4 g b j (acc)]) (I:=fun(q,put,acc,g,b,j)=>(q≤li.length)∧(acc++et (⟨l[i].key,l[i].value,x.ad+1⟩:ca) (li.drop q) put=et (⟨l[i].key,l[i].value,x.ad+1⟩:ca) li false)∧True) (μ:=fun(q,put,acc,g,b,j)=>li.length - q) (0,false,[],none,0,0) (j9) Sub.t (⟨by omega,rfl,trivial⟩)<|?_;rintro⟨q,put,acc,g,b,j⟩ CK W ⟨hq,S,_⟩;simp only [CA,NA] at W hq S ⊢;have Sn:=GJ S;have Zq:=((As.gs W.g0)).len;refine(aP) (fun lG=>?_) fun lG=>?_
   ·
    simp at lG
    have CU:q<li.length:=by omega
    have CI:=GI CU S
    dsimp only at CI
    refine cW ?_;obtain⟨CL,Y8,Q7,iC,IZ,pg,BD,FN⟩:=Rd.at (As.gr W.g5) CU;have pg:=RR.bX pg;subst pg;have B:=W.fg FN BD;refine nx ?_;refine WP .r (PV.dM pF iC rfl rfl (by omega))<|(bj) hI (As.ll B.g0)<|(ft) B fun b20 Db af8 af9 D=>?_;refine(dh) oZ D fun Fh WN WO X=>?_;refine(jJ) ak X.b0<|(jJ) ak X.b4<|(eZ) (jF (k:=li[q].key) (q:=l[i].key)) X fun HO s20 lH=>?_;refine cW ?_;have ku:=lH;refine WC.jy (σ:=Bool) [] (fun CT=>[(1,.slice al nl d),(2,.pointer (some ⟨b2,0,none⟩)),(4,.pointer (some ⟨b4,0,none⟩)),(10,.pointer (some ⟨Q,0,none⟩)),(11,.bool true),(13,.pointer (some ⟨Nr,0,none⟩)),(17,.slice g b j),(18,.bool put),(20,.pointer (some ⟨b20,0,none⟩)),(21,.int .i64 (bm li[q].key l[i].key)),(70,.slice al nl d),(71,.int .i64 (nl:Int)),(72,.int .i64 (i:Int)),(107,.slice J C K),(108,.int .i64 (C:Int)),(109,.int .i64 (q:Int)),(123,.bool CT)]) (fun CT=>[]) (fun CT=>(CT=(decide (0≤bm li[q].key l[i].key) && !put))∧True) ku ?_ ?_
    ·
     refine(cz) (fun AD=>?_) (fun AD=>?_)
     ·
      refine cB ?_;exact n0 (!put) ⟨ku,⟨by rw [decide_eq_true (show 0≤bm li[q].key l[i].key by simp at AD;omega)];rfl,trivial⟩⟩
     refine cB ?_;exact n0 (false) ⟨ku,⟨by rw [decide_eq_false (show ¬0≤bm li[q].key l[i].key by simp at AD;omega)];rfl,trivial⟩⟩
    rintro CT H5 nO ⟨ML,_⟩;simp only [CA,NA] at nO ML ⊢;refine nx ?_;have kx:=nO.p2;refine WC.jy (σ:=Bool × (List ca) × (Option Addr) × Nat × Nat) [_] (fun(Y,s,g,b,j)=>[(1,.slice al nl d),(2,.pointer (some ⟨b2,0,none⟩)),(4,.pointer (some ⟨b4,0,none⟩)),(10,.pointer (some ⟨Q,0,none⟩)),(11,.bool true),(13,.pointer (some ⟨Nr,0,none⟩)),(17,.slice g b j),(18,.bool Y),(20,.pointer (some ⟨b20,0,none⟩)),(21,.int .i64 (bm li[q].key l[i].key)),(70,.slice al nl d),(71,.int .i64 (nl:Int)),(72,.int .i64 (i:Int)),(107,.slice J C K),(108,.int .i64 (C:Int)),(109,.int .i64 (q:Int))]) (fun(Y,s,g,b,j)=>[As.os RR.aC 102 4 g b j (s)]) (fun(Y,s,g,b,j)=>(s++(if bm li[q].key l[i].key=0 then [] else [li[q]])++et (⟨l[i].key,l[i].value,x.ad+1⟩:ca) (li.drop (q+1)) Y=et (⟨l[i].key,l[i].value,x.ad+1⟩:ca) li false)∧True) kx ?_ ?_
    ·
     refine(aP) (fun Aq=>?_) fun Aq=>?_
     ·
      refine(jJ) ak kx.b4<|(bp) eV kx.b4<|(bp) aK (bN.range (As.gb kx.g6))<|?_;refine WP .r (PV.aY (us:=(⟨l[i].key,l[i].value,x.ad+1⟩:ca).cells) Bv rfl rfl rfl)<|?_;refine WL.go rfl (OX.aL (us:=(⟨l[i].key,l[i].value,x.ad+1⟩:ca).cells) zH rfl rfl rfl rfl fun aga I7 Sp Sq=>?_);have T:=kx.dD Sp Sq;refine WL.ap rfl rfl T.p1 (SR.cV (A:=fun _=>True) (x:=(⟨l[i].key,l[i].value,x.ad+1⟩:ca)) (As.gb T.g0) trivial rfl (by simp [ca.cells,Value.oneCell']) rfl) fun Zr Sr Mv ab6 ab7 mI=>?_;refine ct ?_;exact n0 (true,acc++[(⟨l[i].key,l[i].value,x.ad+1⟩:ca)],Zr,(b+1),Sr) ⟨mI.p1.drop,⟨by have h2:(decide (0≤bm li[q].key l[i].key) && !put)=true:=(by rw [← ML];simpa using Aq);have h3:(put || decide (0≤bm li[q].key l[i].key))=true:=(by revert h2;cases put <;> simp);rw [if_pos h2,h3] at CI;exact CI,trivial⟩⟩
     refine nx ?_;exact n0 (put,acc,g,b,j) ⟨kx,⟨by have h2:(decide (0≤bm li[q].key l[i].key) && !put)=false:=(by rw [← ML];simpa using Aq);have h3:(put || decide (0≤bm li[q].key l[i].key))=put:=(by revert h2;cases put <;> simp);rw [if_neg (by rw [h2];simp),h3,List.append_nil] at CI;exact CI,trivial⟩⟩
    rintro⟨Y,s,g,b,j⟩ I7 T ⟨uA,_⟩;simp only [CA,NA] at T uA ⊢
    have ab8:s.length≤li.length+1:=by have h1:=congrArg List.length uA;rw [List.length_append,List.length_append] at h1;have:=kP (⟨l[i].key,l[i].value,x.ad+1⟩:ca) li false;omega
    have ab9:=((As.gs T.g0)).len;refine(aP) (fun FU=>?_) fun FU=>?_
    ·
     simp at FU
     refine(bj) hI T.b1<|?_;refine WL.go rfl (OX.aL (us:=li[q].cells) zH rfl rfl rfl rfl fun agb Mv Ss Su=>?_);have mI:=T.dD Ss Su;refine WL.ap rfl rfl mI.p1 (SR.cV (A:=fun _=>True) (x:=li[q]) (As.gb mI.g0) trivial rfl (by simp [ca.cells,Value.oneCell']) rfl) fun a139 Sv Nw aca acb r5=>?_;refine jx ?_;refine dX (q+1,Y,s++[li[q]],a139,(b+1),Sv) ⟨r5.p1.drop.p1.drop.p1.drop,⟨by omega,by rw [← uA,if_neg FU],trivial⟩⟩
    simp at FU
    refine eL ?_;refine dX (q+1,Y,s,g,b,j) ⟨T.p1.drop.p1.drop,⟨by omega,by rw [← uA,if_pos FU,List.append_nil],trivial⟩⟩
   simp at lG
   rw [List.drop_eq_nil_of_le (by omega)] at S;refine aN ?_;have B:=W;refine WC.jy (σ:=(List ca) × (Option Addr) × Nat × Nat) [_] (fun(s,g,b,j)=>[(1,.slice al nl d),(2,.pointer (some ⟨b2,0,none⟩)),(4,.pointer (some ⟨b4,0,none⟩)),(10,.pointer (some ⟨Q,0,none⟩)),(11,.bool true),(17,.slice g b j),(70,.slice al nl d),(71,.int .i64 (nl:Int)),(72,.int .i64 (i:Int))]) (fun(s,g,b,j)=>[As.os RR.aC 102 4 g b j (s)]) (fun(s,g,b,j)=>(s=et (⟨l[i].key,l[i].value,x.ad+1⟩:ca) li false)∧True) B ?_ ?_
   ·
    refine(aP) (fun MM=>?_) fun MM=>?_
    ·
     refine(jJ) ak B.b2<|(bp) eV B.b2<|(bp) aK B.b4<|?_;refine WP .r (PV.aY (us:=(⟨l[i].key,l[i].value,x.ad+1⟩:ca).cells) Bv rfl rfl rfl)<|?_;refine WL.go rfl (OX.aL (us:=(⟨l[i].key,l[i].value,x.ad+1⟩:ca).cells) zH rfl rfl rfl rfl fun agc Db Sw Sx=>?_);have D:=B.dD Sw Sx;refine WL.ap rfl rfl D.p1 (SR.cV (A:=fun _=>True) (x:=(⟨l[i].key,l[i].value,x.ad+1⟩:ca)) (As.gb D.g0) trivial rfl (by simp [ca.cells,Value.oneCell']) rfl) fun a152 Sy Fh acd ace X=>?_;refine bP ?_;exact n0 (acc++[(⟨l[i].key,l[i].value,x.ad+1⟩:ca)],a152,(b+1),Sy) ⟨X.p1.drop,⟨by have hp:put=false:=(by simpa using MM);rw [hp] at S;exact S,trivial⟩⟩
    refine nx ?_;exact n0 (acc,g,b,j) ⟨B,⟨by have hp:put=true:=(by simpa using MM);rw [hp] at S;exact(List.append_nil acc).symm.trans S,trivial⟩⟩
   rintro⟨s,g,b,j⟩ Db D ⟨AE,_⟩;simp only [CA,NA] at D AE ⊢;refine nx ?_;have Sn:=kP (⟨l[i].key,l[i].value,x.ad+1⟩:ca) li false;have Zq:=((As.gs D.g0)).len;rw [← AE] at Sn;have MN:=St.fresh D;have X:=D.dZ (by omega);have Ft:=BE.trans (dV.nR (F:=fun x=>x∈bl g) MN) (Nat.le_refl _);have lH:=X.p5.drop;refine ct ?_;refine WL.s1 lH.p4 fun Fh _ ku=>?_;refine eL ?_;refine dX (i+1,true,s,g,b,j,_) ⟨ku.p2.drop.p2.drop.p2.drop,⟨by omega,by rw [AE];exact hG.put Ny (by omega),by show s.length≤x.ab.length+(i+1);rw [AE];have:=kP (⟨l[i].key,l[i].value,x.ad+1⟩:ca) li false;omega,fun k hk=>by rw [AE,od (hk _ (List.getElem_mem G))];exact TN k hk,by rw [AE];exact GV TO _ rfl,Ft,by rw [AE];exact FT.put G MK,trivial⟩⟩
  have Zp:=((As.gr z.g1)).len
  simp at RX
  refine aN ?_;refine(aP) (fun Zs=>?_) fun Zs=>?_
  ·
   refine(bj) bz z.b3<|(dh) jE z.p6 fun rJ ss7 hs7 o=>?_;refine fZ ?_;refine EX.uE rfl (RS.cell bz rfl o.b0 rfl<|RS.tmp rfl<|RS.nil) rfl<|?_;exact⟨x,_,_,_,_,_,_,_,_,rfl,rfl,Int.le_refl _,Dc,hx,h7a,by omega,.refl _ _,FT.same (by omega) (by simp_all),fun _=>rfl,(As.gr o.g6),(As.gr o.g5),BE,(St.wk o.k0)⟩
  refine(bp) jD z.b0<|(aP) (fun CW=>?_) fun CW=>?_
  ·
   refine(bj) bz z.b3<|(dh) jE z.p6 fun rJ ss8 hs8 o=>?_;refine fZ ?_;refine EX.uE rfl (RS.cell bz rfl o.b0 rfl<|RS.tmp rfl<|RS.nil) rfl<|?_;exact absurd CW (by have:=hG.len;simp;omega)
  refine(bp) aK z.b0<|(aP) (fun H9=>?_) fun H9=>?_
  ·
   refine(bj) bz z.b3<|(dh) jE z.p6 fun rJ ss9 RC o=>?_;refine fZ ?_;refine EX.uE rfl (RS.cell bz rfl o.b0 rfl<|RS.tmp rfl<|RS.nil) rfl<|?_;exact⟨x,_,_,_,_,_,_,_,_,rfl,rfl,Int.le_refl _,Dc,hx,h7a,by omega,.refl _ _,⟨fun c _ _ h=>by(simp at H9;omega),fun _=>.inl rfl⟩,fun h=>by(simp at H9;omega),(As.gr o.g6),(As.gr o.g5),BE,(St.wk o.k0)⟩
  refine(bj) bz z.b0<|(dh) jE z.p6 fun rJ agd age o=>?_;refine cB ?_;refine EX.uE rfl (RS.cell bz rfl o.b0 rfl<|RS.tmp rfl<|RS.nil) rfl<|?_;exact⟨⟨x.ad+1,li,x.ah⟩,_,_,_,_,_,_,_,_,rfl,rfl,by show x.ad≤x.ad+1;omega,by simp at H9;show x.ad+1≤_;omega,hG,by simp at CW;show li.length≤64;omega,Int.le_refl _,⟨TN,.inr ⟨rfl,TO⟩⟩,FT.done (by omega),fun _=>rfl,(As.gr o.g2),(As.gr o.g3),BE,(St.wk o.k0)⟩
 -- vl iW C49
set_option maxHeartbeats 400000
set_option maxHeartbeats 400000
set_option maxHeartbeats 400000
theorem St.shrink{w0:World}{Z':Nat→Prop}(h:St w0 M Z' w []) (b:∀x,Z x→Z' x):St w0 M Z w []:=⟨h.bR,fun x d=>h.hV x (b x d),by simp,by simp,.nil,by simp⟩
set_option maxHeartbeats 400000
set_option maxHeartbeats 400000
theorem pN(hl:Rd RR.key 2 A w a n c l) (s:l.Nodup):CR prog 159 #[.slice a n c] w (.slice a n c):=by
 have hle:=SR.le hl;have hlen:=SR.len hl;refine enter func159 rfl ntmps159 rfl<|?_;have aO:=St.s0 w;refine aN ?_;refine(aP) (fun g8=>?_) fun g8=>?_
 ·
  skip
  refine(bF) ?_;exact⟨rfl,(St.cg aO)⟩
 simp at g8
 refine px ?_;refine WC.br (σ:=Nat) (cT:=fun i=>[(0,.slice a n c),(3,.int .i64 (i:Int))]) (F:=fun i=>[]) (I:=fun i=>(1≤i)∧(i≤n)∧True) (μ:=fun i=>n - i) (1) (aO) Sub.t (⟨Nat.le_refl _,by omega,trivial⟩)<|?_;rintro i w1 st1 ⟨hi,eS,_⟩;simp only [CA,NA] at st1 hi eS ⊢;refine(aP) (fun g13=>?_) fun g13=>?_
 ·
  simp at g13
  have h:i<l.length:=by omega
  have j:i - 1<l.length:=by omega
  obtain⟨C,D,E,u,_,d,v,_⟩:=Rd.at hl h;have d:=RR.bX d;subst d;obtain⟨G,H,J,y,_,g,z,_⟩:=Rd.at hl j;have g:=RR.bX g;subst g
  have B:l[i]≠l[i - 1]:=fun e=>by
   exact List.pairwise_iff_getElem.1 s (i - 1) i j h (by omega) e.symm
  refine cW ?_;have K:=st1.bG;refine WC.dS (m:=9) st1 mixed<|bP ?_;refine DP .r (fun _ b=>PV.dM dL (i:=i) u rfl rfl (by omega))<|DP .r (fun _ b=>VA ak (aR v (St.cg b.2) (by simp)) .r)<|bP ?_;refine DP .r (fun _ b=>(PV.sub rfl rfl (by omega) (by omega)).cast (v':=.int .i64 ((i - 1:Nat):Int)) (congrArg (Value.int .i64) (by omega)))<|DP .r (fun _ b=>PV.dM dL (i:=i - 1) y rfl rfl (by omega))<|DP .r (fun _ b=>VA ak (aR z (St.cg b.2) (by simp)) .r)<|(cy)<|?_;rintro w2 ⟨L,st2⟩ _;refine WP .r (PV.yR ek (p:=l[i]) (q:=l[i - 1]) rfl rfl)<|(aP) (fun o=>?_) fun o=>?_
  ·
   exact absurd o (by simpa using B)
  skip
  refine jx ?_;refine dX (i+1) ⟨st2,⟨by omega,by omega,trivial⟩⟩
 simp at g13
 refine(bF) ?_;exact⟨rfl,(St.cg st1)⟩
theorem sa(p:St w M Z w []) (hl:Rd RR.key 2 Z w a n c l) (h0:l≠[]) (g:l.Nodup) (hn:l.length≤1000000):Calls prog 130 #[.slice a n c] w fun e w'=>∃h i j,∃l':List Key,e=.returned (.slice h i j)∧JV l'∧l'.Perm l∧St w M Z w' [As.os RR.key 39 2 h i j l']:=by
 refine enter func130 rfl ntmps130 rfl<|?_;have aO:=p;have st1:=aO.fr hl;refine jx ?_;have st2:=st1;refine(cA) II (l8 st2.e0 (As.gr st2.g0) hn) ?_;rintro _ w1 ⟨b1,b2,c1,rfl,q⟩;have s:=St.lr st2 q;refine fZ ?_;have m:=s;refine(cA) Qj (yq m.e1 h0 hn) ?_;rintro _ w2 ⟨rfl,d,b,t,u⟩;have o:=St.lr m u;have B:d.length=l.length:=b.length_eq;have v:d.Nodup:=b.nodup_iff.2 g;have y:=GM b g t;refine(eZ) (pN (Ow.rd (As.gs o.g0) (by omega)) v) o fun w3 C z=>?_;refine(bF) ?_;exact⟨b1,_,c1,d,rfl,y,b,z.p1.drop⟩
theorem tb{aa:List az}(gR:n≤99):CR prog 86 #[.slice a r c,(bB (n:Int)).val] w (.bool true):=by
 have b:bB (n:Int)=⟨30,itoa n⟩:=by unfold bB;rw [if_neg (by omega)]
 have d:(bB (n:Int)).kind=30:=by rw [b]
 have e:(bB (n:Int)).text=itoa n:=by rw [b]
 refine enter func86 rfl ntmps86 rfl<|?_;have aO:=St.s0 w;refine(dr) aO fun b3 w1 o p st1=>?_;refine cB ?_;have q:=st1.bG;refine WC.cJ (m:=12) (E:=bS [(1,fun v _=>v=.bool true),(4,fun v _=>v=.bool false)]) st1 (aU (⟨fun _ _ _ _ _ _ _ h=>h,⟨fun _ _ _ _ _ _ _ h=>h,trivial⟩⟩)) mixed (by kernel_rfl)<|(fk) ak St.g0<|?_;refine DW.c0 (fun g i j=>fD (k:=bB (n:Int)) (by omega) e gR)<|(fk) ak St.g0<|?_;refine DW.c1 (u:=.bool false) (fun g i j=>kZ (k:=bB (n:Int))) (by rw [show(decide ((bB (n:Int)).kind=31) || decide ((bB (n:Int)).kind=32))=false by(rw [d];simp)])<|(cy) ?_;rintro w2 ⟨s,st2⟩ ⟨_,⟨_,_⟩⟩;refine(bF) ?_;exact⟨by simp,(St.cg st2)⟩
theorem sV{B:Nat→Prop}(hk:eU aa k) (hr:ee B w a r c aa):CR prog 86 #[.slice a r c,k.val] w (.bool true):=by
 cases hk with
 | cell h=>exact tb (aa:=aa) h
 | fl hi h=>exact sK hi h hr
end Go.Rc

