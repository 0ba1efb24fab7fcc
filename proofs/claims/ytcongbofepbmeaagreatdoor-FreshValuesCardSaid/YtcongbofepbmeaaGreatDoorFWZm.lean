/- Walks over the program, part WZm. Conditions: as each theorem says. -/
import Derived.Test.YtcongbofepbmeaaGreatDoorFFacts
import Derived.Test.YtcongbofepbmeaaGreatDoorFWYs
import Derived.Test.YtcongbofepbmeaaGreatDoorFWYt
import Derived.Test.YtcongbofepbmeaaGreatDoorFBh
import Derived.Test.YtcongbofepbmeaaGreatDoorFWZl
import Derived.Test.YtcongbofepbmeaaGreatDoorFBg
set_option linter.all false
namespace Go.Rc
open Go Go.Proofs Go.Proofs.Tryz
variable {aa:List aA}{x:cA}{k:Key}{ar a1 a2 a:Option Addr}{r cr n1 e1 n2 e2 c:Nat}{w:World}{M Z A B:Nat→Prop}
set_option maxHeartbeats 400000
theorem vd(p:St w M Z w []) (ht:gV prog Z w) (hn:cZ k) (hu:Rd RR.dp 4 Z w ar r cr aa) (hi:Rd RR.az 4 Z w a1 n1 e1 x.ad) (hr:Rd RR.ed 8 Z w a2 n2 e2 x.ah):Calls prog 13 #[.slice ar r cr,.agg (x.row a1 n1 e1 a2 n2 e2).toArray,k.val] w fun e w'=>e=.returned (.tuple #[.string (Kp aa x k),.int .i64 (dt aa x k)])∧St w M Z w' []:=by
 refine enter func13 rfl ntmps13 rfl<|?_;have aR:=p;have st1:=aR.fr hu;have st2:=st1.fr hi;have q:=st2.fr hr;have s:=q.fact (B:=As.fz (FZ.zV prog)) ht (fun _ t=>t);refine(dE) s fun b4 w1 E F u=>?_;refine(dE) u fun b5 w2 G H b=>?_;refine(aT) aJ b.b1<|(aT) ak b.b0<|(dH) (j3 (As.gr b.g5) (As.gr b.g4) (As.gr b.g3)) b fun w3 s3 f=>?_;refine(aN) (fun g14=>?_) fun g14=>?_
 ·
  have hc:dt aa x k≠0:=by simpa using g14
  refine(qX) ?_;exact⟨by rw [Ay hc],f.k0⟩
 have hc:dt aa x k=0:=by simpa using g14
 obtain⟨g,v,y⟩:=fR hc;have hk:=gO y hn;have I:=iw g v;refine cL ?_;refine WC.bY (m:=5) [] [2,4] [0,1,2,3,4] [] f (ao.k4 M0 M1 M2 M3<|ao.cons M4<|ao.cons M5<|ao.nil) mixed (by kernel_rfl) (by kernel_rfl) rfl<|(kh) aJ SV.g1<|(gi) (fun w4 J K h L=>?_);simp only [CA,NA] at h;have i:=h;refine OX.call Ic rfl rfl ((jW (x:=x) i.e0).mono ?_);rintro _ w5 ⟨d1,d2,d3,rfl,j⟩;have z:=St.lr i j;refine⟨_,rfl,j.bT.size,_,rfl,_,_,_,z,aw.k4<|aw.k4<|aw.cons<|aw.nil,ao.k4 M3 M4 M5 M6<|ao.cons M7<|ao.cons M8<|ao.nil,?_⟩;refine(kh) ak SV.g0<|(gi) (fun w6 N O l P=>?_);simp only [CA,NA] at l;have d:=l.p1.p1;refine OX.call Gc rfl rfl ((qy (x:=x) (D:=⟨ar,a1,a2,r,cr,n1,e1,n2,e2,d2,d3,d1⟩) g hk _ _ _ [] d.e2 ⟨(As.gr d.g8),(As.gr d.g7),(As.gr d.g6),(As.gf d.g5)⟩ aY.nil).mono ?_);rintro _ w7 ⟨eH,rfl,Q,R,n⟩;have C:=St.lr d n;refine⟨_,rfl,n.bT.size,_,rfl,_,_,_,C,aw.k4<|aw.k4<|aw.cons<|aw.nil,ao.k4 M3 M4 M5 M6<|ao.cons M7<|ao.cons M8<|ao.nil,?_⟩;refine(kZ) ?_;intro S T o;simp only [CM,NM,CA,NA,iL.it] at o;refine bz ?_;refine WL.nil (EX.np ?_);refine(qX) ?_;exact⟨by rw [ED hc,hc],o.k0⟩
theorem vf(o:St w M Z w []) (ht:gV prog Z w) (hn:cZ k) (hu:Rd RR.dp 4 Z w ar r cr aa) (hi:Rd RR.az 4 Z w a1 n1 e1 x.ad) (hr:Rd RR.ed 8 Z w a2 n2 e2 x.ah):Calls prog 15 #[.slice ar r cr,.agg (x.row a1 n1 e1 a2 n2 e2).toArray,k.val] w fun e w'=>∃(a:Option Addr) (n c:Nat),e=.returned (.tuple #[.slice a n c,.int .i64 (dt aa x k)])∧St w M Z w' [As.os RR.key 29 2 a n c (lK aa x k)]:=by
 refine enter func15 rfl ntmps15 rfl<|?_;have aR:=o;have st1:=aR.fr hu;have st2:=st1.fr hi;have p:=st2.fr hr;have q:=p.fact (B:=As.fz (FZ.zV prog)) ht (fun _ s=>s);refine(dE) q fun b4 w1 G H t=>?_;refine(dE) t fun b5 w2 I J b=>?_;refine(aT) aJ b.b1<|(aT) ak b.b0<|(dH) (j3 (As.gr b.g5) (As.gr b.g4) (As.gr b.g3)) b fun w3 s3 h=>?_;refine(aN) (fun g14=>?_) fun g14=>?_
 ·
  have hc:dt aa x k≠0:=by simpa using g14
  refine kQ ?_;have f:=h.df RR.key 29 2;have g:=f.sY (B:=As.os RR.key 29 2 none 0 0 (lK aa x k)) (by rw [oD hc]);refine(qX) ?_;exact⟨none,0,0,rfl,g.k1⟩
 have hc:dt aa x k=0:=by simpa using g14
 obtain⟨i,u,v⟩:=fR hc;have hk:=gO v hn;have K:=iw i u;refine cL ?_;refine WC.bY (m:=4) [] [2] [0,1,2,3] [] h (ao.k4 M0 M1 M2 M3<|ao.cons M4<|ao.cons M5<|ao.nil) mixed (by kernel_rfl) (by kernel_rfl) rfl<|(kh) aJ SV.g1<|(gi) (fun w4 L N f O=>?_);simp only [CA,NA] at f;have g:=f;refine OX.call Ic rfl rfl ((jW (x:=x) g.e0).mono ?_);rintro _ w5 ⟨d1,d2,d3,rfl,j⟩;have y:=St.lr g j;refine⟨_,rfl,j.bT.size,_,rfl,_,_,_,y,aw.k4<|aw.k4<|aw.cons<|aw.nil,ao.k4 M3 M4 M5 M6<|ao.cons M7<|ao.cons M8<|ao.nil,?_⟩;refine(kh) ak SV.g0<|(kZ)<|?_;intro w6 P l;simp only [CM,NM,CA,NA,iL.it] at l;have d:=l.p2.p2.p2;refine(bL) Tj (od (x:=x) (D:=⟨ar,a1,a2,r,cr,n1,e1,n2,e2,d2,d3,d1⟩) (ml:=[]) (ql:=[]) d.e3 ⟨(As.gr d.g8),(As.gr d.g7),(As.gr d.g6),(As.gf d.g5)⟩ aY.nil i hk rfl) ?_;rintro _ w7 ⟨ra,z,rc,eH,Q,rfl,R,S,C⟩;have E:=St.lr d C;refine bz ?_;refine WL.nil (EX.np ?_);refine bz ?_;have F:=E.p3.sY (B:=As.os RR.key 29 2 ra z rc (lK aa x k)) (by rw [qh hc]);refine(qX) ?_;exact⟨_,_,_,by rw [hc],F.k1⟩
set_option maxHeartbeats 1600000 in
theorem vh(gg:St w M Z w []) (ht:gV prog Z w) (hn:cZ k) (hu:Rd RR.dp 4 Z w ar r cr aa) (hi:Rd RR.az 4 Z w a1 n1 e1 x.ad) (hr:Rd RR.ed 8 Z w a2 n2 e2 x.ah):Calls prog 17 #[.slice ar r cr,.agg (x.row a1 n1 e1 a2 n2 e2).toArray,k.val] w fun e w'=>∃(ra:Option Addr) (v rc:Nat) (L:List Key) (Z':Nat→Prop),e=.returned (.tuple #[.slice ra v rc,.int .i64 (dt aa x k)])∧lL aa x k L∧bA w.heap.size Z Z'∧St w M Z' w' [As.os RR.key 29 2 ra v rc L]:=by
 refine enter func17 rfl ntmps17 rfl<|?_;have aR:=St.rb gg;have st1:=aR.fr hu;have st2:=st1.fr hi;have j5:=st2.fr hr;have i6:=j5.fact (B:=As.fz (FZ.zV prog)) ht (fun _ hx=>hx);refine(dE) i6 fun b4 w1 AX E4 jD=>?_;refine(dE) jD fun b5 w2 EV EW E=>?_;refine(aT) aJ E.b1<|(aT) ak E.b0<|(dH) (j3 (As.gr E.g5) (As.gr E.g4) (As.gr E.g3)) E fun w3 s3 W=>?_;refine(aN) (fun g20=>?_) fun g20=>?_
 ·
  have hc:dt aa x k≠0:=by simpa using g20
  refine kQ ?_;have P:=W.df RR.key 29 2;refine(qX) ?_;exact⟨none,0,0,[],_,rfl,lL.err hc,bA.refl _ _,(St.wk P.k1)⟩
 have hc:dt aa x k=0:=by simpa using g20
 obtain⟨G,hB,MF⟩:=fR hc;have hk:=gO MF hn;have hS:=iw G hB;refine(aT) aJ W.b1<|?_;have P:=W;refine(bL) Ic (jW (x:=x) P.e0) ?_;rintro _ w4 ⟨d1,d2,d3,rfl,mj⟩;have jc:=St.lr P mj;refine cX ?_;refine WC.bY (m:=7) [] [2,4] [2,3,4,0,1,5,6] [(1,.sl 29 1 k.cells)] jc (ao.k4 M0 M1 M2 M3<|ao.k4 M4 M5 M6 M7<|ao.cons M8<|ao.nil) mixed (by kernel_rfl) (by kernel_rfl) rfl<|(gi) (fun w5 Qj DU ef uZ=>?_);simp only [CA,NA] at ef;refine OX.makeMap Key.val rfl fun H w6 Wv adV=>?_;have dw:=ef.JT Wv adV;refine⟨Wv.ext.size,_,rfl,_,_,_,dw,aw.k4<|aw.k4<|aw.k2<|aw.nil,ao.k4 M1 M2 M3 M4<|ao.k4 M5 M6 M7 M8<|ao.cons M9<|ao.nil,?_⟩;refine(kh) ak SV.g3<|?_;refine DG.cs rfl rfl rfl rfl rfl (fun w7 LG yH X l7=>?_);simp only [CA,NA] at X;refine OX.ins ec gA (As.gm X.g0) rfl rfl rfl fun w8 ko uJ=>?_;have db:=X.jn ko uJ;refine⟨ko.size,rfl,_,_,_,db,aw.k4<|aw.k4<|aw.k2<|aw.nil,ao.k4 M1 M2 M3 M4<|ao.k4 M5 M6 M7 M8<|ao.cons M9<|ao.nil,?_⟩;refine(kh) ak SV.g3<|?_;refine DG.side (s:=.sl 29 1 k.cells) rfl rfl rfl rfl rfl rfl (fun wx Zx Rx uS Y=>OX.aP (us:=k.cells) dU rfl rfl rfl rfl fun b wy N hb=>⟨N.ext.size,_,rfl,⟨b,rfl⟩,Y.dy N hb⟩)<|?_;rintro _ ⟨Q,rfl⟩
 iterate 2 refine DG.a ?_
 refine(kZ) ?_;intro w9 DV cF;simp only [CM,NM,CA,NA,iL.it] at cF;refine nx ?_;refine WL.nil (EX.np ?_);have fV:=cF.p1.sY (B:=As.map Key.val H (iP [k])) (rfl);have fJ:=fV.p1;have dW:=fJ.conv (B:=As.os RR.key 29 2 (some ⟨Q,0,none⟩) 1 1 [k]) (OR.dn (As.gb fJ.g0) (Nat.zero_le _) rfl (by simp [Key.cells,Value.oneCell']) rfl) (fun x h=>by show x=Q;change x∈aG (some ⟨Q,0,none⟩) at h;simpa [aG] using h);refine iC ?_;refine WC.bd (σ:=Nat × (List Key) × (List (Key × Value)) × (List (Key × Value)) × (Option Addr) × Nat × Nat) (dm:=fun(i,l,ml,ql,d,f,g)=>[(9,.pointer (some ⟨d1,0,none⟩)),(10,.slice d f g),(11,.map (some H)),(12,.int .i64 (i:Int))]) (F:=fun(i,l,ml,ql,d,f,g)=>[As.os RR.key 29 2 d f g (l),As.map Key.val H (iP l),As.map Key.val d2 ml,As.map Key.val d3 ql]) (I:=fun(i,l,ml,ql,d,f,g)=>(sB aa x.ad k l i 0)∧(aY aa x.ad ml)∧(∀y,bq ql y≠none→∃j:Nat,j<i∧l[j]?=some y)∧True) (μ:=fun(i,l,ml,ql,d,f,g)=>200 - i) (0,[k],[],[],(some ⟨Q,0,none⟩),1,1) (dW.p4.p4.p3.p3) Sub.t (⟨sB.start hk,aY.nil,fun y h=>absurd rfl h,trivial⟩)<|?_;rintro⟨i,l,ml,ql,d,f,g⟩ jB C ⟨hb,hm,RB,_⟩;simp only [CA,NA] at C hb hm RB ⊢;have hln:=((As.gs C.g0)).len;have Np:=hb.len G;refine(aN) (fun PY=>?_) fun PY=>?_
 ·
  simp at PY
  have R:i<l.length:=by omega
  have J2:=hb.tm l[i] (List.getElem_mem R);have GY:=lI (az:=x.ad) G J2
  have Uw:bq ql l[i]=none:=Classical.byContradiction fun h=>by
   obtain⟨j,h1,J⟩:=RB _ h;have h3:=(List.getElem?_eq_some_iff.1 J);obtain⟨h4,h5⟩:=h3;exact absurd ((List.getElem_inj hb.j6).1 h5) (by omega)
  refine cS ?_;obtain⟨ia,ck⟩:=Ow.addr (As.gs C.g0) (ai R);refine cX ?_;refine WP .r (PV.ei eI ck rfl rfl (by omega))<|(aT) ak (Ow.mb (As.gs C.g0) (by omega) ck (ai R))<|?_;have o:=C.p3.p3.p4;refine(bL) Tj (od (x:=x) (D:=⟨ar,a1,a2,r,cr,n1,e1,n2,e2,d2,d3,d1⟩) o.e3 ⟨(As.gr o.g10),(As.gr o.g9),(As.gr o.g8),(As.gf o.g7)⟩ hm G J2 Uw) ?_;rintro _ iV ⟨ra,v,rc,eH,ql2,rfl,vI,Ql,mX⟩;have K:=St.lr o mX;have Lx:=((As.gs K.g3)).len;refine cS ?_;refine WC.bd (σ:=Nat × (List Key) × (Option Addr) × Nat × Nat) (dm:=fun(q,n,d,f,g)=>[(9,.pointer (some ⟨d1,0,none⟩)),(10,.slice d f g),(11,.map (some H)),(12,.int .i64 (i:Int)),(41,.slice ra v rc),(42,.int .i64 (v:Int)),(43,.int .i64 (q:Int))]) (F:=fun(q,n,d,f,g)=>[As.os RR.key 29 2 d f g (n),As.map Key.val H (iP n)]) (I:=fun(q,n,d,f,g)=>(q≤v)∧(sB aa x.ad k n i q)∧(n[i]?=some l[i])∧(∀y,bq ql y≠none→∃j:Nat,j<i∧n[j]?=some y)∧True) (μ:=fun(q,n,d,f,g)=>v - q) (0,l,d,f,g) (K.p5.p5) Sub.t (⟨Nat.zero_le _,hb,ai R,RB,trivial⟩)<|?_;rintro⟨q,n,d,f,g⟩ mu p ⟨hq,O,u,S,_⟩;simp only [CA,NA] at p hq O u S ⊢;have Wr:=((As.gs p.g0)).len;have Jh:=O.len G;refine(aN) (fun g44=>?_) fun g44=>?_
  ·
   simp at g44
   obtain⟨y,hy⟩:∃y,(dq aa x.ad l[i])[q]?=some y:=⟨_,List.getElem?_eq_getElem (show q<(dq aa x.ad l[i]).length by omega)⟩;refine cS ?_;obtain⟨nL,fU⟩:=Ow.addr (As.gs p.g5) hy;refine nx ?_;refine WP .r (PV.ei eI fU rfl rfl (by omega))<|(aT) ak (Ow.mb (As.gs p.g5) (by omega) fU hy)<|(ff) p fun b14 oL Lq GF dK=>?_;refine(cD) gR dK fun uL r8 mr T=>?_;refine(aT) ak T.b0<|?_;refine WP .r (PV.oY ec gA yo (As.gm T.g2) (tM n y) rfl rfl)<|(aN) (fun I4=>?_) fun I4=>?_
   ·
    have U:y∉n:=by simpa using I4
    refine WC.bY (m:=7) [] [5] [2,3,4,5,0,1,6] [(4,.sl 29 1 y.cells)] T (ao.k4 M0 M2 M3 M4<|ao.k4 M5 M6 M7 M8<|ao.k4 M9 iZ jj nh<|ao.nil) mixed (by kernel_rfl) (by kernel_rfl) rfl<|(kh) ak SV.g0<|?_;refine DG.side (s:=.sl 29 1 y.cells) rfl rfl rfl rfl rfl rfl (fun wx Zx Rx uS Y=>OX.aP (us:=y.cells) dU rfl rfl rfl rfl fun b wy N hb=>⟨N.ext.size,_,rfl,⟨b,rfl⟩,Y.dy N hb⟩)<|?_;rintro _ ⟨Ws,rfl⟩;refine(gi) (fun pB LI yM V l8=>?_);simp only [CA,NA] at V;refine OX.j7 mP rfl rfl rfl (As.gs V.g1) (SR.dn (A:=fun _=>True) (x:=y) (show cC _ Ws _ _ from V.ok _ (.tail _ (.tail _ (.tail _ (.tail _ (.tail _ (.tail _ (.tail _ (.tail _ (.tail _ (.tail _ (.tail _ (.tail _ (.tail _ (l8 _ (.head _)))))))))))))))) trivial rfl (by simp [Key.cells,Value.oneCell']) rfl) (by omega) (by omega) (Nat.zero_le _) fun Wt Ji sD Jj Nq Jk Wu=>?_;have fA:=V.p1.fO Nq Jj Jk;refine⟨Nq.size,_,rfl,_,_,_,fA,aw.k4<|aw.k4<|aw.k4<|aw.cons<|aw.nil,ao.k4 M1 M2 M3 M4<|ao.k4 M5 M6 M7 M8<|ao.k4 M9 iZ jj nh<|ao.nil,?_⟩;refine(kh) ak SV.g0<|(kZ) ?_;intro Bp xC fZ;simp only [CM,NM,CA,NA,iL.it] at fZ;refine WL.go rfl (OX.put ec gA (As.gm fZ.g3) rfl rfl rfl fun y8 qz qA=>?_);have eE:=fZ.p3.jn qz qA;refine WL.nil (EX.np ?_);have fc:=eE.sY (B:=As.map Key.val H (iP (n++[y]))) (by rw [tN _ U]);refine gw ?_;refine dY (q+1,n++[y],Wt,(f+1),Ji) ⟨fc.p1.drop.p2.drop.p1,⟨by omega,O.add G u hy U,by rw [List.getElem?_append_left (List.getElem?_eq_some_iff.1 u).1];exact u,fun z hz=>by obtain⟨j,h1,J⟩:=S z hz;exact⟨j,h1,by rw [List.getElem?_append_left (List.getElem?_eq_some_iff.1 J).1];exact J⟩,trivial⟩⟩
   have U:y∈n:=by simpa using I4
   refine eP ?_;refine dY (q+1,n,d,f,g) ⟨T.drop,⟨by omega,O.has u hy U,u,S,trivial⟩⟩
  simp at g44
  refine o5 ?_
  refine dY (i+1,n,eH,ql2,d,f,g) ⟨p.p5.drop.p4.p4.p3.p3,⟨O.next u (by omega),vI,fun y hy=>by
   rcases Ql y hy with e | h
   ·
    exact⟨i,by show i<i+1;omega,by rw [e];exact u⟩
   obtain⟨j,h1,J⟩:=S y h;exact⟨j,by show j<i+1;omega,J⟩,trivial⟩⟩
 simp at PY
 refine gw ?_;have vu:=St.fresh C;have o:=C.a8 (by omega);refine bz ?_;have K:=o;refine(bL) O8 (lS K.e0 (As.gr K.g0) (fun _ h _=>h) (by omega)) ?_;rintro _ iV ⟨o1,o2,o3,rfl,mX⟩;have p:=St.lr K mX;refine(qX) ?_;exact⟨o1,o2,o3,jh l,_,by rw [hc],lL.ok hc (Aq l) fun y=>(nB _ _).trans (hb.done (by omega) y),bA.dx (F:=fun x=>x∈aG d) vu,(St.wk p.k1)⟩
theorem u9(q:St w M Z w []) (ht:gV prog Z w) (hn:cZ k) (hu:Rd RR.dp 4 Z w ar r cr aa) (hi:Rd RR.az 4 Z w a1 n1 e1 x.ad) (hr:Rd RR.ed 8 Z w a2 n2 e2 x.ah) (s:Jq x) (t:k.text.size≤140737488355328):Calls prog 12 #[.slice ar r cr,.agg (x.row a1 n1 e1 a2 n2 e2).toArray,k.val] w fun e w'=>e=.returned (.tuple #[.string (Kp aa x k),.int .i64 (dt aa x k)])∧St w M Z w' []:=by
 refine enter func12 rfl ntmps12 rfl<|?_;have aR:=q;have st1:=aR.fr hu;have st2:=st1.fr hi;have u:=st2.fr hr;have v:=u.fact (B:=As.fz (FZ.zV prog)) ht (fun _ f=>f);refine(dE) v fun b4 w1 K L y=>?_;refine(dE) y fun b5 w2 N O b=>?_;refine(aT) aJ b.b1<|(aT) ak b.b0<|(dH) (j0 (As.gf b.g2) (As.gr b.g5) (As.gr b.g4) (As.gr b.g3) s t) b fun w3 s3 l=>?_;refine(aN) (fun g14=>?_) fun g14=>?_
 ·
  have hc:dt aa x k≠0:=by simpa using g14
  refine(qX) ?_;exact⟨by rw [Ay hc],l.k0⟩
 have hc:dt aa x k=0:=by simpa using g14
 obtain⟨n,z,C⟩:=fR hc;have hk:=gO C hn;have E:=iw n z;refine cL ?_;refine WC.bY (m:=4) [] [2] [0,1,2,3] [] l (ao.k4 M0 M1 M2 M3<|ao.cons M4<|ao.cons M5<|ao.nil) mixed (by kernel_rfl) (by kernel_rfl) rfl<|(kh) aJ SV.g1<|(gi) (fun w4 P Q o R=>?_);simp only [CA,NA] at o;have g:=o;refine OX.call Ib rfl rfl ((iY (x:=x) g.e0).mono ?_);rintro _ w5 ⟨d1,d2,d3,rfl,i⟩;have G:=St.lr g i;have S:=St.bB i;have T:=g.size;have d:=G;have H:=d.freeze (B:=As.fz (SD.FV (⟨ar,a1,a2,r,cr,n1,e1,n2,e2,d2,d3,d1⟩:SD) prog aa x)) ⟨(SD.F (⟨ar,a1,a2,r,cr,n1,e1,n2,e2,d2,d3,d1⟩:SD) prog aa x).mono (fun _ h=>.inl h) ⟨(As.gr d.g8),(As.gr d.g7),(As.gr d.g6),(As.gf d.g5)⟩,.inr rfl,((As.gb d.g0)).lt,cC.range (As.gb d.g0)⟩ (fun _ f=>f);refine⟨_,rfl,i.bT.size,_,rfl,_,_,_,H,aw.k4<|aw.k4<|aw.cons<|aw.nil,ao.k4 M3 M4 M5 M6<|ao.cons M7<|ao.cons M8<|ao.nil,?_⟩;refine(kh) ak SV.g0<|(kZ)<|?_;intro w6 U p;simp only [CM,NM,CA,NA,iL.it] at p;have j:=p.p2.p2;refine(bL) K6 (DX (D:=(⟨ar,a1,a2,r,cr,n1,e1,n2,e2,d2,d3,d1⟩:SD)) n E hk _ _ _ _ _ j.e2 (As.gf j.g2) aY.nil (fun _=>kD.nil _)) ?_;rintro _ w7 ⟨eH,rfl,_,_,I⟩;have J:=St.lr j I;refine bz ?_;refine WL.nil (EX.np ?_);refine(qX) ?_;exact⟨by rw [ED hc,hc],(J.k0).shrink fun _ h=>.inl h⟩
theorem ve(s:St w M Z w []) (ht:gV prog Z w) (hn:cZ k) (hu:Rd RR.dp 4 Z w ar r cr aa) (hi:Rd RR.az 4 Z w a1 n1 e1 x.ad) (hr:Rd RR.ed 8 Z w a2 n2 e2 x.ah) (t:Jq x) (u:k.text.size≤140737488355328):Calls prog 14 #[.slice ar r cr,.agg (x.row a1 n1 e1 a2 n2 e2).toArray,k.val] w fun e w'=>∃(ra:Option Addr) (f rc:Nat) (Z':Nat→Prop),e=.returned (.tuple #[.slice ra f rc,.int .i64 (dt aa x k)])∧bA w.heap.size Z Z'∧St w M Z' w' [As.os RR.key 29 2 ra f rc (lK aa x k)]:=by
 refine enter func14 rfl ntmps14 rfl<|?_;have aR:=s;have st1:=aR.fr hu;have st2:=st1.fr hi;have v:=st2.fr hr;have y:=v.fact (B:=As.fz (FZ.zV prog)) ht (fun _ j=>j);refine(dE) y fun b4 w1 O P z=>?_;refine(dE) z fun b5 w2 Q R b=>?_;refine(aT) aJ b.b1<|(aT) ak b.b0<|(dH) (j0 (As.gf b.g2) (As.gr b.g5) (As.gr b.g4) (As.gr b.g3) t u) b fun w3 s3 o=>?_;refine(aN) (fun g14=>?_) fun g14=>?_
 ·
  have hc:dt aa x k≠0:=by simpa using g14
  refine kQ ?_;have i:=o.df RR.key 29 2;have g:=i.sY (B:=As.os RR.key 29 2 none 0 0 (lK aa x k)) (by rw [oD hc]);refine(qX) ?_;exact⟨none,0,0,_,rfl,bA.refl _ _,g.k1⟩
 have hc:dt aa x k=0:=by simpa using g14
 obtain⟨p,C,D⟩:=fR hc;have hk:=gO D hn;have E:=iw p C;refine cL ?_;refine WC.bY (m:=4) [] [2] [0,1,2,3] [] o (ao.k4 M0 M1 M2 M3<|ao.cons M4<|ao.cons M5<|ao.nil) mixed (by kernel_rfl) (by kernel_rfl) rfl<|(kh) aJ SV.g1<|(gi) (fun w4 T U i V=>?_);simp only [CA,NA] at i;have g:=i;refine OX.call Ib rfl rfl ((iY (x:=x) g.e0).mono ?_);rintro _ w5 ⟨d1,d2,d3,rfl,l⟩;have G:=St.lr g l;have H:=St.bB l;have I:=g.size;have d:=G;have J:=d.freeze (B:=As.fz (SD.FV (⟨ar,a1,a2,r,cr,n1,e1,n2,e2,d2,d3,d1⟩:SD) prog aa x)) ⟨(SD.F (⟨ar,a1,a2,r,cr,n1,e1,n2,e2,d2,d3,d1⟩:SD) prog aa x).mono (fun _ h=>.inl h) ⟨(As.gr d.g8),(As.gr d.g7),(As.gr d.g6),(As.gf d.g5)⟩,.inr rfl,((As.gb d.g0)).lt,cC.range (As.gb d.g0)⟩ (fun _ j=>j);refine⟨_,rfl,l.bT.size,_,rfl,_,_,_,J,aw.k4<|aw.k4<|aw.cons<|aw.nil,ao.k4 M3 M4 M5 M6<|ao.cons M7<|ao.cons M8<|ao.nil,?_⟩;refine(kh) ak SV.g0<|(kZ)<|?_;intro w6 W q;simp only [CM,NM,CA,NA,iL.it] at q;have n:=q.p2.p2;refine(bL) O7 (kP (S:=(⟨ar,a1,a2,r,cr,n1,e1,n2,e2,d2,d3,d1⟩:SD)) n.e2 (As.gf n.g2) aY.nil p E hk) ?_;rintro _ w7 ⟨eH,ra,f,rc,rfl,_,_,K⟩;have L:=St.lr n K;refine bz ?_;refine WL.nil (EX.np ?_);refine bz ?_;have N:=L.sY (B:=As.os RR.key 29 2 ra f rc (lK aa x k)) (by rw [qh hc]);refine(qX) ?_;exact⟨ra,f,rc,_,by rw [hc],(bA.dx H).le I,N.k1⟩
set_option maxHeartbeats 1600000 in
theorem vg(gg:St w M Z w []) (ht:gV prog Z w) (hn:cZ k) (hu:Rd RR.dp 4 Z w ar r cr aa) (hi:Rd RR.az 4 Z w a1 n1 e1 x.ad) (hr:Rd RR.ed 8 Z w a2 n2 e2 x.ah) (hs:Jq x) (hks:k.text.size≤140737488355328):Calls prog 16 #[.slice ar r cr,.agg (x.row a1 n1 e1 a2 n2 e2).toArray,k.val] w fun e w'=>∃(ra:Option Addr) (o rc:Nat) (L:List Key) (Z':Nat→Prop),e=.returned (.tuple #[.slice ra o rc,.int .i64 (dt aa x k)])∧lL aa x k L∧bA w.heap.size Z Z'∧St w M Z' w' [As.os RR.key 29 2 ra o rc L]:=by
 refine enter func16 rfl ntmps16 rfl<|?_;have aR:=St.rb gg;have st1:=aR.fr hu;have st2:=st1.fr hi;have j5:=st2.fr hr;have i6:=j5.fact (B:=As.fz (FZ.zV prog)) ht (fun _ R=>R);refine(dE) i6 fun b4 w1 AX E4 jD=>?_;refine(dE) jD fun b5 w2 EV EW p=>?_;refine(aT) aJ p.b1<|(aT) ak p.b0<|(dH) (j0 (As.gf p.g2) (As.gr p.g5) (As.gr p.g4) (As.gr p.g3) hs hks) p fun w3 s3 T=>?_;refine(aN) (fun g20=>?_) fun g20=>?_
 ·
  have hc:dt aa x k≠0:=by simpa using g20
  refine kQ ?_;have G:=T.df RR.key 29 2;refine(qX) ?_;exact⟨none,0,0,[],_,rfl,lL.err hc,bA.refl _ _,(St.wk G.k1)⟩
 have hc:dt aa x k=0:=by simpa using g20
 obtain⟨C,hB,MF⟩:=fR hc;have hk:=gO MF hn;have hS:=iw C hB;refine(aT) aJ T.b1<|?_;have G:=T;refine(bL) Ib (iY (x:=x) G.e0) ?_;rintro _ w4 ⟨d1,d2,d3,rfl,mj⟩;have jc:=St.lr G mj;have hgv:=St.bB mj;have Q4:=G.size;have u:=jc;have dw:=u.freeze (B:=As.fz (SD.FV (⟨ar,a1,a2,r,cr,n1,e1,n2,e2,d2,d3,d1⟩:SD) prog aa x)) ⟨(SD.F (⟨ar,a1,a2,r,cr,n1,e1,n2,e2,d2,d3,d1⟩:SD) prog aa x).mono (fun _ h=>.inl h) ⟨(As.gr u.g8),(As.gr u.g7),(As.gr u.g6),(As.gf u.g5)⟩,.inr rfl,((As.gb u.g0)).lt,cC.range (As.gb u.g0)⟩ (fun _ R=>R);refine cS ?_;refine WL.mm Key.val dw fun D w5 adS adT U=>?_;refine(aT) ak U.b4<|?_;refine WL.go rfl (OX.ins ec gA (As.gm U.g0) rfl rfl rfl fun w6 DD uJ=>?_);have db:=U.jn DD uJ;refine cL ?_;have cF:=db.sY (B:=As.map Key.val D (iP [k])) (rfl);refine(aT) ak cF.b4<|?_;refine WL.go rfl (OX.aP (us:=k.cells) dU rfl rfl rfl rfl fun K w7 Q5 Q6=>?_);have fV:=cF.dy Q5 Q6;refine bz ?_;have fJ:=fV;have dW:=fJ.conv (B:=As.os RR.key 29 2 (some ⟨K,0,none⟩) 1 1 [k]) (OR.dn (As.gb fJ.g0) (Nat.zero_le _) rfl (by simp [Key.cells,Value.oneCell']) rfl) (fun x h=>by show x=K;change x∈aG (some ⟨K,0,none⟩) at h;simpa [aG] using h);refine iC ?_;refine WC.bd (σ:=Nat × (List Key) × (List (Key × Value)) × (Option Addr) × Nat × Nat) (dm:=fun(i,l,ml,d,f,g)=>[(9,.pointer (some ⟨d1,0,none⟩)),(10,.map (some D)),(11,.slice d f g),(12,.int .i64 (i:Int))]) (F:=fun(i,l,ml,d,f,g)=>[As.os RR.key 29 2 d f g (l),As.map Key.val D (iP l),As.map Key.val d2 ml]) (I:=fun(i,l,ml,d,f,g)=>(sB aa x.ad k l i 0)∧(aY aa x.ad ml)∧True) (μ:=fun(i,l,ml,d,f,g)=>200 - i) (0,[k],[],(some ⟨K,0,none⟩),1,1) (dW.p3.p2.p2) Sub.t (⟨sB.start hk,aY.nil,trivial⟩)<|?_;rintro⟨i,l,ml,d,f,g⟩ w8 v ⟨hb,hm,_⟩;simp only [CA,NA] at v hb hm ⊢;have hln:=((As.gs v.g0)).len;have Np:=hb.len C;refine(aN) (fun V=>?_) fun V=>?_
 ·
  simp at V
  have N:i<l.length:=by omega
  have J2:=hb.tm l[i] (List.getElem_mem N);have GY:=lI (az:=x.ad) C J2;refine cS ?_;obtain⟨ia,ck⟩:=Ow.addr (As.gs v.g0) (ai N);refine cX ?_;refine WP .r (PV.ei eI ck rfl rfl (by omega))<|(aT) ak (Ow.mb (As.gs v.g0) (by omega) ck (ai N))<|?_;have H:=v.p4.p3;refine(bL) O7 (kP (S:=(⟨ar,a1,a2,r,cr,n1,e1,n2,e2,d2,d3,d1⟩:SD)) H.e2 (As.gf H.g4) hm C hS J2) ?_;rintro _ w9 ⟨eH,ra,o,rc,rfl,vI,uA,W⟩;have E:=St.lr H W;have Lx:=((As.gs E.g0)).len;refine cS ?_;refine WC.bd (σ:=Nat × (List Key) × (Option Addr) × Nat × Nat) (dm:=fun(q,j,d,f,g)=>[(9,.pointer (some ⟨d1,0,none⟩)),(10,.map (some D)),(11,.slice d f g),(12,.int .i64 (i:Int)),(41,.slice ra o rc),(42,.int .i64 (o:Int)),(43,.int .i64 (q:Int))]) (F:=fun(q,j,d,f,g)=>[As.os RR.key 29 2 d f g (j),As.map Key.val D (iP j)]) (I:=fun(q,j,d,f,g)=>(q≤o)∧(sB aa x.ad k j i q)∧(j[i]?=some l[i])∧True) (μ:=fun(q,j,d,f,g)=>o - q) (0,l,d,f,g) (E.p4.p4) Sub.t (⟨Nat.zero_le _,hb,ai N,trivial⟩)<|?_;rintro⟨q,j,d,f,g⟩ jB n ⟨hq,J,z,_⟩;simp only [CA,NA] at n hq J z ⊢;have Wr:=((As.gs n.g0)).len;have Jh:=J.len C;refine(aN) (fun X=>?_) fun X=>?_
  ·
   simp at X
   obtain⟨y,hy⟩:∃y,(dq aa x.ad l[i])[q]?=some y:=⟨_,List.getElem?_eq_getElem (show q<(dq aa x.ad l[i]).length by omega)⟩;refine cS ?_;obtain⟨nL,fU⟩:=Ow.addr (As.gs n.g2) hy;refine nx ?_;refine WP .r (PV.ei eI fU rfl rfl (by omega))<|(aT) ak (Ow.mb (As.gs n.g2) (by omega) fU hy)<|(ff) n fun b14 iV Lq GF dK=>?_;refine(cD) gR dK fun mu r8 mr O=>?_;refine(aT) ak O.b0<|?_;refine WP .r (PV.oY ec gA yo (As.gm O.g2) (tM j y) rfl rfl)<|(aN) (fun Y=>?_) fun Y=>?_
   ·
    have P:y∉j:=by simpa using Y
    refine WC.bY (m:=6) [] [5] [2,3,4,5,0,1] [(4,.sl 29 1 y.cells)] O (ao.k4 M0 M2 M3 M4<|ao.k4 M5 M6 M7 M8<|ao.k4 M9 iZ jj nh<|ao.nil) mixed (by kernel_rfl) (by kernel_rfl) rfl<|(kh) ak SV.g0<|?_;refine DG.side (s:=.sl 29 1 y.cells) rfl rfl rfl rfl rfl rfl (fun wx Zx Rx uS zd=>OX.aP (us:=y.cells) dU rfl rfl rfl rfl fun b wy nw hb=>⟨nw.ext.size,_,rfl,⟨b,rfl⟩,zd.dy nw hb⟩)<|?_;rintro _ ⟨Ws,rfl⟩;refine(gi) (fun oL LI yM Q l8=>?_);simp only [CA,NA] at Q;refine OX.j7 mP rfl rfl rfl (As.gs Q.g1) (SR.dn (A:=fun _=>True) (x:=y) (show cC _ Ws _ _ from Q.ok _ (.tail _ (.tail _ (.tail _ (.tail _ (.tail _ (.tail _ (.tail _ (.tail _ (.tail _ (.tail _ (.tail _ (.tail _ (.tail _ (l8 _ (.head _)))))))))))))))) trivial rfl (by simp [Key.cells,Value.oneCell']) rfl) (by omega) (by omega) (Nat.zero_le _) fun Wt Ji uL Jj Nq Jk Wu=>?_;have fA:=Q.p1.fO Nq Jj Jk;refine⟨Nq.size,_,rfl,_,_,_,fA,aw.k4<|aw.k4<|aw.k4<|aw.cons<|aw.nil,ao.k4 M1 M2 M3 M4<|ao.k4 M5 M6 M7 M8<|ao.k4 M9 iZ jj nh<|ao.nil,?_⟩;refine(kh) ak SV.g0<|(kZ)<|?_;intro pB I5 fZ;simp only [CM,NM,CA,NA,iL.it] at fZ;refine WL.go rfl (OX.put ec gA (As.gm fZ.g3) rfl rfl rfl fun sD qz qA=>?_);have eE:=fZ.p3.jn qz qA;refine nx ?_;refine WL.nil (EX.np ?_);have fc:=eE.sY (B:=As.map Key.val D (iP (j++[y]))) (by rw [tN _ P]);refine gw ?_;refine dY (q+1,j++[y],Wt,(f+1),Ji) ⟨fc.p1.drop.p2.drop.p1,⟨by omega,J.add C z hy P,by rw [List.getElem?_append_left (List.getElem?_eq_some_iff.1 z).1];exact z,trivial⟩⟩
   have P:y∈j:=by simpa using Y
   refine eP ?_;refine dY (q+1,j,d,f,g) ⟨O.drop,⟨by omega,J.has z hy P,z,trivial⟩⟩
  simp at X
  refine o5 ?_;refine dY (i+1,j,eH,d,f,g) ⟨n.p2.drop.p4.p3.p3.p3,⟨J.next z (by omega),vI,trivial⟩⟩
 simp at V
 refine gw ?_;have vu:=St.fresh v;have H:=v.a8 (by omega);refine bz ?_;have E:=H;refine(bL) Tk (na E.e0 (As.gr E.g0) (List.ne_nil_of_mem hb.mem) hb.j6 (by omega)) ?_;rintro _ w9 ⟨o1,o2,o3,L,rfl,hsl,Jx,W⟩;have n:=St.lr E W;refine(qX) ?_;exact⟨o1,o2,o3,L,_,by rw [hc],lL.ok hc hsl fun y=>(Jx.mem_iff).trans (hb.done (by omega) y),((bA.dx hgv).le Q4).trans (bA.dx (F:=fun x=>x∈aG d) vu) (Nat.le_refl _),(St.wk n.k1)⟩
theorem wb(hn:cZ k):CR prog 19 #[k.val] w (.string (jJ k)):=by
 have b:=C2 hn;refine enter func19 rfl ntmps19 rfl<|?_;have aR:=St.s0 w;refine(dE) aR fun b1 w1 d e st1=>?_;refine(aU) aK st1.b0<|(aN) (fun g3=>?_) fun g3=>?_
 ·
  simp at g3
  refine(bm) ?_;exact⟨by rw [b,if_pos g3],(St.cg st1)⟩
 simp at g3
 refine(aT) ak st1.b0<|(dH) (kN (k:=k) hn) st1 fun w2 s2 st2=>?_;refine(aN) (fun g7=>?_) fun g7=>?_
 ·
  exact absurd g7 (by simp [g3])
 skip
 refine(bm) ?_;exact⟨by rw [b,if_neg g3],(St.cg st2)⟩
theorem yZ(ht:gV prog A w) (hr:dX B w a r c aa) (l:k.text.size≤140737488355328) (o:∀i:Nat,i<aa.length→k≠aD aa (i:Int)) (s:k.kind≠0):CR prog 46 #[.slice a r c,k.val,.slice none 0 0] w ((⟨true,⟨#[]⟩,eS⟩:rW).val):=by
 have d:=EE o s;refine enter func46 rfl ntmps46 rfl<|?_;have aR:=St.s0 w;refine(dE) aR fun b4 w1 y z st1=>?_;refine(ff) st1 fun C w2 D F st2=>?_;refine(aT) ak st2.b1<|(dH) (jZ (k:=k) (ht.ext (St.cg st2)) l) st2 fun w3 s3 e=>?_;refine cS ?_;refine WC.cI (t:=30) (v:=.bool true) e ?_<|?_
 ·
  have G:=e.cj;refine WC.cJ (m:=12) (E:=bK [(10,fun v _=>v=(aD aa (number k)).val)]) e (aS (⟨fun _ _ _ _ _ _ _ h=>h,trivial⟩)) mixed (by kernel_rfl)<|(jf) (fun g19=>?_) (fun g19=>?_)
  ·
   refine(cG) ?_;rintro w4 ⟨f,b⟩ _;exact(br) (by first | (simp only [g19];done) | (simp [g19,d];done) | (simp [d];done)) (b)
  refine(gT) aK St.g1<|(jf) (fun g24=>?_) (fun g24=>?_)
  ·
   refine(cG) ?_;rintro w4 ⟨f,b⟩ _;exact(br) (by first | (simp only [g19,g24];done) | (simp [g19,g24,d];done) | (simp [d];done)) (b)
  refine bz ?_;refine DW.c0 (fun H u I=>jE (n:=number k) (hr.ext (St.cg u.2)))<|(gx) ak St.g1<|(cG)<|?_;rintro w4 ⟨f,b⟩ ⟨_,_⟩;refine WP .r (PV.Hg ft (p:=aD aa (number k)) (q:=k) rfl rfl)<|?_;exact(br) (by first | (simp only [g19,g24];done) | (simp [g19,g24,d];done) | (simp [d];done)) (b)
 intro w4 b;refine(aN) (fun g=>?_) fun g=>?_
 ·
  refine bz ?_;refine WP .r (PV.bs (us:=[.bool true,.string ⟨#[]⟩,.int .i64 0,.string ⟨#[]⟩]) pq rfl rfl rfl)<|(cD) hY b fun w5 J K j=>?_;refine(ky) iT j.b0<|?_;exact⟨rfl,(St.cg j)⟩
 exact gu g
theorem wD(ht:gV prog A w) (hr:dX B w a r c aa) (f:k.text.size≤140737488355328) (g:∀i:Nat,i<aa.length→k≠aD aa (i:Int)) (hn:cZ k):CR prog 22 #[.slice a r c,k.val,.slice none 0 0] w ((⟨true,⟨#[]⟩,eS⟩:rW).val):=by
 refine enter func22 rfl ntmps22 rfl<|?_;have aR:=St.s0 w;refine(dE) aR fun b4 w1 l m st1=>?_;refine(ff) st1 fun n w2 o p st2=>?_;refine(aT) ak st2.b1<|(dH) (iX (k:=k)) st2 fun w3 s3 d=>?_;refine(aN) (fun g7=>?_) fun g7=>?_
 ·
  simp at g7
  refine(aT) ak d.b1<|(dH) (yZ (k:=k) (ht.ext (St.cg d)) (hr.ext (St.cg d)) f g (by omega)) d fun w4 j b=>?_;refine(cD) hY b fun w5 q s e=>?_;refine(ky) iT e.b0<|?_;exact⟨rfl,(St.cg e)⟩
 skip
 refine nx ?_;refine WC.cI (t:=14) (v:=.bool true) d ?_<|?_
 ·
  refine(aT) ak d.b1<|(dH) (eh (k:=k)) d fun w4 j b=>?_;refine(bW) (fun g17=>?_) (fun g17=>?_)
  ·
   exact(br) (by rcases hn with h | h <;> first | (simp only [g17];done) | (simp [g17,h];done) | (simp [h];done) | (simp at g17 ⊢;omega)) (b)
  refine(aU) aK b.b1<|(bW) (fun g22=>?_) (fun g22=>?_)
  ·
   exact(br) (by rcases hn with h | h <;> first | (simp only [g17,g22];done) | (simp [g17,g22,h];done) | (simp [h];done) | (simp at g17 g22 ⊢;omega)) (b)
  refine(aU) aK b.b1<|?_;exact(br) (by rcases hn with h | h <;> first | (simp only [g17,g22];done) | (simp [g17,g22,h];done) | (simp [h];done) | (simp at g17 g22 ⊢;omega)) (b)
 intro w4 b;refine(aN) (fun g14=>?_) fun g14=>?_
 ·
  refine bz ?_;refine WP .r (PV.bs (us:=[.bool true,.string ⟨#[]⟩,.int .i64 0,.string ⟨#[]⟩]) pq rfl rfl rfl)<|(cD) hY b fun w5 u y e=>?_;refine(ky) iT e.b0<|?_;exact⟨rfl,(St.cg e)⟩
 exact gu g14
theorem wc(ht:gV prog A w) (b:aq aa) (hr:dX B w a r c aa) (f:k.text.size≤140737488355328) (hn:cZ k):CR prog 22 #[.slice a r c,k.val,.slice none 0 0] w ((aL aa k []).val):=by
 by_cases h:∃i:Nat,i<aa.length∧k=aD aa (i:Int)
 ·
  obtain⟨i,hi,rfl⟩:=h;rw [Az hi (by have:=b.len;omega)];exact kO ht b hi hr (SR.nil (fun _=>True) w 1 _) (by simp)
 have d:∀i:Nat,i<aa.length→k≠aD aa (i:Int):=fun i hi e=>h ⟨i,hi,e⟩;rw [C3 d hn];exact wD ht hr f d hn
theorem tnT:Ys prog 55:=N8 (fun a b s t w=>Km underlying29 rfl rfl rfl rfl (by decide) (by decide) underlying3 underlying9 isAgg3 isAgg9 (by kernel_rfl) 9997 a b s t w) underlying55 rfl rfl rfl rfl rfl rfl (by decide) (by decide) (by decide) underlying4 underlying9 isAgg4 isAgg9 isAgg29 sizeOf29 (by kernel_rfl) (by kernel_rfl)
set_option maxHeartbeats 400000
theorem wE(p:St w M Z w []):Calls prog 24 #[] w fun e w'=>∃(a:Option Addr) (n c:Nat) (Z':Nat→Prop),e=.returned (.slice a n c)∧Rd RR.dp 4 Z' w' a n c bu∧bA w.heap.size Z Z'∧St w M Z' w' []:=by
 refine enter func24 rfl ntmps24 rfl<|?_;have aR:=St.rb p;refine eP ?_;refine WP .r (PV.bs (us:=Sr.cells) KB rfl rfl rfl)<|?_;refine WL.go rfl (OX.aP (us:=Sr.cells) Dd rfl rfl rfl rfl fun b2 w1 g q=>?_);have st1:=St.vB (R:=RR.ask) (E:=77) (k:=4) (a:=some ⟨b2,0,none⟩) (n:=1) (c:=1) (xs:=[Sr]) aR g.ext (OR.dn q (Nat.zero_le _) rfl (by simp [Ask.cells,Value.oneCell']) rfl) (fun x b=>by simp [aG] at b;subst b;exact g.ge);refine WP .r (PV.bs (us:=[.bool true,.slice (some ⟨b2,0,none⟩) 1 1,.int .i64 5,.int .i64 1]) KA rfl rfl rfl)<|WP .r (PV.bs (us:=Ss.cells) KB rfl rfl rfl)<|?_;refine WL.go rfl (OX.aP (us:=Ss.cells) Dd rfl rfl rfl rfl fun b5 w2 i s=>?_);have st2:=St.vB (R:=RR.ask) (E:=77) (k:=4) (a:=some ⟨b5,0,none⟩) (n:=1) (c:=1) (xs:=[Ss]) st1 i.ext (OR.dn s (Nat.zero_le _) rfl (by simp [Ask.cells,Value.oneCell']) rfl) (fun x b=>by simp [aG] at b;subst b;exact i.ge);refine WP .r (PV.bs (us:=[.bool true,.slice (some ⟨b5,0,none⟩) 1 1,.int .i64 5,.int .i64 4]) KA rfl rfl rfl)<|?_;refine WL.go rfl (OX.aP (us:=([.bool true,.slice (some ⟨b2,0,none⟩) 1 1,.int .i64 5,.int .i64 1]++[.bool true,.slice (some ⟨b5,0,none⟩) 1 1,.int .i64 5,.int .i64 4])) OK rfl rfl rfl rfl fun f w3 t u=>?_);have j:=st2.dy t u;refine bz ?_;have v:=St.fresh j.p2;have l:=j.p2.a8 (by simp);have y:=St.fresh l.p2;have z:=l.p2.a8 (by simp);have d:=z.p2;have m:=d.conv (B:=As.os RR.dp 37 4 (some ⟨f,0,none⟩) 2 2 bu) (OR.Yg (As.gb d.g0) (Nat.zero_le _) rfl rfl (by simp [Value.oneCell']) ⟨some ⟨b2,0,none⟩,1,1,rfl,(As.gr d.g2)⟩ ⟨some ⟨b5,0,none⟩,1,1,rfl,(As.gr d.g1)⟩) (fun x h=>by show x=f;change x∈aG (some ⟨f,0,none⟩) at h;simpa [aG] using h);have C:=St.fresh m;have o:=m.a8 (by decide);refine(bm) ?_;exact⟨_,_,_,_,rfl,(As.gr o.g0),((bA.dx v).trans (bA.dx y) (Nat.le_refl _)).trans (bA.dx C) (Nat.le_refl _),(St.wk o.k0)⟩
set_option maxHeartbeats 1600000 in
theorem iH(z:St w M Z w []) (ht:gV prog Z w):Calls prog 5 #[] w fun e w'=>e=.returned (.bool true)∧St w M Z w' []:=by
 refine enter func5 rfl ntmps5 rfl<|?_;have aR:=z;have st1:=aR.fact (B:=As.fz (FZ.zV prog)) ht (fun _ C=>C);refine eP ?_;have st2:=st1;refine(bL) YT (wE st2.e0) ?_;rintro _ w1 ⟨ra,Q,rc,R,rfl,Jn,g,D⟩;have E:=St.lv st2 D g;have j:=E.fr (Jn);refine gw ?_;refine WP .r (PV.bs (us:=(⟨0,[],[]⟩:cA).row none 0 0 none 0 0) Kz rfl rfl rfl)<|(dH) (fS (n:=0) (As.gr j.g0)) j fun w2 s2 F=>?_;have b:=F;refine(bL) O4 (nc (x:=(⟨0,[],[]⟩:cA)) b.e0 (As.gf b.g1) (eu.dp (i:=0) (fq.2 (by omega)) (by omega)) ((As.gr b.g0)) (Rd.nil _ _ _ _) (Rd.nil _ _ _ _) eD nE.Ep (nE.small eD)) ?_;rintro _ w3 ⟨rfl,G⟩;have l:=St.lr b G;rw [show valOf bu (⟨0,[],[]⟩:cA).ad (aD bu ((0:Nat):Int))=⟨#[53]⟩ from tO (by omega)];refine j8 ?_;refine WP .r (PV.bs (us:=(⟨0,[],[]⟩:cA).row none 0 0 none 0 0) Kz rfl rfl rfl)<|(dH) (fS (n:=1) (As.gr l.g0)) l fun w4 S H=>?_;have d:=H;refine(bL) O4 (nc (x:=(⟨0,[],[]⟩:cA)) d.e0 (As.gf d.g1) (eu.dp (i:=1) (fq.2 (by omega)) (by omega)) ((As.gr d.g0)) (Rd.nil _ _ _ _) (Rd.nil _ _ _ _) eD nE.Ep (nE.small eD)) ?_;rintro _ w5 ⟨rfl,I⟩;have m:=St.lr d I;rw [show valOf bu (⟨0,[],[]⟩:cA).ad (aD bu ((1:Nat):Int))=⟨#[53]⟩ from tO (by omega)];refine j8 ?_;refine WP .r (PV.bs (us:=(⟨0,[],[]⟩:cA).row none 0 0 none 0 0) Kz rfl rfl rfl)<|(dH) (fS (n:=1) (As.gr m.g0)) m fun w6 T J=>?_;have f:=J;refine(bL) Tf (vt (x:=(⟨0,[],[]⟩:cA)) f.e0 (As.gf f.g1) (eu.dp (i:=1) (fq.2 (by omega)) (by omega)) ((As.gr f.g0)) (Rd.nil _ _ _ _) (Rd.nil _ _ _ _) eD nE.Ep (nE.small eD)) ?_;rintro _ w7 ⟨U,K,V,L,W,rfl,N,O,o,P⟩;have p:=St.lv f P o;have X:=((As.gs p.g0)).len;have Y:=x5 N O
 obtain rfl:K=2:=by omega
 refine aO ?_;refine WL.fE (t:=35) rfl (fun q=>?_) (fun q=>?_)
 ·
  refine cX ?_;refine WL.fE (t:=39) rfl (fun s=>?_) (fun s=>?_)
  ·
   refine cX ?_;refine WL.fE (t:=43) rfl (fun u=>?_) (fun u=>?_)
   ·
    refine cX ?_;refine WL.fE (t:=47) rfl (fun v=>?_) (fun v=>?_)
    ·
     refine cX ?_;refine WL.fE (t:=51) rfl (fun y=>?_) (fun y=>?_)
     ·
      refine(bm) ?_;exact⟨rfl,(p.k0).shrink fun _ h=>o.up _ (g.up _ h)⟩
     exact gu y
    exact gu v
   exact gu u
  exact gu s
 exact gu q
end Go.Rc

