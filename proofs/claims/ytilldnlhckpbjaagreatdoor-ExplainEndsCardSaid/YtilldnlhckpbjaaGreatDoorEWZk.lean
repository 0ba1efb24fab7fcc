/- Walks over the program, part WZk. Conditions: as each theorem says. -/
import Derived.Test.YtilldnlhckpbjaaGreatDoorEFacts
import Derived.Test.YtilldnlhckpbjaaGreatDoorEWYd
import Derived.Test.YtilldnlhckpbjaaGreatDoorEWF
import Derived.Test.YtilldnlhckpbjaaGreatDoorEBf
import Derived.Test.YtilldnlhckpbjaaGreatDoorEWH
import Derived.Test.YtilldnlhckpbjaaGreatDoorEBh
import Derived.Test.YtilldnlhckpbjaaGreatDoorEWK
import Derived.Test.YtilldnlhckpbjaaGreatDoorEWUa
set_option linter.all false
namespace Go.Rc
open Go Go.Proofs Go.Proofs.Tryz
variable {x:cW}{a1 a2:Option Addr}{n1 e1 n2 e2:Nat}{w:World}{M Z:Nat→Prop}
set_option maxHeartbeats 400000
set_option maxHeartbeats 1600000 in
theorem tD{aa:List aD}{k:Key}{ar:Option Addr}{r cr:Nat}(gn:St w M Z w []) (ht:jM prog Z w) (hu:Rd RR.eF 4 Z w ar r cr aa) (hi:Rd RR.aA 4 Z w a1 n1 e1 x.ab) (hr:Rd RR.fl 8 Z w a2 n2 e2 x.ah) (E:ao aa) (hB:fR x) (hk:eB aa k) (Og:eu aa k=true):Calls prog 13 #[.slice ar r cr,.agg (x.row a1 n1 e1 a2 n2 e2).toArray,k.val] w fun e w'=>∃(ra:Option Addr) (v rc:Nat) (L:List Key) (Z':Nat→Prop),e=.returned (.tuple #[.slice ra v rc,.int .i64 0])∧L.length≤124∧(∀y,y∈L↔sX aa x.ab k y)∧dU w.heap.size Z Z'∧St w M Z' w' [As.os RR.key 43 2 ra v rc L]:=by
 refine enter func13 rfl ntmps13 rfl<|?_;have aR:=St.rb gn;have st1:=aR.fr hu;have st2:=st1.fr hi;have iO:=st2.fr hr;have iL:=iO.fact (B:=As.fz (FZ.Ej prog)) ht (fun _ hx=>hx);refine(dy) iL fun b4 w1 DA IC kJ=>?_;refine(dy) kJ fun b5 w2 JA Ih G=>?_;refine(bf) bu G.b1<|(bf) ak G.b0<|(fw) (my (As.gr G.g5) (As.gr G.g4) (As.gr G.g3) E hB Og) G fun w3 s3 iP=>?_;refine(aT) (fun g20=>?_) fun g20=>?_
 ·
  exact et g20
 refine(bf) bu iP.b1<|?_;have im:=iP;refine(cE) LZ (mZ (x:=x) im.e0) ?_;rintro _ w4 ⟨d1,d2,d3,rfl,AU⟩;have ju:=St.lr im AU;refine cD ?_;refine WC.cN (m:=7) [] [2,4] [2,3,4,0,1,5,6] [(1,.sl 43 1 k.cells)] ju (aq.k4 M0 M1 M2 M3<|aq.k4 M4 M5 M6 M7<|aq.cons M8<|aq.nil) mixed (by kernel_rfl) (by kernel_rfl) rfl<|(gH) (fun w5 Zd Nu ek F6=>?_);simp only [CA,NA] at ek;refine OX.makeMap Key.val rfl fun H w6 Tj aar=>?_;have dP:=ek.D7 Tj aar;refine⟨Tj.ext.size,_,rfl,_,_,_,dP,ay.k4<|ay.k4<|ay.k2<|ay.nil,aq.k4 M1 M2 M3 M4<|aq.k4 M5 M6 M7 M8<|aq.cons M9<|aq.nil,?_⟩;refine(ma) ak SV.g3<|?_;refine DG.cs rfl rfl rfl rfl rfl (fun w7 FY sw V jc=>?_);simp only [CA,NA] at V;refine OX.ins cB fE (As.gm V.g0) rfl rfl rfl fun w8 kI vP=>?_;have cM:=V.hJ kI vP;refine⟨kI.size,rfl,_,_,_,cM,ay.k4<|ay.k4<|ay.k2<|ay.nil,aq.k4 M1 M2 M3 M4<|aq.k4 M5 M6 M7 M8<|aq.cons M9<|aq.nil,?_⟩;refine(ma) ak SV.g3<|?_;refine DG.side (s:=.sl 43 1 k.cells) rfl rfl rfl rfl rfl rfl (fun wx Zx Rx yH W=>OX.aM (us:=k.cells) cP rfl rfl rfl rfl fun b wy N hb=>⟨N.ext.size,_,rfl,⟨b,rfl⟩,W.du N hb⟩)<|?_;rintro _ ⟨P,rfl⟩
 iterate 2 refine DG.a ?_
 refine(nD) ?_;intro w9 IF cS;simp only [CM,NM,CA,NA,jD.it] at cS;refine nx ?_;refine WL.nil (EX.np ?_);have fG:=cS.p1.u9 (B:=As.map Key.val H (gQ [k])) (rfl);have hP:=fG.p1;have e7:=hP.conv (B:=As.os RR.key 43 2 (some ⟨P,0,none⟩) 1 1 [k]) (OR.cT (As.gb hP.g0) (Nat.zero_le _) rfl (by simp [Key.cells,Value.oneCell']) rfl) (fun x h=>by show x=P;change x∈aZ (some ⟨P,0,none⟩) at h;simpa [aZ] using h);refine jg ?_;refine WC.bm (σ:=Nat × (List Key) × (List (Key × Value)) × (List (Key × Value)) × (Option Addr) × Nat × Nat) (db:=fun(i,l,ml,n,c,d,f)=>[(9,.pointer (some ⟨d1,0,none⟩)),(10,.slice c d f),(11,.map (some H)),(12,.int .i64 (i:Int))]) (F:=fun(i,l,ml,n,c,d,f)=>[As.os RR.key 43 2 c d f (l),As.map Key.val H (gQ l),As.map Key.val d2 ml,As.map Key.val d3 n]) (I:=fun(i,l,ml,n,c,d,f)=>(wK aa x.ab k l i 0)∧(aJ aa x.ab ml)∧(∀y,aX n y≠none→∃j:Nat,j<i∧l[j]?=some y)∧True) (μ:=fun(i,l,ml,n,c,d,f)=>200 - i) (0,[k],[],[],(some ⟨P,0,none⟩),1,1) (e7.p4.p4.p3.p3) Sub.t (⟨wK.start hk,aJ.nil,fun y h=>absurd rfl h,trivial⟩)<|?_;rintro⟨i,l,ml,n,c,d,f⟩ jP C ⟨hb,hm,X,_⟩;simp only [CA,NA] at C hb hm X ⊢;have hln:=((As.gs C.g0)).len;have adi:=hb.len E;refine(aT) (fun Y=>?_) fun Y=>?_
 ·
  simp at Y
  have Q:i<l.length:=by omega
  have Vc:=hb.vf l[i] (List.getElem_mem Q);have Jf:=zI (aA:=x.ab) E Vc
  have RJ:aX n l[i]=none:=Classical.byContradiction fun h=>by
   obtain⟨j,h1,J⟩:=X _ h;have h3:=(List.getElem?_eq_some_iff.1 J);obtain⟨h4,h5⟩:=h3;exact absurd ((List.getElem_inj hb.ie).1 h5) (by omega)
  refine df ?_;obtain⟨jK,cF⟩:=Ow.addr (As.gs C.g0) (ae Q);refine cD ?_;refine WP .r (PV.dO dn cF rfl rfl (by omega))<|(bf) ak (Ow.sP (As.gs C.g0) (by omega) cF (ae Q))<|?_;have o:=C.p3.p3.p4;refine(cE) Wl (tB (x:=x) (D:=⟨ar,a1,a2,r,cr,n1,e1,n2,e2,d2,d3,d1⟩) o.e3 ⟨(As.gr o.g10),(As.gr o.g9),(As.gr o.g8),(As.gf o.g7)⟩ hm E Vc RJ) ?_;rintro _ kF ⟨ra,v,rc,dr,ql2,rfl,Dd,GI,Gl⟩;have K:=St.lr o Gl;have JL:=((As.gs K.g3)).len;refine df ?_;refine WC.bm (σ:=Nat × (List Key) × (Option Addr) × Nat × Nat) (db:=fun(q,g,c,d,f)=>[(9,.pointer (some ⟨d1,0,none⟩)),(10,.slice c d f),(11,.map (some H)),(12,.int .i64 (i:Int)),(41,.slice ra v rc),(42,.int .i64 (v:Int)),(43,.int .i64 (q:Int))]) (F:=fun(q,g,c,d,f)=>[As.os RR.key 43 2 c d f (g),As.map Key.val H (gQ g)]) (I:=fun(q,g,c,d,f)=>(q≤v)∧(wK aa x.ab k g i q)∧(g[i]?=some l[i])∧(∀y,aX n y≠none→∃j:Nat,j<i∧g[j]?=some y)∧True) (μ:=fun(q,g,c,d,f)=>v - q) (0,l,c,d,f) (K.p5.p5) Sub.t (⟨Nat.zero_le _,hb,ae Q,X,trivial⟩)<|?_;rintro⟨q,g,c,d,f⟩ pH p ⟨hq,O,u,R,_⟩;simp only [CA,NA] at p hq O u R ⊢;have aas:=((As.gs p.g0)).len;have aat:=O.len E;refine(aT) (fun g44=>?_) fun g44=>?_
  ·
   simp at g44
   obtain⟨y,hy⟩:∃y,(cX aa x.ab l[i])[q]?=some y:=⟨_,List.getElem?_eq_getElem (show q<(cX aa x.ab l[i]).length by omega)⟩;refine df ?_;obtain⟨oV,gW⟩:=Ow.addr (As.gs p.g5) hy;refine nx ?_;refine WP .r (PV.dO dn gW rfl rfl (by omega))<|(bf) ak (Ow.sP (As.gs p.g5) (by omega) gW hy)<|(fy) p fun b14 qj R0 II dT=>?_;refine(dw) fW dT fun yl vI oh S=>?_;refine(bf) ak S.b0<|?_;refine WP .r (PV.hW cB fE vC (As.gm S.g2) (rp g y) rfl rfl)<|(aT) (fun g50=>?_) fun g50=>?_
   ·
    have T:y∉g:=by simpa using g50
    refine WC.cN (m:=7) [] [5] [2,3,4,5,0,1,6] [(4,.sl 43 1 y.cells)] S (aq.k4 M0 M2 M3 M4<|aq.k4 M5 M6 M7 M8<|aq.k4 M9 jv kB oj<|aq.nil) mixed (by kernel_rfl) (by kernel_rfl) rfl<|(ma) ak SV.g0<|?_;refine DG.side (s:=.sl 43 1 y.cells) rfl rfl rfl rfl rfl rfl (fun wx Zx Rx yH W=>OX.aM (us:=y.cells) cP rfl rfl rfl rfl fun b wy N hb=>⟨N.ext.size,_,rfl,⟨b,rfl⟩,W.du N hb⟩)<|?_;rintro _ ⟨b55,rfl⟩;refine(gH) (fun vS SG F8 U n9=>?_);simp only [CA,NA] at U;refine OX.qG oK rfl rfl rfl (As.gs U.g1) (SR.cT (A:=fun _=>True) (x:=y) (show bM _ b55 _ _ from U.ok _ (.tail _ (.tail _ (.tail _ (.tail _ (.tail _ (.tail _ (.tail _ (.tail _ (.tail _ (.tail _ (.tail _ (.tail _ (.tail _ (n9 _ (.head _)))))))))))))))) trivial rfl (by simp [Key.cells,Value.oneCell']) rfl) (by omega) (by omega) (Nat.zero_le _) fun a56 aaw wN aax s56 aay ahH=>?_;have e6:=U.p1.lT s56 aax aay;refine⟨s56.size,_,rfl,_,_,_,e6,ay.k4<|ay.k4<|ay.k4<|ay.cons<|ay.nil,aq.k4 M1 M2 M3 M4<|aq.k4 M5 M6 M7 M8<|aq.k4 M9 jv kB oj<|aq.nil,?_⟩;refine(ma) ak SV.g0<|(nD) ?_;intro B3 B5 ff;simp only [CM,NM,CA,NA,jD.it] at ff;refine WL.go rfl (OX.put cB fE (As.gm ff.g3) rfl rfl rfl fun Dh sj sk=>?_);have ir:=ff.p3.hJ sj sk;refine WL.nil (EX.np ?_);have jq:=ir.u9 (B:=As.map Key.val H (gQ (g++[y]))) (by rw [rq _ T]);refine fY ?_;refine eb (q+1,g++[y],a56,(d+1),aaw) ⟨jq.p1.drop.p2.drop.p1,⟨by omega,O.add E u hy T,by rw [List.getElem?_append_left (List.getElem?_eq_some_iff.1 u).1];exact u,fun z hz=>by obtain⟨j,h1,J⟩:=R z hz;exact⟨j,h1,by rw [List.getElem?_append_left (List.getElem?_eq_some_iff.1 J).1];exact J⟩,trivial⟩⟩
   have T:y∈g:=by simpa using g50
   refine eX ?_;refine eb (q+1,g,c,d,f) ⟨S.drop,⟨by omega,O.has u hy T,u,R,trivial⟩⟩
  simp at g44
  refine lV ?_
  refine eb (i+1,g,dr,ql2,c,d,f) ⟨p.p5.drop.p4.p4.p3.p3,⟨O.next u (by omega),Dd,fun y hy=>by
   rcases GI y hy with e | h
   ·
    exact⟨i,by show i<i+1;omega,by rw [e];exact u⟩
   obtain⟨j,h1,J⟩:=R y h;exact⟨j,by show j<i+1;omega,J⟩,trivial⟩⟩
 simp at Y
 refine fY ?_;have Gk:=St.fresh C;have o:=C.dZ (by omega);refine bJ ?_;have K:=o;refine(cE) LW (kf K.e0 (As.gr K.g0) (fun _ h _=>h) (by omega)) ?_;rintro _ kF ⟨o1,o2,o3,rfl,Gl⟩;have p:=St.lr K Gl;refine(tV) ?_;exact⟨o1,o2,o3,gP l,_,rfl,Nat.le_trans (oy _) (by omega),fun y=>(iz _ _).trans (hb.done (by omega) y),dU.nA (F:=fun x=>x∈aZ c) Gk,(St.wk p.k1)⟩
set_option maxHeartbeats 400000
set_option maxHeartbeats 400000
set_option maxHeartbeats 400000
set_option maxHeartbeats 400000
set_option maxHeartbeats 400000
set_option maxHeartbeats 400000
set_option maxHeartbeats 1600000 in
set_option maxRecDepth 8000 in
theorem kg{l:List Change}{al:Option Addr}{nl b:Nat}(gn:St w M Z w []) (hi:Rd RR.aA 4 Z w a1 n1 e1 x.ab) (hr:Rd RR.fl 8 Z w a2 n2 e2 x.ah) (hl:Rd RR.bS 3 Z w al nl b l) (hb:fR x) (hx:hK x.ad x.ab) (hs:∀c∈l,c.small) (Uf:l.length≤32):Calls prog 9 #[.agg (x.row a1 n1 e1 a2 n2 e2).toArray,.slice al nl b] w fun e w'=>∃(y:cW) (b1 b2:Option Addr) (m1 d1 m2 d2:Nat) (er:Int) (Z':Nat→Prop),e=.returned (.tuple #[.agg (y.row b1 m1 d1 b2 m2 d2).toArray,.int .i64 er])∧y.ah=x.ah∧x.ad≤y.ad∧y.ad≤1073741824∧hK y.ad y.ab∧y.ab.length≤64∧y.ad≤x.ad+1∧Je x l y∧AO x l y∧(x.ad+1≤1073741824→er=0)∧Rd RR.aA 4 Z' w' b1 m1 d1 y.ab∧Rd RR.fl 8 Z' w' b2 m2 d2 y.ah∧dU w.heap.size Z Z'∧St w M Z' w' []:=by
 have hln:=hl.len;have h7a:=hb.2.2.2.2.1;have h6a:=hb.2.2.2.2.2.1
 have h6:x.ah.length≤1000000:=by omega
 have h7:x.ab.length≤1000000:=by omega
 have hv0:=hb.2.2.1;have DE:=hb.2.2.2.1;refine enter func9 rfl ntmps9 rfl<|?_;have aR:=St.rb gn;have st1:=aR.fr hi;have st2:=st1.fr hr;have iO:=st2.fr hl;refine(dy) iO fun b2 w1 YZ Fy iL=>?_;refine(fy) iL fun b4 w2 DA IC kJ=>?_;refine(bf) bu kJ.b1<|?_;have ke:=kJ;refine(cE) Fm (gV (x:=x) ke.e0 (As.gr ke.g4) (As.gr ke.g3) h6 h7) ?_;rintro _ w3 ⟨f1,f2,f3,f4,f5,f6,Z1,rfl,F5,qf⟩;have iP:=St.lv ke qf F5;have aaz:=St.dC qf;have aaA:=St.dC qf.p1;have yi:=ke.size;have DF:=F5.le yi;have aaB:=St.fresh iP;have im:=iP.dZ (by omega);have aaC:=St.fresh im.p1;have ju:=im.p1.dZ (by omega);have aaD:=(DF.trans (dU.nA (F:=fun x=>x∈aZ f1) aaz) yi).trans (dU.nA (F:=fun x=>x∈aZ f4) aaA) yi;refine(dw) jl ju.p3 fun w4 kI nj ek=>?_;refine(bf) bu ek.b0<|(cE) LX (kc (x:=x) (As.gr ek.g2) (As.gr ek.g1)) ?_;rintro _ w5 ⟨bb,rfl,hbb,s5⟩;have dP:=ek.step s5;obtain rfl:bb=true:=hbb.2 hb;refine(aT) (fun g24=>?_) fun g24=>?_
 ·
  exact et g24
 ·
  refine(aT) (fun GH=>?_) fun GH=>?_
  ·
   exact et GH
  refine aQ ?_;refine WC.bm (σ:=Nat) (db:=fun i=>[(1,.slice al nl b),(2,.pointer (some ⟨b2,0,none⟩)),(4,.pointer (some ⟨b4,0,none⟩)),(34,.slice al nl b),(35,.int .i64 (nl:Int)),(36,.int .i64 (i:Int))]) (F:=fun i=>[]) (I:=fun i=>(i≤l.length)∧True) (μ:=fun i=>l.length - i) (0) (dP) Sub.t (⟨by omega,trivial⟩)<|?_;rintro i w6 dp ⟨eJ,_⟩;simp only [CA,NA] at dp eJ ⊢;refine(aT) (fun g37=>?_) fun g37=>?_
  ·
   simp at g37
   have B:i<l.length:=by omega
   have X:=hs _ (List.getElem_mem B);have hsk:=X.ok;have ML:=X.2;refine df ?_;obtain⟨jK,qe,nX,cF,i6,C,ft,fF⟩:=Rd.at (As.gr dp.g4) B;have C:=RR.bT C;subst C;have K:=dp.fg fF ft;refine nx ?_;refine WP .r (PV.dO CX cF rfl rfl (by omega))<|(bf) xW (As.kW K.g0)<|(fy) K fun b7 w7 Ry Rz H=>?_;refine(dw) Fj H fun w8 vI oh R=>?_;refine(jY) ak R.b0<|?_;refine WL.c1 (u:=.bool true) (gl (k:=l[i].key)) (by rw [hsk.1]) R fun w9 s9 L=>?_;refine(jY) ak L.b0<|?_;refine WL.c1 (u:=.bool true) (cJ (k:=l[i].key)) (by rw [hsk.2]) L fun jP T4 e7=>?_;refine cD ?_;refine WC.fA rfl<|eX ?_;refine eb (i+1) ⟨e7.drop.drop,⟨by omega,trivial⟩⟩
  skip
  refine aQ ?_;refine bJ ?_;refine WC.bm (σ:=Nat) (db:=fun i=>[(1,.slice al nl b),(2,.pointer (some ⟨b2,0,none⟩)),(4,.pointer (some ⟨b4,0,none⟩)),(52,.slice al nl b),(53,.int .i64 (nl:Int)),(54,.int .i64 (i:Int))]) (F:=fun i=>[]) (I:=fun i=>(i≤l.length)∧True) (μ:=fun i=>l.length - i) (0) (dp) Sub.t (⟨by omega,trivial⟩)<|?_;rintro i w7 K ⟨eJ,_⟩;simp only [CA,NA] at K eJ ⊢;refine(aT) (fun g55=>?_) fun g55=>?_
  ·
   simp at g55
   have B:i<l.length:=by omega
   have X:=hs _ (List.getElem_mem B);have ML:=X.2;refine df ?_;obtain⟨jK,qe,nX,cF,i6,C,ft,fF⟩:=Rd.at (As.gr K.g4) B;have C:=RR.bT C;subst C;have H:=K.fg fF ft;refine nx ?_;refine WP .r (PV.dO CX cF rfl rfl (by omega))<|(bf) xW (As.kW H.g0)<|(fy) H fun b9 w8 nw9 hb9 R=>?_;refine(dw) Fj R fun w9 C8 yX L=>?_;refine(bq) fq L.b0<|(aT) (fun Ip=>?_) fun Ip=>?_
   ·
    exact et Ip
   refine eX ?_;refine eb (i+1) ⟨L.drop.drop,⟨by omega,trivial⟩⟩
  skip
  refine(bf) bu K.b0<|?_;have H:=K;refine(cE) Fm (gV (x:=x) H.e0 (As.gr H.g2) (As.gr H.g1) h6 h7) ?_;rintro _ w8 ⟨k1,k2,k3,k4,k5,k6,Z2,rfl,yu,nZ⟩;have R:=St.lv H nZ yu;have aaE:=St.dC nZ;have aaF:=St.dC nZ.p1;have ti:=H.size;have uM:=aaD.trans yu ti;have aaG:=St.fresh R;have L:=R.dZ (by omega);have aaH:=St.fresh L.p1;have e7:=L.p1.dZ (by omega);have aaI:=(uM.trans (dU.nA (F:=fun x=>x∈aZ k1) aaE) ti).trans (dU.nA (F:=fun x=>x∈aZ k4) aaF) ti;refine(fy) e7 fun N w9 yo yp fX=>?_;refine(dw) jl fX fun jP Oh Oi ei=>?_;refine(bq) aL ei.b0<|bJ ?_;refine WL.s1 ei fun kF _ eV=>?_;refine aQ ?_;refine cD ?_;refine WC.kl (σ:=Nat × Bool × (List cj) × (Option Addr) × Nat × Nat × (Nat→Prop)) (db:=fun(i,ch,li,D,s,G,O)=>[(1,.slice al nl b),(2,.pointer (some ⟨b2,0,none⟩)),(4,.pointer (some ⟨b4,0,none⟩)),(10,.pointer (some ⟨N,0,none⟩)),(11,.bool ch),(70,.slice al nl b),(71,.int .i64 (nl:Int)),(72,.int .i64 (i:Int))]) (F:=fun(i,ch,li,D,s,G,O)=>[As.blk N 32 [.int .i64 (x.ad+1),.slice D s G,.slice k4 k5 k6],As.ro RR.aA 4 D s G li]) (I:=fun(i,ch,li,D,s,G,O)=>(i≤l.length)∧(hK (x.ad+1) li)∧(li.length≤x.ab.length+i)∧(∀k,(∀c∈l,c.key≠k)→bs li k=bs x.ab k)∧(∀k,bs li k=bs x.ab k∨(bs li k).changed=x.ad+1)∧(dU w.heap.size Z O)∧(CJ x l i ch li)∧True) (μ:=fun(i,ch,li,D,s,G,O)=>l.length - i) (Zf:=fun(i,ch,li,D,s,G,O)=>O) (0,false,x.ab,k1,k2,k3,_) (eV.p2.p1) Sub.t (⟨by omega,hx.mono (by omega),by omega,fun _ _=>rfl,fun _=>.inl rfl,aaI,.start,trivial⟩)<|?_;rintro⟨i,ch,li,D,s,G,O⟩ pH n ⟨eJ,hG,aaJ,Uu,Uv,Y,Gm,_⟩;simp only [CA,NA] at n eJ hG aaJ Uu Uv Y Gm ⊢;refine(aT) (fun SK=>?_) fun SK=>?_
  ·
   have aaK:=((As.gr n.g1)).len
   simp at SK
   have B:i<l.length:=by omega
   have X:=hs _ (List.getElem_mem B);refine df ?_;obtain⟨jK,qe,nX,cF,i6,C,ft,fF⟩:=Rd.at (As.gr n.g7) B;have C:=RR.bT C;subst C;have g:=n.fg fF ft;refine bJ ?_;refine WP .r (PV.dO CX cF rfl rfl (by omega))<|(bf) xW (As.kW g.g0)<|(fy) g fun MP qj Iv X1 iq=>?_;refine(dw) Fj iq fun yl Ug N3 iR=>?_;refine aQ ?_;refine nx ?_;refine WP .r (PV.zi CX (i:=i+1) (As.gr iR.g9) rfl rfl (by omega))<|cq ?_;have e6:=iR.fr (SR.drop (i:=i+1) (As.gr iR.g9) (by omega));refine bJ ?_;refine WC.bm (σ:=Nat × Bool) (db:=fun(q,S)=>[(1,.slice al nl b),(2,.pointer (some ⟨b2,0,none⟩)),(4,.pointer (some ⟨b4,0,none⟩)),(10,.pointer (some ⟨N,0,none⟩)),(11,.bool ch),(13,.pointer (some ⟨MP,0,none⟩)),(14,.bool S),(70,.slice al nl b),(71,.int .i64 (nl:Int)),(72,.int .i64 (i:Int)),(80,.slice (kQ al (i+1) 3 b) (nl - (i+1)) (b - (i+1))),(81,.int .i64 ((nl - (i+1):Nat):Int)),(82,.int .i64 (q:Int))]) (F:=fun(q,S)=>[]) (I:=fun(q,S)=>(q≤nl - (i+1))∧(q=0→S=true)∧True) (μ:=fun(q,S)=>nl - (i+1) - q) (0,true) (e6) Sub.t (⟨by omega,fun _=>rfl,trivial⟩)<|?_;rintro⟨q,S⟩ vS ff ⟨hq,hla,_⟩;simp only [CA,NA] at ff hq hla ⊢;refine(aT) (fun g83=>?_) fun g83=>?_
   ·
    simp at g83
    have GI:q<(l.drop (i+1)).length:=by rw [List.length_drop];omega
    refine df ?_;obtain⟨oV,C9,AA,gW,se,kA,kz,ly⟩:=Rd.at (As.gr ff.g0) GI;have kA:=RR.bT kA;subst kA;have J:=ff.fg ly kz;refine nx ?_;refine WP .r (PV.dO CX gW rfl rfl (by omega))<|(bf) xW (As.kW J.g0)<|(fy) J fun XW wN Iu MN jq=>?_;refine(dw) Fj jq fun B3 T8 T9 T=>?_;refine bJ ?_;have o:=T;refine WC.ko (σ:=Bool) [] (fun Nr=>[(1,.slice al nl b),(2,.pointer (some ⟨b2,0,none⟩)),(4,.pointer (some ⟨b4,0,none⟩)),(10,.pointer (some ⟨N,0,none⟩)),(11,.bool ch),(13,.pointer (some ⟨MP,0,none⟩)),(14,.bool Nr),(70,.slice al nl b),(71,.int .i64 (nl:Int)),(72,.int .i64 (i:Int)),(80,.slice (kQ al (i+1) 3 b) (nl - (i+1)) (b - (i+1))),(81,.int .i64 ((nl - (i+1):Nat):Int)),(82,.int .i64 (q:Int))]) (fun Nr=>[]) (fun Nr=>True) o ?_ ?_
    ·
     refine(cG) (fun FU=>?_) (fun FU=>?_)
     ·
      refine(jY) ak o.b0<|(jY) ak o.b3<|?_;refine WP .r (PV.DZ eI (p:=(l.drop (i+1))[q].key) (q:=l[i].key) rfl rfl)<|cq ?_;exact pV (_) ⟨o,trivial⟩
     refine jg ?_;exact pV (_) ⟨o,trivial⟩
    rintro Nr Dh z _;simp only [CA,NA] at z ⊢;refine fY ?_;refine eb (q+1,_) ⟨z.drop.drop,⟨by omega,fun h=>absurd h (Nat.succ_ne_zero _),trivial⟩⟩
   skip
   refine eX ?_;refine WC.dz (t:=105) (v:=.bool (!S || decide ((bs x.ab l[i].key).value=l[i].value))) ff ?_<|?_
   ·
    have ahI:=ff.bA;refine WC.cH (m:=9) (E:=bN [(6,fun v _=>v=.string (bs x.ab l[i].key).value)]) ff (aU (⟨fun _ _ _ _ _ _ _ h=>h,trivial⟩)) mixed (by kernel_rfl)<|(l9) (fun NK=>?_) (fun NK=>?_)
    ·
     refine(cx) ?_;rintro wN ⟨Tk,J⟩ _;exact(bY) (tG NK) (J)
    refine(fe) bu St.g6<|(tW) ak St.g1<|?_;refine DW.c0 (fun wx hC hF=>oU (x:=x) (k:=l[i].key) (As.gr hC.2.g8) (As.gr hC.2.g7))<|(gp) fq St.g1<|(cx)<|?_;rintro wN ⟨Tk,J⟩ ⟨_,_⟩;exact(bY) (tG NK) (J)
   intro wN J;refine(aT) (fun NL=>?_) fun NL=>?_
   ·
    refine jg ?_;refine eb (i+1,ch,li,D,s,G,O) ⟨J.drop.drop.drop,⟨by omega,hG,by show li.length≤x.ab.length+(i+1);omega,Uu,Uv,Y,Gm.skip B (fun e=>hla (by omega)) NL,trivial⟩⟩
   refine aQ ?_;refine(bq) jI J.b3<|df ?_;have jq:=J.fD RR.aA 80 4;refine WC.bm (σ:=Nat × Bool × (List cj) × (Option Addr) × Nat × Nat) (db:=fun(q,put,acc,d,a,f)=>[(1,.slice al nl b),(2,.pointer (some ⟨b2,0,none⟩)),(4,.pointer (some ⟨b4,0,none⟩)),(10,.pointer (some ⟨N,0,none⟩)),(11,.bool true),(13,.pointer (some ⟨MP,0,none⟩)),(17,.slice d a f),(18,.bool put),(70,.slice al nl b),(71,.int .i64 (nl:Int)),(72,.int .i64 (i:Int)),(107,.slice D s G),(108,.int .i64 (s:Int)),(109,.int .i64 (q:Int))]) (F:=fun(q,put,acc,d,a,f)=>[As.os RR.aA 80 4 d a f (acc)]) (I:=fun(q,put,acc,d,a,f)=>(q≤li.length)∧(acc++eK (⟨l[i].key,l[i].value,x.ad+1⟩:cj) (li.drop q) put=eK (⟨l[i].key,l[i].value,x.ad+1⟩:cj) li false)∧True) (μ:=fun(q,put,acc,d,a,f)=>li.length - q) (0,false,[],none,0,0) (jq) Sub.t (⟨by omega,rfl,trivial⟩)<|?_;rintro⟨q,put,acc,d,a,f⟩ B3 T ⟨hq,P,_⟩;simp only [CA,NA] at T hq P ⊢;have Tl:=He P;have aaL:=((As.gs T.g0)).len;refine(aT) (fun lW=>?_) fun lW=>?_
   ·
    simp at lW
    have GI:q<li.length:=by omega
    have De:=Hd GI P
    dsimp only at De
    refine df ?_;obtain⟨Di,aaf,R4,iM,JM,pK,B4,Gf⟩:=Rd.at (As.gr T.g5) GI;have pK:=RR.bT pK;subst pK;have o:=T.fg Gf B4;refine nx ?_;refine WP .r (PV.dO qc iM rfl rfl (by omega))<|(bf) ku (As.kW o.g0)<|(fy) o fun b20 Dh ahJ ahK z=>?_;refine(dw) xY z fun Gz XJ XK U=>?_;refine(jY) ak U.b0<|(jY) ak U.b4<|(fw) (jJ (k:=li[q].key) (q:=l[i].key)) U fun JH s20 nf=>?_;refine df ?_;have nc:=nf;refine WC.ko (σ:=Bool) [] (fun Dp=>[(1,.slice al nl b),(2,.pointer (some ⟨b2,0,none⟩)),(4,.pointer (some ⟨b4,0,none⟩)),(10,.pointer (some ⟨N,0,none⟩)),(11,.bool true),(13,.pointer (some ⟨MP,0,none⟩)),(17,.slice d a f),(18,.bool put),(20,.pointer (some ⟨b20,0,none⟩)),(21,.int .i64 (bl li[q].key l[i].key)),(70,.slice al nl b),(71,.int .i64 (nl:Int)),(72,.int .i64 (i:Int)),(107,.slice D s G),(108,.int .i64 (s:Int)),(109,.int .i64 (q:Int)),(123,.bool Dp)]) (fun Dp=>[]) (fun Dp=>(Dp=(decide (0≤bl li[q].key l[i].key) && !put))∧True) nc ?_ ?_
    ·
     refine(cG) (fun NN=>?_) (fun NN=>?_)
     ·
      refine cD ?_;exact pV (!put) ⟨nc,⟨by rw [decide_eq_true (show 0≤bl li[q].key l[i].key by simp at NN;omega)];rfl,trivial⟩⟩
     refine cD ?_;exact pV (false) ⟨nc,⟨by rw [decide_eq_false (show ¬0≤bl li[q].key l[i].key by simp at NN;omega)];rfl,trivial⟩⟩
    rintro Dp JS kG ⟨NQ,_⟩;simp only [CA,NA] at kG NQ ⊢;refine nx ?_;have kH:=kG.p2;refine WC.ko (σ:=Bool × (List cj) × (Option Addr) × Nat × Nat) [_] (fun(V,j,d,a,f)=>[(1,.slice al nl b),(2,.pointer (some ⟨b2,0,none⟩)),(4,.pointer (some ⟨b4,0,none⟩)),(10,.pointer (some ⟨N,0,none⟩)),(11,.bool true),(13,.pointer (some ⟨MP,0,none⟩)),(17,.slice d a f),(18,.bool V),(20,.pointer (some ⟨b20,0,none⟩)),(21,.int .i64 (bl li[q].key l[i].key)),(70,.slice al nl b),(71,.int .i64 (nl:Int)),(72,.int .i64 (i:Int)),(107,.slice D s G),(108,.int .i64 (s:Int)),(109,.int .i64 (q:Int))]) (fun(V,j,d,a,f)=>[As.os RR.aA 80 4 d a f (j)]) (fun(V,j,d,a,f)=>(j++(if bl li[q].key l[i].key=0 then [] else [li[q]])++eK (⟨l[i].key,l[i].value,x.ad+1⟩:cj) (li.drop (q+1)) V=eK (⟨l[i].key,l[i].value,x.ad+1⟩:cj) li false)∧True) kH ?_ ?_
    ·
     refine(aT) (fun AQ=>?_) fun AQ=>?_
     ·
      refine(jY) ak kH.b4<|(bq) fq kH.b4<|(bq) aL (bM.range (As.gb kH.g6))<|?_;refine WP .r (PV.br (us:=(⟨l[i].key,l[i].value,x.ad+1⟩:cj).cells) HJ rfl rfl rfl)<|?_;refine WL.go rfl (OX.aM (us:=(⟨l[i].key,l[i].value,x.ad+1⟩:cj).cells) Aa rfl rfl rfl rfl fun ahL Ns Tm Tn=>?_);have Q:=kH.du Tm Tn;refine WL.ap rfl rfl Q.p1 (SR.cT (A:=fun _=>True) (x:=(⟨l[i].key,l[i].value,x.ad+1⟩:cj)) (As.gb Q.g0) trivial rfl (by simp [cj.cells,Value.oneCell']) rfl) fun aaM To Ot adr ads oe=>?_;refine cq ?_;exact pV (true,acc++[(⟨l[i].key,l[i].value,x.ad+1⟩:cj)],aaM,(a+1),To) ⟨oe.p1.drop,⟨by have h2:(decide (0≤bl li[q].key l[i].key) && !put)=true:=(by rw [← NQ];simpa using AQ);have h3:(put || decide (0≤bl li[q].key l[i].key))=true:=(by revert h2;cases put <;> simp);rw [if_pos h2,h3] at De;exact De,trivial⟩⟩
     refine nx ?_;exact pV (put,acc,d,a,f) ⟨kH,⟨by have h2:(decide (0≤bl li[q].key l[i].key) && !put)=false:=(by rw [← NQ];simpa using AQ);have h3:(put || decide (0≤bl li[q].key l[i].key))=put:=(by revert h2;cases put <;> simp);rw [if_neg (by rw [h2];simp),h3,List.append_nil] at De;exact De,trivial⟩⟩
    rintro⟨V,j,d,a,f⟩ Ns Q ⟨uV,_⟩;simp only [CA,NA] at Q uV ⊢
    have adt:j.length≤li.length+1:=by have h1:=congrArg List.length uV;rw [List.length_append,List.length_append] at h1;have:=lh (⟨l[i].key,l[i].value,x.ad+1⟩:cj) li false;omega
    have adu:=((As.gs Q.g0)).len;refine(aT) (fun Gn=>?_) fun Gn=>?_
    ·
     simp at Gn
     refine(bf) ku Q.b1<|?_;refine WL.go rfl (OX.aM (us:=li[q].cells) Aa rfl rfl rfl rfl fun ahM Ot Tp Tq=>?_);have oe:=Q.du Tp Tq;refine WL.ap rfl rfl oe.p1 (SR.cT (A:=fun _=>True) (x:=li[q]) (As.gb oe.g0) trivial rfl (by simp [cj.cells,Value.oneCell']) rfl) fun a139 Tr SA adw adx sE=>?_;refine jg ?_;refine eb (q+1,V,j++[li[q]],a139,(a+1),Tr) ⟨sE.p1.drop.p1.drop.p1.drop,⟨by omega,by rw [← uV,if_neg Gn],trivial⟩⟩
    simp at Gn
    refine eX ?_;refine eb (q+1,V,j,d,a,f) ⟨Q.p1.drop.p1.drop,⟨by omega,by rw [← uV,if_pos Gn,List.append_nil],trivial⟩⟩
   simp at lW
   rw [List.drop_eq_nil_of_le (by omega)] at P;refine aQ ?_;have o:=T;refine WC.ko (σ:=(List cj) × (Option Addr) × Nat × Nat) [_] (fun(j,d,a,f)=>[(1,.slice al nl b),(2,.pointer (some ⟨b2,0,none⟩)),(4,.pointer (some ⟨b4,0,none⟩)),(10,.pointer (some ⟨N,0,none⟩)),(11,.bool true),(17,.slice d a f),(70,.slice al nl b),(71,.int .i64 (nl:Int)),(72,.int .i64 (i:Int))]) (fun(j,d,a,f)=>[As.os RR.aA 80 4 d a f (j)]) (fun(j,d,a,f)=>(j=eK (⟨l[i].key,l[i].value,x.ad+1⟩:cj) li false)∧True) o ?_ ?_
   ·
    refine(aT) (fun NR=>?_) fun NR=>?_
    ·
     refine(jY) ak o.b2<|(bq) fq o.b2<|(bq) aL o.b4<|?_;refine WP .r (PV.br (us:=(⟨l[i].key,l[i].value,x.ad+1⟩:cj).cells) HJ rfl rfl rfl)<|?_;refine WL.go rfl (OX.aM (us:=(⟨l[i].key,l[i].value,x.ad+1⟩:cj).cells) Aa rfl rfl rfl rfl fun ahN Dh Ts Tt=>?_);have z:=o.du Ts Tt;refine WL.ap rfl rfl z.p1 (SR.cT (A:=fun _=>True) (x:=(⟨l[i].key,l[i].value,x.ad+1⟩:cj)) (As.gb z.g0) trivial rfl (by simp [cj.cells,Value.oneCell']) rfl) fun a152 Tu Gz ady adz U=>?_;refine bJ ?_;exact pV (acc++[(⟨l[i].key,l[i].value,x.ad+1⟩:cj)],a152,(a+1),Tu) ⟨U.p1.drop,⟨by have hp:put=false:=(by simpa using NR);rw [hp] at P;exact P,trivial⟩⟩
    refine nx ?_;exact pV (acc,d,a,f) ⟨o,⟨by have hp:put=true:=(by simpa using NR);rw [hp] at P;exact(List.append_nil acc).symm.trans P,trivial⟩⟩
   rintro⟨j,d,a,f⟩ Dh z ⟨W,_⟩;simp only [CA,NA] at z W ⊢;refine nx ?_;have Tl:=lh (⟨l[i].key,l[i].value,x.ad+1⟩:cj) li false;have aaL:=((As.gs z.g0)).len;rw [← W] at Tl;have NS:=St.fresh z;have U:=z.dZ (by omega);have FQ:=Y.trans (dU.nA (F:=fun x=>x∈aZ d) NS) (Nat.le_refl _);have nf:=U.p5.drop;refine cq ?_;refine WL.s1 nf.p4 fun Gz _ nc=>?_;refine eX ?_;refine eb (i+1,true,j,d,a,f,_) ⟨nc.p2.drop.p2.drop.p2.drop,⟨by omega,by rw [W];exact hG.put X (by omega),by show j.length≤x.ab.length+(i+1);rw [W];have:=lh (⟨l[i].key,l[i].value,x.ad+1⟩:cj) li false;omega,fun k hk=>by rw [W,lK (hk _ (List.getElem_mem B))];exact Uu k hk,by rw [W];exact Hq Uv _ rfl,FQ,by rw [W];exact Gm.put B NL,trivial⟩⟩
  have aaK:=((As.gr n.g1)).len
  simp at SK
  refine aQ ?_;refine(aT) (fun aaN=>?_) fun aaN=>?_
  ·
   refine(bf) bu n.b3<|(dw) jl n.p6 fun qj ss7 hs7 g=>?_;refine fY ?_;refine EX.uZ rfl (RS.cell bu rfl g.b0 rfl<|RS.tmp rfl<|RS.nil) rfl<|?_;exact⟨x,_,_,_,_,_,_,_,_,rfl,rfl,Int.le_refl _,DE,hx,h7a,by omega,.refl _ _,Gm.same (by omega) (by simp_all),fun _=>rfl,(As.gr g.g6),(As.gr g.g5),Y,(St.wk g.k0)⟩
  refine(bq) jI n.b0<|(aT) (fun NT=>?_) fun NT=>?_
  ·
   refine(bf) bu n.b3<|(dw) jl n.p6 fun qj ss8 hs8 g=>?_;refine fY ?_;refine EX.uZ rfl (RS.cell bu rfl g.b0 rfl<|RS.tmp rfl<|RS.nil) rfl<|?_;exact absurd NT (by have:=hG.len;simp;omega)
  refine(bq) aL n.b0<|(aT) (fun IW=>?_) fun IW=>?_
  ·
   refine(bf) bu n.b3<|(dw) jl n.p6 fun qj ss9 Un g=>?_;refine fY ?_;refine EX.uZ rfl (RS.cell bu rfl g.b0 rfl<|RS.tmp rfl<|RS.nil) rfl<|?_;exact⟨x,_,_,_,_,_,_,_,_,rfl,rfl,Int.le_refl _,DE,hx,h7a,by omega,.refl _ _,⟨fun c _ _ h=>by(simp at IW;omega),fun _=>.inl rfl,fun _=>.inl rfl⟩,fun h=>by(simp at IW;omega),(As.gr g.g6),(As.gr g.g5),Y,(St.wk g.k0)⟩
  refine(bf) bu n.b0<|(dw) jl n.p6 fun qj ahO ahP g=>?_;refine cD ?_;refine EX.uZ rfl (RS.cell bu rfl g.b0 rfl<|RS.tmp rfl<|RS.nil) rfl<|?_;exact⟨⟨x.ad+1,li,x.ah⟩,_,_,_,_,_,_,_,_,rfl,rfl,by show x.ad≤x.ad+1;omega,by simp at IW;show x.ad+1≤_;omega,hG,by simp at NT;show li.length≤64;omega,Int.le_refl _,⟨Uu,.inr ⟨rfl,Uv⟩⟩,Gm.done (by omega),fun _=>rfl,(As.gr g.g2),(As.gr g.g3),Y,(St.wk g.k0)⟩
 -- vK i7 C49
set_option maxHeartbeats 400000
end Go.Rc

