/- Walks over the program, part WD. Conditions: as each theorem says. -/
import Derived.Test.YtjpagoacbadijaaGreatDoorJFacts
import Derived.Test.YtjpagoacbadijaaGreatDoorJWB
import Derived.Test.YtjpagoacbadijaaGreatDoorJBb
set_option linter.all false
namespace Go.Rc
open Go Go.Proofs Go.Proofs.Tryz
variable {aa:List az}{A:Nat→Prop}{a:Option Addr}{r c n:Nat}{w:World}
set_option maxHeartbeats 400000
theorem ug{i:Nat}{x:Ask}{n:Int}(hr:ee A w a r c aa) (hi:i<aa.length):CR prog 95 #[.slice a r c,.int .i64 (i:Int),x.val,.int .i64 n] w (.bool (ef aa i x.cell n)):=by
 have hle:=hr.le;have hlen:=hr.len;have g:=bA hi;refine enter func95 rfl ntmps95 rfl<|?_;have c0:aJ [] w w:=aJ.refl _ _;refine bP ?_;refine WL.go rfl (OX.box rfl rfl rfl fun l w1 h f=>?_);have s1:=h.ext;have m:=h.gW c0;have c1:=c0.trans s1;refine fZ ?_;refine WP .r (PV.fa vd rfl)<|(bp) di f.range<|(aP) (fun g12=>?_) fun g12=>?_
 ·
  refine nx ?_;refine WC.ke (t:=8) (v:=.bool (decide (0≤n) && decide (n≤15))) (fun d=>w1=d) ?_ ?_
  ·
   refine(cz) (fun g15=>?_) (fun g15=>?_)
   ·
    exact(eT) (by simp only [g15];first | rfl | simp) rfl
   exact(eT) (by simp only [g15];first | rfl | simp) rfl
  rintro _ rfl;refine(bF) ?_;exact⟨by unfold ef;rw [if_pos g12],c1⟩
 refine(cA) Pw (o4 (n:=(i:Int)) (hr.ext c1)) ?_;rintro _ w2 ⟨rfl,s2⟩;have c2:=c1.trans s2;have f:=f.ext s2;refine px ?_;obtain⟨b1,o,r1,j,_,⟨q1,p,q,rfl,_⟩,k,_⟩:=(hr.ext c2).at (ae hi);refine ct ?_;refine WP .r (PV.dM gn j rfl rfl (by omega))<|WP .r (PV.fa iA rfl)<|(bp) di k<|(aP) (fun e=>?_) fun e=>?_
 ·
  have ht:du aa i=(block aa i).1:=by unfold du;rw [g];simp at e;rw [e];rfl
  refine fZ ?_;refine WC.ke (t:=8) (v:=.bool (decide (0≤n) && decide (n<du aa i))) (fun d=>w2=d) ?_ ?_
  ·
   refine(cz) (fun b=>?_) (fun b=>?_)
   ·
    exact(eT) (by simp only [ht,b];first | rfl | simp) rfl
   exact(eT) (by simp only [ht,b];first | rfl | simp) rfl
  rintro _ rfl;refine(bF) ?_;exact⟨by unfold ef;rw [g12];rfl,c2⟩
 have ht:du aa i=(block aa i).2:=by unfold du;rw [g];simp at e;rw [e];rfl
 refine ct ?_;refine WC.ke (t:=8) (v:=.bool (decide (0≤n) && decide (n<du aa i))) (fun d=>w2=d) ?_ ?_
 ·
  refine(cz) (fun b=>?_) (fun b=>?_)
  ·
   exact(eT) (by simp only [ht,b];first | rfl | simp) rfl
  exact(eT) (by simp only [ht,b];first | rfl | simp) rfl
 rintro _ rfl;refine(bF) ?_;exact⟨by unfold ef;rw [g12];rfl,c2⟩
theorem rz{s:ByteArray} :CR prog 142 #[.string s] w (.int .i64 (bZ s:Int)):=by
 refine enter func142 rfl ntmps142 rfl<|?_;have c0:aJ [] w w:=aJ.refl _ _;refine(cA) IC (l3 (s:=s)) ?_;rintro _ w1 ⟨rfl,s1⟩;have c1:=c0.trans s1;refine cW ?_;refine WC.i7 (t:=11) (v:=.bool (decide (cP s<0) || decide (65535<cP s))) (fun d=>w1=d) ?_ ?_
 ·
  refine(cz) (fun g8=>?_) (fun g8=>?_)
  ·
   exact(bW) (by simp only [g8];first | rfl | simp) rfl
  exact(bW) (by simp only [g8];first | rfl | simp) rfl
 rintro _ rfl;refine(aP) (fun g11=>?_) fun g11=>?_
 ·
  simp at g11
  have b:bZ s=0:=by unfold bZ;rw [if_pos g11]
  refine(bF) ?_;rw [b];exact⟨rfl,c1⟩
 simp at g11
 have b:(bZ s:Int)=cP s:=by unfold bZ;rw [if_neg (by omega)];omega
 refine(bF) ?_;rw [b];exact⟨rfl,c1⟩
theorem xG{l:List ByteArray}{ring:Bool}{a1:Option Addr}{n1 e1:Nat}{fin:Int}{d:Nat}(hl:Strs A w a r c l) (hc:d≤65535) (J:r≤1000):CR prog 141 #[.agg #[.bool ring,.slice a1 n1 e1,.int .i64 fin,.int .i64 (d:Int)],.slice a r c] w (.int .i64 (cO fin d (l.map bZ):Int)):=by
 have hlen:=hl.len
 have k:∀x∈l.map bZ,x≤65535:=fun x o=>by obtain⟨s,_,rfl⟩:=List.mem_map.1 o;exact iM s
 have p:∀i,∀x∈(l.map bZ).take i,x≤65535:=fun i x o=>k x (List.mem_of_mem_take o);refine enter func141 rfl ntmps141 rfl<|?_;have c0:aJ [] w w:=aJ.refl _ _;refine bP ?_;refine WL.go rfl (OX.box rfl rfl rfl fun b2 w1 u b=>?_);have s1:=u.ext;have K:=u.gW c0;have c1:=c0.trans s1;refine cB ?_;refine WC.drawn (m:=8) (C:=aJ [] w1) (T:=fun _=>aJ []) (E:=bS []) (aU (trivial)) mixed (by kernel_rfl) (aJ.drew _ _)<|?_;refine DP .r (fun _ e=>PV.fa jd rfl)<|DP .r (fun _ e=>PV.ld1 aK (b.ext e).range rfl rfl)<|DP .r (fun _ e=>PV.fa jd rfl)<|DP .r (fun _ e=>PV.ld1 aK (b.ext e).range rfl rfl)<|DP .r (fun _ e=>PV.fa jd rfl)<|DP .r (fun _ e=>PV.ld1 aK (b.ext e).range rfl rfl)<|(cy) ?_;rintro w2 s2 _;have c2:=c1.trans s2;have b:=b.ext s2;refine eL ?_;refine WP .r (PV.fV lY rfl)<|cB ?_;refine WC.loop (σ:=Nat) (cT:=fun i=>[(2,.pointer (some ⟨b2,0,none⟩)),(5,.int .i64 (pq d ((l.map bZ).take i):Int)),(6,.int .i64 (oK d ((l.map bZ).take i):Int)),(7,.int .i64 (dN d ((l.map bZ).take i):Int)),(17,.slice a r c),(18,.int .i64 (r:Int)),(19,.int .i64 (i:Int))]) (I:=fun i w'=>aJ [] w w'∧bN w' b2 59 [.bool ring,.slice a1 n1 e1,.int .i64 fin,.int .i64 (d:Int)]∧i≤r) (μ:=fun i=>r - i) 0 Sub.t ⟨c2,b,by omega⟩ ?_;rintro i w3 ⟨c3,b,hi⟩;refine(aP) (fun g20=>?_) fun g20=>?_
 ·
  simp at g20
  have y:i<l.length:=by omega
  have q:i<(l.map bZ).length:=by simp;omega
  have z:=pP (c:=d) (p i);have B:=kG hc (p i);have D:=js hc (p i);have L:=iM l[i]
  have M:((l.map bZ).take i).length≤1000:=by rw [List.length_take];omega
  refine cW ?_;obtain⟨b1,N,r1,F,_,rfl,G,_⟩:=(hl.ext c3).at (ae y);refine nx ?_;refine WP .r (PV.dM lY F rfl rfl (by omega))<|WP .r (PV.kc eV G rfl rfl)<|(cA) IE (rz (s:=l[i])) ?_;rintro _ w4 ⟨rfl,v⟩;have c4:=c3.trans v;have b:=b.ext v;refine px ?_;refine WP .r (PV.Dy rfl rfl)<|bP ?_;refine WP .r (PV.Z0 rfl rfl (by omega) (by omega))<|mo ?_;refine EX.again (i+1) (Sub.cons rfl<|Sub.gM rfl (by rw [tr q,List.getElem_map];omega)<|Sub.gM rfl (by rw [qj q,List.getElem_map];omega)<|Sub.gM rfl (by rw [qk q,List.getElem_map])<|Sub.k2 rfl rfl<|Sub.gM rfl (by simp)<|Sub.nil) ⟨c4,b,by omega⟩ (by omega)
 simp at g20
 have H:(l.map bZ).take i=l.map bZ:=List.take_of_length_le (by simp;omega);rw [H];have z:=pP (c:=d) k;have B:=kG hc k;have D:=js hc k
 have O:(l.map bZ).length≤1000:=by rw [List.length_map];omega
 refine jx ?_;refine WP .r (PV.fa mD rfl)<|(bp) aK b.range<|(aP) (fun f=>?_) fun f=>?_
 ·
  simp at f
  refine ct ?_;refine WP .r (PV.rem rfl rfl (by omega))<|(bF) ?_;exact⟨by unfold cO;rw [if_pos f,Int.tmod_eq_emod_of_nonneg (by omega)];rfl,c3⟩
 simp at f
 refine(aP) (fun g=>?_) fun g=>?_
 ·
  simp at g
  refine ct ?_;refine WP .r (PV.quo rfl rfl (by omega) (by rw [Int.tdiv_eq_ediv_of_nonneg (by omega)];omega) (by rw [Int.tdiv_eq_ediv_of_nonneg (by omega)];omega))<|WP .r (PV.rem rfl rfl (by omega))<|(bF) ?_;exact⟨by unfold cO;rw [if_neg f,if_pos g,Int.tdiv_eq_ediv_of_nonneg (by omega),Int.tmod_eq_emod_of_nonneg (by omega)];rfl,c3⟩
 simp at g
 refine(aP) (fun h=>?_) fun h=>?_
 ·
  simp at h
  refine(bF) ?_;exact⟨by unfold cO;rw [if_neg f,if_neg g,if_pos h],c3⟩
 simp at h
 refine(aP) (fun j=>?_) fun j=>?_
 ·
  simp at j
  refine ct ?_;refine WP .r (PV.rem rfl rfl (by omega))<|(bF) ?_;exact⟨by unfold cO;rw [if_neg f,if_neg g,if_neg h,if_pos j,Int.tmod_eq_emod_of_nonneg (by omega)];rfl,c3⟩
 simp at j
 refine(bF) ?_;exact⟨by unfold cO;rw [if_neg f,if_neg g,if_neg h,if_neg j],c3⟩
theorem zT{k:Key}{ai:List ByteArray}{B C:Nat→Prop}{a2:Option Addr}{r2 e2:Nat}(ht:jM prog A w) (hr:ee B w a r c aa) (hl:Strs C w a2 r2 e2 ai) (hb:∀x∈aa,0≤x.c∧x.c≤65535∧x.asks.length≤1000):CR prog 108 #[.slice a r c,k.val,.slice a2 r2 e2] w ((cm aa k ai).val):=by
 have hle:=hr.le;have hlen:=hr.len;have rA:=hl.len;refine enter func108 rfl ntmps108 rfl<|?_;have c0:aJ [] w w:=aJ.refl _ _;refine bP ?_;refine WL.go rfl (OX.box rfl rfl rfl fun b4 w1 E0 d=>?_);have s1:=E0.ext;have rB:=E0.gW c0;have c1:=c0.trans s1;refine WL.go rfl (OX.alloc o0 rfl fun L w2 BA b=>?_);have s2:=BA.ext;have M:=BA.gW c1;have I:b4≠L:=BA.ne d.lt;have zU:L≠b4:=Ne.symm I;have c2:=c1.trans s2;have d:=d.ext s2;refine(bj) ak d.range<|(cA) HH (ib (k:=k)) ?_;rintro _ w3 ⟨rfl,s3⟩;have c3:=c2.trans s3;have d:=d.ext s3;have b:=b.ext s3;refine cW ?_;refine WC.i7 (t:=28) (v:=.bool (decide (number k<0) || (decide ((r:Int)≤number k) || decide (aH aa (number k)≠k)))) (aJ [] w3) ?_<|?_
 ·
  refine WC.drawn (m:=13) (C:=aJ [] w3) (T:=fun _=>aJ []) (E:=bS [(11,fun v _=>v=(aH aa (number k)).val)]) (aU (⟨fun _ _ _ _ _ _ _ h=>h,trivial⟩)) mixed (by kernel_rfl) (aJ.drew _ _)<|(lP) (fun g16=>?_) (fun g16=>?_)
  ·
   refine(cy) ?_;rintro w4 u _;have c4:=c3.trans u;have d:=d.ext u;have b:=b.ext u;exact(bW) (by simp only [g16];first | rfl | simp) u
  refine bP ?_;refine DP .r (fun _ D=>PV.fV gn rfl)<|(lP) (fun g22=>?_) (fun g22=>?_)
  ·
   refine(cy) ?_;rintro w4 u _;have c4:=c3.trans u;have d:=d.ext u;have b:=b.ext u;exact(bW) (by simp only [g16,g22];first | rfl | simp) u
  refine bP ?_;refine DW.e rfl rfl rfl rfl rfl (fun wx D hF=>OX.call sw rfl rfl ((ff (n:=number k) (hr.ext (c3.trans D))).mono ?_))<|?_
  ·
   rintro _ wy ⟨rfl,hy⟩;exact⟨_,rfl,D.trans hy,hy,_,rfl,rfl⟩
  rintro _ wz _ rfl;refine DP .r (fun _ D=>PV.BI ak (d.ext D).range rfl rfl)<|(cy)<|?_;rintro w4 u _;have c4:=c3.trans u;have d:=d.ext u;have b:=b.ext u;refine WP .r (PV.FX ek (p:=aH aa (number k)) (q:=k) rfl rfl)<|?_;exact(bW) (by simp only [g16,g22];first | rfl | simp) u
 intro w4 u;have c4:=c3.trans u;have d:=d.ext u;have b:=b.ext u;refine(aP) (fun R=>?_) fun R=>?_
 ·
  simp at R
  have z:=DB (ai:=ai) (show number k<0∨(aa.length:Int)≤number k∨aH aa (number k)≠k by rw [← hlen];exact R);refine bP ?_;refine WP .r (PV.aY (us:=[.bool true,.string ⟨#[]⟩,.int .i64 0,.string ⟨#[]⟩]) kj rfl rfl rfl)<|?_;refine WL.go rfl (OX.kB fe b rfl rfl rfl rfl rfl fun w5 N _ b=>?_);have c5:=c4.own N M;have d:=d.bR N (by simp [I]);refine(jm) gh b.range<|?_;rw [z];exact⟨rfl,c5⟩
 simp at R
 obtain⟨g1,g2,g3⟩:=R;obtain⟨i,FY⟩:∃i:Nat,number k=i:=⟨(number k).toNat,by omega⟩
 have hi:i<aa.length:=by omega
 obtain⟨F3,E1,vh⟩:=hb _ (List.getElem_mem hi);obtain⟨S,QH⟩:∃S:Nat,aa[i].c=S:=⟨aa[i].c.toNat,by omega⟩;refine ct ?_;obtain⟨Ta,Tb,Tc,zV,_,⟨q1,q2,q3,rfl,xH⟩,Z,_⟩:=hr.at (ae hi);have Z:=aR Z c4 (by simp);rw [QH] at Z;have vi:=xH.len;refine ct ?_;refine WP .r (PV.CZ gn (i) zV rfl rfl (by omega) (by omega))<|(bj) ua Z<|nx ?_;refine WP .r (PV.fV lY rfl)<|?_;refine WL.go rfl (OX.alloc He rfl fun O w5 Lk f=>?_);have N:=Lk.ext;have Ll:=Lk.gW c4;have rC:b4≠O:=Lk.ne d.lt;have zW:O≠b4:=Ne.symm rC;have rD:L≠O:=Lk.ne b.lt;have U:O≠L:=Ne.symm rD;have c5:=c4.trans N;have d:=d.ext N;have b:=b.ext N;refine WL.go rfl (OX.kB zJ f rfl rfl rfl rfl rfl fun w6 s6 _ f=>?_);have V:=c5.own s6 Ll;have d:=d.bR s6 (by simp [rC]);have b:=b.bR s6 (by simp [rD]);refine eL ?_;refine WP .r (PV.fa ou rfl)<|(bp) iT f.range<|?_;refine WP .r (PV.fV su rfl)<|(aP) (fun VX=>?_) fun VX=>?_
 ·
  simp at VX
  have z:=jt (ai:=ai) FY hi g3 (by omega);rw [← vi,QH,Int.toNat_natCast] at z;have hfl:=lk (kind:=aa[i].final) (c:=S) (l:=(ai.take q2).map bZ) (by omega) (fun x hx=>by obtain⟨s,_,rfl⟩:=List.mem_map.1 hx;exact iM s);refine nx ?_;refine WC.drawn (m:=6) (C:=aJ [] w6) (T:=fun _=>aJ []) (E:=bS []) (aU (trivial)) mixed (by kernel_rfl) (aJ.drew _ _)<|?_;refine DP .r (fun _ D=>PV.BI ua (f.ext D).range rfl rfl)<|nx ?_;refine DP .r (fun _ D=>PV.fa ou rfl)<|DP .r (fun _ D=>PV.ld1 iT (f.ext D).range rfl rfl)<|DP .r (fun _ D=>PV.fV su rfl)<|DP .r (fun _ D=>PV.yU lY (hl.ext (V.trans D)) rfl rfl (by omega))<|(cy)<|?_;rintro w7 F _;have c7:=V.trans F;have d:=d.ext F;have b:=b.ext F;have f:=f.ext F;refine(cA) P9 (xG (SR.take (hl.ext c7) (by omega)) (show S≤65535 by omega) (by omega)) ?_;rintro _ w8 ⟨rfl,G⟩;have P:=c7.trans G;have d:=d.ext G;have b:=b.ext G;have f:=f.ext G;refine(cA) HE (j7 (ht.ext P) (by omega) (by omega)) ?_;rintro _ w9 ⟨rfl,y⟩;have c9:=P.trans y;have d:=d.ext y;have b:=b.ext y;have f:=f.ext y;refine WP .r (PV.aY (us:=[.bool true,.string (itoa ((cO aa[i].final S ((ai.take q2).map bZ)):Int)),.int .i64 0,.string ⟨#[]⟩]) kj rfl rfl rfl)<|?_;refine WL.go rfl (OX.kB fe b rfl rfl rfl rfl rfl fun kl g _ b=>?_);have H:=c9.own g M;have d:=d.bR g (by simp [I]);have f:=f.bR g (by simp [U]);refine(jm) gh b.range<|?_;rw [z];exact⟨rfl,H⟩
 simp at VX
 have hn:r2<aa[i].asks.length:=by omega
 have z:=ju (ai:=ai) FY hi g3 (by omega);simp only [← rA] at z;refine ct ?_;obtain⟨VY,VZ,V0,BB,_,rfl,Td,_⟩:=(xH.ext V).at (ae hn);refine nx ?_;refine WP .r (PV.fa ou rfl)<|(bp) iT f.range<|nx ?_;refine WP .r (PV.dM su BB rfl rfl (by omega))<|(bj) lX Td<|?_;refine WL.go rfl (OX.alloc KW rfl fun Q w7 W j=>?_);have F:=W.ext;have vj:=W.gW V;have o5:b4≠Q:=W.ne d.lt;have xI:Q≠b4:=Ne.symm o5;have o6:L≠Q:=W.ne b.lt;have iU:Q≠L:=Ne.symm o6;have o7:O≠Q:=W.ne f.lt;have IL:Q≠O:=Ne.symm o7;have c7:=V.trans F;have d:=d.ext F;have b:=b.ext F;have f:=f.ext F;refine WL.go rfl (OX.kB zK j rfl rfl rfl rfl rfl fun w8 G _ j=>?_);have P:=c7.own G vj;have d:=d.bR G (by simp [o5]);have b:=b.bR G (by simp [o6]);have f:=f.bR G (by simp [o7]);refine cB ?_;refine WP .r (PV.fa zP rfl)<|(bp) aK j.range<|cW ?_;refine WC.i7 (t:=72) (v:=.bool (dR aa[i].asks[r2] ai)) (aJ [] w8) ?_<|?_
 ·
  refine nx ?_;refine WP .r (PV.fa rk rfl)<|(bp) di j.range<|(cz) (fun Te=>?_) (fun Te=>?_)
  ·
   refine(cz) (fun Tf=>?_) (fun Tf=>?_)
   ·
    have X:dR aa[i].asks[r2] ai=true:=by unfold dR;rw [Te,← rA];simp at Tf;simp [Tf]
    exact(bW) (by rw [X]) (aJ.refl _ _)
   simp at Tf
   obtain⟨bx3,ox3,rx3,QI,_,rfl,hr3,_⟩:=(hl.ext P).at (ae (show r2 - 1<ai.length by omega))
   have X:dR aa[i].asks[r2] ai=decide ((bZ ai[r2 - 1]:Int).tmod 2=0):=by
    unfold dR
    simp only [Te,← rA,Bool.true_and];rw [decide_eq_false (by omega),Bool.false_or,getElem!_pos ai (r2 - 1) (by omega),Int.tmod_eq_emod_of_nonneg (by omega)]
    congr 1
    exact propext ⟨fun h=>by omega,fun h=>by omega⟩
   refine ct ?_;refine WP .r (PV.CZ lY (r2 - 1) QI rfl rfl (by omega) (by omega))<|WP .r (PV.kc eV hr3 rfl rfl)<|(cA) IE (rz (s:=ai[r2 - 1])) ?_;rintro _ w9 ⟨rfl,y⟩;have c9:=P.trans y;have d:=d.ext y;have b:=b.ext y;have f:=f.ext y;have j:=j.ext y;refine WP .r (PV.rem rfl rfl (by omega))<|?_;exact(bW) (by rw [X]) y
  have X:dR aa[i].asks[r2] ai=false:=by unfold dR;rw [Te];rfl
  refine aN ?_;exact(bW) (by rw [X]) (aJ.refl _ _)
 intro w9 y;have c9:=P.trans y;have d:=d.ext y;have b:=b.ext y;have f:=f.ext y;have j:=j.ext y;refine(aP) (fun V2=>?_) fun V2=>?_
 ·
  have Y:mi aa[i].asks[r2] ai=aa[i].asks[r2].yP:=by unfold mi;rw [if_pos V2]
  refine nx ?_;refine WP .r (PV.fa rp rfl)<|(bp) aK j.range<|fZ ?_;refine WP .r (PV.fa vd rfl)<|(bp) di j.range<|(aP) (fun J=>?_) fun J=>?_
  ·
   rw [Y,if_pos J] at z;refine(cA) Cv (gI) ?_;rintro _ kl ⟨rfl,g⟩;have H:=c9.trans g;have d:=d.ext g;have b:=b.ext g;have f:=f.ext g;have j:=j.ext g;refine WP .r (PV.aY (us:=[.bool false,.string ⟨#[]⟩,.int .i64 (bB _).kind,.string (bB _).text]) kj rfl rfl rfl)<|?_;refine WL.go rfl (OX.kB fe b rfl rfl rfl rfl rfl fun lB o _ b=>?_);have K:=H.own o M;have d:=d.bR o (by simp [I]);have f:=f.bR o (by simp [U]);have j:=j.bR o (by simp [iU]);refine(jm) gh b.range<|?_;rw [z];exact⟨rfl,K⟩
  rw [Y,if_neg (by simp [J])] at z;refine(cA) sw (ff (hr.ext c9)) ?_;rintro _ kl ⟨rfl,g⟩;have H:=c9.trans g;have d:=d.ext g;have b:=b.ext g;have f:=f.ext g;have j:=j.ext g;refine WP .r (PV.aY (us:=[.bool false,.string ⟨#[]⟩,.int .i64 (aH aa _).kind,.string (aH aa _).text]) kj rfl rfl rfl)<|?_;refine WL.go rfl (OX.kB fe b rfl rfl rfl rfl rfl fun lB o _ b=>?_);have K:=H.own o M;have d:=d.bR o (by simp [I]);have f:=f.bR o (by simp [U]);have j:=j.bR o (by simp [iU]);refine(jm) gh b.range<|?_;rw [z];exact⟨rfl,K⟩
 have Y:mi aa[i].asks[r2] ai=aa[i].asks[r2].n:=by unfold mi;rw [if_neg (by simp [V2])]
 refine cW ?_;refine WP .r (PV.fa vd rfl)<|(bp) di j.range<|(aP) (fun J=>?_) fun J=>?_
 ·
  rw [Y,if_pos J] at z;refine(cA) Cv (gI) ?_;rintro _ kl ⟨rfl,g⟩;have H:=c9.trans g;have d:=d.ext g;have b:=b.ext g;have f:=f.ext g;have j:=j.ext g;refine WP .r (PV.aY (us:=[.bool false,.string ⟨#[]⟩,.int .i64 (bB _).kind,.string (bB _).text]) kj rfl rfl rfl)<|?_;refine WL.go rfl (OX.kB fe b rfl rfl rfl rfl rfl fun lB o _ b=>?_);have K:=H.own o M;have d:=d.bR o (by simp [I]);have f:=f.bR o (by simp [U]);have j:=j.bR o (by simp [iU]);refine(jm) gh b.range<|?_;rw [z];exact⟨rfl,K⟩
 rw [Y,if_neg (by simp [J])] at z;refine(cA) sw (ff (hr.ext c9)) ?_;rintro _ kl ⟨rfl,g⟩;have H:=c9.trans g;have d:=d.ext g;have b:=b.ext g;have f:=f.ext g;have j:=j.ext g;refine WP .r (PV.aY (us:=[.bool false,.string ⟨#[]⟩,.int .i64 (aH aa _).kind,.string (aH aa _).text]) kj rfl rfl rfl)<|?_;refine WL.go rfl (OX.kB fe b rfl rfl rfl rfl rfl fun lB o _ b=>?_);have K:=H.own o M;have d:=d.bR o (by simp [I]);have f:=f.bR o (by simp [U]);have j:=j.bR o (by simp [iU]);refine(jm) gh b.range<|?_;rw [z];exact⟨rfl,K⟩
theorem o8(hr:ee A w a r c aa):Calls prog 62 #[.slice a r c] w fun e w'=>∃b:Bool,e=.returned (.bool b)∧(b=true↔ao aa)∧aJ [] w w':=by
 have hle:=hr.le;have hlen:=hr.len;refine enter func62 rfl ntmps62 rfl<|?_;have c0:aJ [] w w:=aJ.refl _ _;refine px ?_;refine WP .r (PV.fV gn rfl)<|cB ?_;refine WC.loop (σ:=Nat) (cT:=fun i=>[(0,.slice a r c),(7,.slice a r c),(8,.int .i64 (r:Int)),(9,.int .i64 (i:Int))]) (I:=fun i w'=>aJ [] w w'∧i≤r∧∀j x,j<i→aa[j]?=some x→jR aa j x) (μ:=fun i=>r - i) 0 Sub.t ⟨c0,by omega,fun j x h=>by omega⟩ ?_;rintro i w1 ⟨c1,hi,U⟩;refine(aP) (fun g10=>?_) fun g10=>?_
 ·
  simp at g10
  have G:i<aa.length:=by omega
  obtain⟨Ta,Tb,Tc,zV,_,⟨q1,J,V,rfl,P⟩,Q,_⟩:=hr.at (ae G);have vi:=P.len;have hq:=P.le;refine cW ?_;have Q:=aR Q c1 (by simp);refine bP ?_;refine WP .r (PV.dM gn zV rfl rfl (by omega))<|(bj) ua Q<|?_;refine WL.go rfl (OX.alloc He rfl fun b4 w2 W q=>?_);have s2:=W.ext;have rB:=W.gW c1;have c2:=c1.trans s2;refine nx ?_;refine WL.go rfl (OX.kB zJ q rfl rfl rfl rfl rfl fun w3 s3 _ q=>?_);have c3:=c2.own s3 rB;refine cW ?_;refine WP .r (PV.fa ou rfl)<|(bp) iT q.range<|?_;refine WP .r (PV.fV su rfl)<|(aP) (fun g17=>?_) fun g17=>?_
  ·
   simp at g17
   refine(bF) ?_;exact⟨false,rfl,⟨fun h=>(by cases h),fun h=>absurd (h.2 i _ (ae G)).1 (by omega)⟩,c3⟩
  simp at g17
  refine cW ?_;refine WP .r (PV.fa ou rfl)<|(bp) iT q.range<|?_;refine WP .r (PV.fV su rfl)<|cB ?_;refine WC.loop (σ:=Nat) (cT:=fun k=>[(0,.slice a r c),(7,.slice a r c),(8,.int .i64 (r:Int)),(9,.int .i64 (i:Int)),(3,.int .i64 (i:Int)),(4,.pointer (some ⟨b4,0,none⟩)),(19,.slice q1 J V),(20,.int .i64 (J:Int)),(21,.int .i64 (k:Int))]) (I:=fun k w'=>aJ [] w w'∧bN w' b4 59 [.bool aa[i].ring,.slice q1 J V,.int .i64 aa[i].final,.int .i64 aa[i].c]∧k≤J∧∀j x,j<k→aa[i].asks[j]?=some x→dF aa i aa[i].ring j x=true) (μ:=fun k=>J - k) 0 Sub.t ⟨c3,q,by omega,fun j x h=>by omega⟩ ?_;rintro k w4 ⟨c4,q,hk,O⟩;refine(aP) (fun g22=>?_) fun g22=>?_
  ·
   simp at g22
   have R:k<aa[i].asks.length:=by omega
   obtain⟨VY,VZ,V0,BB,_,rfl,Td,_⟩:=(P.ext c4).at (ae R);refine eL ?_;refine WP .r (PV.dM su BB rfl rfl (by omega))<|(bj) lX Td<|?_;refine WL.go rfl (OX.alloc KW rfl fun X w5 S D=>?_);have Y:=S.ext;have zX:=S.gW c4;have Z:b4≠X:=S.ne q.lt;have zU:X≠b4:=Ne.symm Z;have c5:=c4.trans Y;have q:=q.ext Y;refine nx ?_;refine WL.go rfl (OX.kB zK D rfl rfl rfl rfl rfl fun w6 s6 _ D=>?_);have T:=c5.own s6 zX;have q:=q.bR s6 (by simp [Z]);refine ct ?_;refine WC.i7 (t:=63) (v:=.bool (!dF aa i aa[i].ring k aa[i].asks[k])) (aJ [] w6) ?_<|?_
   ·
    refine(bj) lX D.range<|?_;refine WP .r (PV.fa zP rfl)<|(bp) aK D.range<|(cA) PD (ug (x:=aa[i].asks[k]) (n:=aa[i].asks[k].n) (hr.ext T) G) ?_;rintro _ w7 ⟨rfl,F⟩;have K:=T.trans F;have q:=q.ext F;have D:=D.ext F;refine(cz) (fun l=>?_) (fun l=>?_)
    ·
     refine aN ?_;refine aN ?_;exact(bW) (by unfold dF;simp at l;first | (simp [l];done) | (exfalso;simp_all;done) | (simp_all;done) | (simp [l];rw [Bool.eq_iff_iff];simp;done) | (simp [l];rw [Bool.eq_iff_iff];simp;omega) | (simp [l];omega) | (simp_all;omega)) F
    refine WP .r (PV.fa rk rfl)<|(bp) di D.range<|(cz) (fun o=>?_) (fun o=>?_)
    ·
     refine WP .r (PV.fa iA rfl)<|(bp) di q.range<|(cz) (fun y=>?_) (fun y=>?_)
     ·
      refine aN ?_;refine aN ?_;exact(bW) (by unfold dF;simp at l o y;first | (simp [l,o,y];done) | (exfalso;simp_all;done) | (simp_all;done) | (simp [l,o,y];rw [Bool.eq_iff_iff];simp;done) | (simp [l,o,y];rw [Bool.eq_iff_iff];simp;omega) | (simp [l,o,y];omega) | (simp_all;omega)) F
     refine(cz) (fun C=>?_) (fun C=>?_)
     ·
      refine aN ?_;exact(bW) (by unfold dF;simp at l o y C;first | (simp [l,o,y,C];done) | (exfalso;simp_all;done) | (simp_all;done) | (simp [l,o,y,C];rw [Bool.eq_iff_iff];simp;done) | (simp [l,o,y,C];rw [Bool.eq_iff_iff];simp;omega) | (simp [l,o,y,C];omega) | (simp_all;omega)) F
     refine(bj) lX D.range<|?_;refine WP .r (PV.fa rp rfl)<|(bp) aK D.range<|(cA) PD (ug (x:=aa[i].asks[k]) (n:=aa[i].asks[k].yP) (hr.ext K) G) ?_;rintro _ w8 ⟨rfl,H⟩;have c8:=K.trans H;have q:=q.ext H;have D:=D.ext H;refine(cz) (fun E=>?_) (fun E=>?_)
     ·
      exact(bW) (by unfold dF;simp at l o y C E;first | (simp [l,o,y,C,E];done) | (exfalso;simp_all;done) | (simp_all;done) | (simp [l,o,y,C,E];rw [Bool.eq_iff_iff];simp;done) | (simp [l,o,y,C,E];rw [Bool.eq_iff_iff];simp;omega) | (simp [l,o,y,C,E];omega) | (simp_all;omega)) (F.trans H)
     refine WP .r (PV.fa rk rfl)<|(bp) di D.range<|(cz) (fun z=>?_) (fun z=>?_)
     ·
      refine WP .r (PV.fa rp rfl)<|(bp) aK D.range<|?_;exact(bW) (by unfold dF;simp at l o y C E z;first | (simp [l,o,y,C,E,z];done) | (exfalso;simp_all;done) | (simp_all;done) | (simp [l,o,y,C,E,z];rw [Bool.eq_iff_iff];simp;done) | (simp [l,o,y,C,E,z];rw [Bool.eq_iff_iff];simp;omega) | (simp [l,o,y,C,E,z];omega) | (simp_all;omega)) (F.trans H)
     exact(bW) (by unfold dF;simp at l o y C E z;first | (simp [l,o,y,C,E,z];done) | (exfalso;simp_all;done) | (simp_all;done) | (simp [l,o,y,C,E,z];rw [Bool.eq_iff_iff];simp;done) | (simp [l,o,y,C,E,z];rw [Bool.eq_iff_iff];simp;omega) | (simp [l,o,y,C,E,z];omega) | (simp_all;omega)) (F.trans H)
    refine aN ?_;refine fZ ?_;refine WP .r (PV.fa rk rfl)<|(bp) di D.range<|(cz) (fun z=>?_) (fun z=>?_)
    ·
     refine WP .r (PV.fa rp rfl)<|(bp) aK D.range<|?_;exact(bW) (by unfold dF;simp at l o z;first | (simp [l,o,z];done) | (exfalso;simp_all;done) | (simp_all;done) | (simp [l,o,z];rw [Bool.eq_iff_iff];simp;done) | (simp [l,o,z];rw [Bool.eq_iff_iff];simp;omega) | (simp [l,o,z];omega) | (simp_all;omega)) F
    exact(bW) (by unfold dF;simp at l o z;first | (simp [l,o,z];done) | (exfalso;simp_all;done) | (simp_all;done) | (simp [l,o,z];rw [Bool.eq_iff_iff];simp;done) | (simp [l,o,z];rw [Bool.eq_iff_iff];simp;omega) | (simp [l,o,z];omega) | (simp_all;omega)) F
   intro w7 F;have K:=T.trans F;have q:=q.ext F;have D:=D.ext F;refine(aP) (fun L=>?_) fun L=>?_
   ·
    simp at L
    refine aN ?_;refine(bF) ?_;exact⟨false,rfl,⟨fun h=>(by cases h),fun h=>absurd ((h.2 i _ (ae G)).2.1 k _ (ae R)) (by simp [L])⟩,K⟩
   simp at L
   refine eL ?_;refine EX.again (k+1) (Sub.k4 rfl rfl rfl rfl<|Sub.k4 rfl rfl rfl rfl<|Sub.gM rfl (by simp)<|Sub.nil) ⟨K,q,by omega,cn R O L⟩ (by omega)
  simp at g22
  have O:∀j x,aa[i].asks[j]?=some x→dF aa i aa[i].ring j x=true:=fun j x M=>O j x (by have:=(List.getElem?_eq_some_iff.1 M).1;omega) M;refine fZ ?_;refine WC.i7 (t:=106) (v:=.bool (!fq aa[i])) (fun wx=>w4=wx) ?_ ?_
  ·
   refine nx ?_;refine WP .r (PV.fa iA rfl)<|(bp) di q.range<|(cz) (fun d=>?_) (fun d=>?_)
   ·
    refine WP .r (PV.fa mD rfl)<|(bp) aK q.range<|(cz) (fun m=>?_) (fun m=>?_)
    ·
     refine aN ?_;refine aN ?_;exact(bW) (by unfold fq;simp at d m;first | (simp [d,m];done) | (exfalso;simp_all;done) | (simp_all;done) | (simp [d,m];rw [Bool.eq_iff_iff];simp;done) | (simp [d,m];rw [Bool.eq_iff_iff];simp;omega) | (simp [d,m];omega) | (simp_all;omega)) rfl
    refine WP .r (PV.fa jd rfl)<|(bp) aK q.range<|(cz) (fun p=>?_) (fun p=>?_)
    ·
     refine aN ?_;refine aN ?_;exact(bW) (by unfold fq;simp at d m p;first | (simp [d,m,p];done) | (exfalso;simp_all;done) | (simp_all;done) | (simp [d,m,p];rw [Bool.eq_iff_iff];simp;done) | (simp [d,m,p];rw [Bool.eq_iff_iff];simp;omega) | (simp [d,m,p];omega) | (simp_all;omega)) rfl
    refine WP .r (PV.fa jd rfl)<|(bp) aK q.range<|(cz) (fun u=>?_) (fun u=>?_)
    ·
     refine aN ?_;refine aN ?_;exact(bW) (by unfold fq;simp at d m p u;first | (simp [d,m,p,u];done) | (exfalso;simp_all;done) | (simp_all;done) | (simp [d,m,p,u];rw [Bool.eq_iff_iff];simp;done) | (simp [d,m,p,u];rw [Bool.eq_iff_iff];simp;omega) | (simp [d,m,p,u];omega) | (simp_all;omega)) rfl
    refine WP .r (PV.fa iA rfl)<|(bp) di q.range<|(cz) (fun f=>?_) (fun f=>?_)
    ·
     refine WP .r (PV.fa mD rfl)<|(bp) aK q.range<|(cz) (fun g=>?_) (fun g=>?_)
     ·
      refine aN ?_;exact(bW) (by unfold fq;simp at d m p u f g;first | (simp [d,m,p,u,f,g];done) | (exfalso;simp_all;done) | (simp_all;done) | (simp [d,m,p,u,f,g];rw [Bool.eq_iff_iff];simp;done) | (simp [d,m,p,u,f,g];rw [Bool.eq_iff_iff];simp;omega) | (simp [d,m,p,u,f,g];omega) | (simp_all;omega)) rfl
     refine WP .r (PV.fa mD rfl)<|(bp) aK q.range<|(cz) (fun s=>?_) (fun s=>?_)
     ·
      exact(bW) (by unfold fq;simp at d m p u f g s;first | (simp [d,m,p,u,f,g,s];done) | (exfalso;simp_all;done) | (simp_all;done) | (simp [d,m,p,u,f,g,s];rw [Bool.eq_iff_iff];simp;done) | (simp [d,m,p,u,f,g,s];rw [Bool.eq_iff_iff];simp;omega) | (simp [d,m,p,u,f,g,s];omega) | (simp_all;omega)) rfl
     refine WP .r (PV.fa jd rfl)<|(bp) aK q.range<|(cz) (fun B=>?_) (fun B=>?_)
     ·
      exact(bW) (by unfold fq;simp at d m p u f g s B;first | (simp [d,m,p,u,f,g,s,B];done) | (exfalso;simp_all;done) | (simp_all;done) | (simp [d,m,p,u,f,g,s,B];rw [Bool.eq_iff_iff];simp;done) | (simp [d,m,p,u,f,g,s,B];rw [Bool.eq_iff_iff];simp;omega) | (simp [d,m,p,u,f,g,s,B];omega) | (simp_all;omega)) rfl
     refine WP .r (PV.fa jd rfl)<|(bp) aK q.range<|?_;exact(bW) (by unfold fq;simp at d m p u f g s B;first | (simp [d,m,p,u,f,g,s,B];done) | (exfalso;simp_all;done) | (simp_all;done) | (simp [d,m,p,u,f,g,s,B];rw [Bool.eq_iff_iff];simp;done) | (simp [d,m,p,u,f,g,s,B];rw [Bool.eq_iff_iff];simp;omega) | (simp [d,m,p,u,f,g,s,B];omega) | (simp_all;omega)) rfl
    refine aN ?_;exact(bW) (by unfold fq;simp at d m p u f;first | (simp [d,m,p,u,f];done) | (exfalso;simp_all;done) | (simp_all;done) | (simp [d,m,p,u,f];rw [Bool.eq_iff_iff];simp;done) | (simp [d,m,p,u,f];rw [Bool.eq_iff_iff];simp;omega) | (simp [d,m,p,u,f];omega) | (simp_all;omega)) rfl
   refine aN ?_;refine ct ?_;refine WP .r (PV.fa iA rfl)<|(bp) di q.range<|(cz) (fun f=>?_) (fun f=>?_)
   ·
    refine WP .r (PV.fa mD rfl)<|(bp) aK q.range<|(cz) (fun g=>?_) (fun g=>?_)
    ·
     refine aN ?_;exact(bW) (by unfold fq;simp at d f g;first | (simp [d,f,g];done) | (exfalso;simp_all;done) | (simp_all;done) | (simp [d,f,g];rw [Bool.eq_iff_iff];simp;done) | (simp [d,f,g];rw [Bool.eq_iff_iff];simp;omega) | (simp [d,f,g];omega) | (simp_all;omega)) rfl
    refine WP .r (PV.fa mD rfl)<|(bp) aK q.range<|(cz) (fun s=>?_) (fun s=>?_)
    ·
     exact(bW) (by unfold fq;simp at d f g s;first | (simp [d,f,g,s];done) | (exfalso;simp_all;done) | (simp_all;done) | (simp [d,f,g,s];rw [Bool.eq_iff_iff];simp;done) | (simp [d,f,g,s];rw [Bool.eq_iff_iff];simp;omega) | (simp [d,f,g,s];omega) | (simp_all;omega)) rfl
    refine WP .r (PV.fa jd rfl)<|(bp) aK q.range<|(cz) (fun B=>?_) (fun B=>?_)
    ·
     exact(bW) (by unfold fq;simp at d f g s B;first | (simp [d,f,g,s,B];done) | (exfalso;simp_all;done) | (simp_all;done) | (simp [d,f,g,s,B];rw [Bool.eq_iff_iff];simp;done) | (simp [d,f,g,s,B];rw [Bool.eq_iff_iff];simp;omega) | (simp [d,f,g,s,B];omega) | (simp_all;omega)) rfl
    refine WP .r (PV.fa jd rfl)<|(bp) aK q.range<|?_;exact(bW) (by unfold fq;simp at d f g s B;first | (simp [d,f,g,s,B];done) | (exfalso;simp_all;done) | (simp_all;done) | (simp [d,f,g,s,B];rw [Bool.eq_iff_iff];simp;done) | (simp [d,f,g,s,B];rw [Bool.eq_iff_iff];simp;omega) | (simp [d,f,g,s,B];omega) | (simp_all;omega)) rfl
   refine aN ?_;exact(bW) (by unfold fq;simp at d f;first | (simp [d,f];done) | (exfalso;simp_all;done) | (simp_all;done) | (simp [d,f];rw [Bool.eq_iff_iff];simp;done) | (simp [d,f];rw [Bool.eq_iff_iff];simp;omega) | (simp [d,f];omega) | (simp_all;omega)) rfl
  rintro _ rfl;refine(aP) (fun N=>?_) fun N=>?_
  ·
   simp at N
   refine(bF) ?_;exact⟨false,rfl,⟨fun h=>(by cases h),fun h=>absurd (h.2 i _ (ae G)).2.2 (by simp [N])⟩,c4⟩
  simp at N
  refine eL ?_;refine EX.again (i+1) (Sub.k2 rfl rfl<|Sub.cons rfl<|Sub.gM rfl (by simp)<|Sub.nil) ⟨c4,by omega,cn G U ⟨by omega,O,N⟩⟩ (by omega)
 simp at g10
 have mn:∀j x,aa[j]?=some x→jR aa j x:=fun j x M=>U j x (by have:=(List.getElem?_eq_some_iff.1 M).1;omega) M;refine jx ?_;refine WP .r (PV.fV gn rfl)<|(bF) ?_;exact⟨_,rfl,⟨fun h=>⟨by simp at h;omega,mn⟩,fun h=>by have:=h.1;simp;omega⟩,c1⟩
set_option maxHeartbeats 400000
theorem xJ :CR prog 6 #[.slice a n c] w (.bool (decide (n≤400))):=by
 refine enter func6 rfl ntmps6 rfl<|?_;have c0:aJ [] w w:=aJ.refl _ _;refine jx ?_;refine WP .r (PV.fV zI rfl)<|(bF) ?_;exact⟨by congr 2;exact decide_eq_decide.2 (by omega),c0⟩
theorem zY{l:List Int}(hl:Ints A w a n c l) (f:n≤400):Calls prog 8 #[.slice a n c] w fun e w'=>∃d,e=.returned (.pointer (some ⟨d,0,none⟩))∧w.heap.size≤d∧yW A w' 74 d∧aJ [] w w':=by
 refine enter func8 rfl ntmps8 rfl<|?_;have c0:aJ [] w w:=aJ.refl _ _;refine jx ?_;refine WP .r (PV.aY (us:=[.slice a n c,.int .i64 0]) UZ rfl rfl rfl)<|?_;refine WL.go rfl (OX.box rfl rfl rfl fun b5 w1 b g=>?_);have s1:=b.ext;have h:=b.gW c0;have c1:=c0.trans s1;refine(bF) ?_;exact⟨_,rfl,h,⟨l,a,n,c,0,g,SR.ext hl c1,f,by omega⟩,c1⟩
theorem zZ{m:Int}{d:Nat}(o:yW A w 74 d) (f:¬A d) (hm:m≤4611686018427387904):Calls prog 38 #[.pointer (some ⟨d,0,none⟩),.int .i64 m] w fun e w'=>∃z:Int,e=.returned (.int .i64 z)∧0≤z∧(1≤m→z<m)∧aJ [d] w w'∧yW A w' 74 d:=by
 obtain⟨l,a,n,c,t,hb,hl,i,p⟩:=o;have hlen:=SR.len hl;refine enter func38 rfl ntmps38 rfl<|?_;have c0:aJ [d] w w:=aJ.refl _ _;refine eL ?_;refine WC.drawn (m:=9) (C:=aJ [] w) (T:=fun _=>aJ []) (E:=bS []) (aU (trivial)) mixed (by kernel_rfl) (aJ.drew _ _)<|bP ?_;refine DP .r (fun _ b=>PV.fa ve rfl)<|DP .r (fun _ b=>PV.ld1 aK (hb.ext b).range rfl rfl)<|bP ?_;refine DP .r (fun _ b=>PV.fa EH rfl)<|DP .r (fun _ b=>PV.ld1 Iv (hb.ext b).range rfl rfl)<|DP .r (fun _ b=>PV.fV zI rfl)<|(cy)<|?_;rintro w1 s1 _;have c1:=c0.trans s1.nil;have hb:=hb.ext s1;refine(aP) (fun g14=>?_) fun g14=>?_
 ·
  skip
  refine(bF) ?_;exact⟨0,rfl,by omega,fun h=>by omega,c1,l,a,n,c,t,hb,SR.bR hl c1 (by simpa using f) (fun _ _ h=>h),i,p⟩
 simp at g14
 obtain⟨v,x,y,q,_,s,g,u⟩:=SR.at hl (ae (show t<l.length by omega));subst s;refine fZ ?_;refine WP .r (PV.fa ve rfl)<|(bp) aK hb.range<|bP ?_;refine WP .r (PV.fa ve rfl)<|?_;refine WL.go rfl (OX.st Ni hb rfl rfl (by first | (simp [nth];done) | exact NW rfl) rfl rfl fun w2 s2 _ hb=>?_);have c2:=c1.trans s2;refine ct ?_;have g:=aR g c2 (by simp;rintro rfl;exact f u);refine WC.drawn (m:=12) (C:=aJ [] w2) (T:=fun _=>aJ []) (E:=bS []) (aU (trivial)) mixed (by kernel_rfl) (aJ.drew _ _)<|bP ?_;refine DP .r (fun _ b=>PV.fa EH rfl)<|DP .r (fun _ b=>PV.ld1 Iv (hb.ext b).range rfl rfl)<|bP ?_;refine DP .r (fun _ b=>PV.fa ve rfl)<|DP .r (fun _ b=>PV.ld1 aK (hb.ext b).range rfl rfl)<|nx ?_;refine DP .r (fun _ b=>PV.CZ zI (t) q rfl rfl (by omega) (by omega))<|DP .r (fun _ b=>PV.kc aK (aR g b (by simp)) rfl rfl)<|(cy) ?_;rintro w3 j _;have c3:=c2.trans j.nil;have hb:=hb.ext j;refine(cA) Vy (CB (n:=l[t]) (m:=m) (by omega)) ?_;rintro _ w4 ⟨rfl,k⟩;have c4:=c3.trans k.nil;have hb:=hb.ext k;refine(bF) ?_;refine⟨_,rfl,?_,?_,c4,l,a,n,c,t+1,?_,SR.bR hl c4 (by simpa using f) (fun _ _ h=>h),i,by omega⟩
 ·
  split
  ·
   omega
  exact Int.emod_nonneg _ (by omega)
 ·
  intro h;rw [if_neg (by omega)];exact Int.emod_lt_of_pos _ (by omega)
 exact hb
def words:List ByteArray:=[⟨#[48]⟩,⟨#[49]⟩,⟨#[50]⟩,⟨#[51]⟩,⟨#[55]⟩,⟨#[49,48,48]⟩,⟨#[]⟩,⟨#[120]⟩,⟨#[49,54]⟩,⟨#[49]⟩]
theorem E4:∀s∈words,s.size≤100:=by decide
end Go.Rc

