/- Walks over the program, part WD. Conditions: as each theorem says. -/
import Derived.Test.YtfamnpoplgkkcaaGreatDoorOFacts
import Derived.Test.YtfamnpoplgkkcaaGreatDoorOWB
import Derived.Test.YtfamnpoplgkkcaaGreatDoorOBb
set_option linter.all false
namespace Go.Rc
open Go Go.Proofs Go.Proofs.Tryz
variable {aa:List aG}{A:Nat→Prop}{a:Option Addr}{r c n:Nat}{w:World}
set_option maxHeartbeats 400000
theorem yb{i:Nat}{x:Ask}{n:Int}(hr:fK A w a r c aa) (hi:i<aa.length):CR prog 134 #[.slice a r c,.int .i64 (i:Int),x.val,.int .i64 n] w (.bool (gw aa i x.cell n)):=by
 have hle:=hr.le;have hlen:=hr.len;have g:=bW hi;refine enter func134 rfl ntmps134 rfl<|?_;have c0:aS [] w w:=aS.refl _ _;refine bK ?_;refine WL.go rfl (OX.box rfl rfl rfl fun l w1 h f=>?_);have s1:=h.ext;have m:=h.iF c0;have c1:=c0.trans s1;refine fO ?_;refine WP .r (PV.fa tQ rfl)<|(aZ) dG f.range<|(aR) (fun g12=>?_) fun g12=>?_
 ·
  refine nx ?_;refine WC.lA (t:=8) (v:=.bool (decide (0≤n) && decide (n≤15))) (fun d=>w1=d) ?_ ?_
  ·
   refine(dc) (fun g15=>?_) (fun g15=>?_)
   ·
    exact(gz) (by simp only [g15];first | rfl | simp) rfl
   exact(gz) (by simp only [g15];first | rfl | simp) rfl
  rintro _ rfl;refine(bs) ?_;exact⟨by unfold gw;rw [if_pos g12],c1⟩
 refine(bX) Wq (sO (n:=(i:Int)) (hr.ext c1)) ?_;rintro _ w2 ⟨rfl,s2⟩;have c2:=c1.trans s2;have f:=f.ext s2;refine kI ?_;obtain⟨b1,o,r1,j,_,⟨q1,p,q,rfl,_⟩,k,_⟩:=(hr.ext c2).at (ak hi);refine bY ?_;refine WP .r (PV.dI jh j rfl rfl (by omega))<|WP .r (PV.fa ko rfl)<|(aZ) dG k<|(aR) (fun e=>?_) fun e=>?_
 ·
  have ht:fE aa i=(block aa i).1:=by unfold fE;rw [g];simp at e;rw [e];rfl
  refine fO ?_;refine WC.lA (t:=8) (v:=.bool (decide (0≤n) && decide (n<fE aa i))) (fun d=>w2=d) ?_ ?_
  ·
   refine(dc) (fun b=>?_) (fun b=>?_)
   ·
    exact(gz) (by simp only [ht,b];first | rfl | simp) rfl
   exact(gz) (by simp only [ht,b];first | rfl | simp) rfl
  rintro _ rfl;refine(bs) ?_;exact⟨by unfold gw;rw [g12];rfl,c2⟩
 have ht:fE aa i=(block aa i).2:=by unfold fE;rw [g];simp at e;rw [e];rfl
 refine bY ?_;refine WC.lA (t:=8) (v:=.bool (decide (0≤n) && decide (n<fE aa i))) (fun d=>w2=d) ?_ ?_
 ·
  refine(dc) (fun b=>?_) (fun b=>?_)
  ·
   exact(gz) (by simp only [ht,b];first | rfl | simp) rfl
  exact(gz) (by simp only [ht,b];first | rfl | simp) rfl
 rintro _ rfl;refine(bs) ?_;exact⟨by unfold gw;rw [g12];rfl,c2⟩
theorem vf{s:ByteArray} :CR prog 185 #[.string s] w (.int .i64 (cB s:Int)):=by
 refine enter func185 rfl ntmps185 rfl<|?_;have c0:aS [] w w:=aS.refl _ _;refine(bX) O4 (oF (s:=s)) ?_;rintro _ w1 ⟨rfl,s1⟩;have c1:=c0.trans s1;refine db ?_;refine WC.ka (t:=11) (v:=.bool (decide (dN s<0) || decide (65535<dN s))) (fun d=>w1=d) ?_ ?_
 ·
  refine(dc) (fun g8=>?_) (fun g8=>?_)
  ·
   exact(cw) (by simp only [g8];first | rfl | simp) rfl
  exact(cw) (by simp only [g8];first | rfl | simp) rfl
 rintro _ rfl;refine(aR) (fun g11=>?_) fun g11=>?_
 ·
  simp at g11
  have b:cB s=0:=by unfold cB;rw [if_pos g11]
  refine(bs) ?_;rw [b];exact⟨rfl,c1⟩
 simp at g11
 have b:(cB s:Int)=dN s:=by unfold cB;rw [if_neg (by omega)];omega
 refine(bs) ?_;rw [b];exact⟨rfl,c1⟩
theorem Cc{l:List ByteArray}{ring:Bool}{a1:Option Addr}{n1 e1:Nat}{fin:Int}{d:Nat}(hl:Strs A w a r c l) (hc:d≤65535) (J:r≤1000):CR prog 184 #[.agg #[.bool ring,.slice a1 n1 e1,.int .i64 fin,.int .i64 (d:Int)],.slice a r c] w (.int .i64 (dn fin d (l.map cB):Int)):=by
 have hlen:=hl.len
 have k:∀x∈l.map cB,x≤65535:=fun x o=>by obtain⟨s,_,rfl⟩:=List.mem_map.1 o;exact kG s
 have p:∀i,∀x∈(l.map cB).take i,x≤65535:=fun i x o=>k x (List.mem_of_mem_take o);refine enter func184 rfl ntmps184 rfl<|?_;have c0:aS [] w w:=aS.refl _ _;refine bK ?_;refine WL.go rfl (OX.box rfl rfl rfl fun b2 w1 u b=>?_);have s1:=u.ext;have K:=u.iF c0;have c1:=c0.trans s1;refine cj ?_;refine WC.drawn (m:=8) (C:=aS [] w1) (T:=fun _=>aS []) (E:=cA []) (bj (trivial)) mixed (by kernel_rfl) (aS.drew _ _)<|?_;refine DP .r (fun _ e=>PV.fa kY rfl)<|DP .r (fun _ e=>PV.ld1 aN (b.ext e).range rfl rfl)<|DP .r (fun _ e=>PV.fa kY rfl)<|DP .r (fun _ e=>PV.ld1 aN (b.ext e).range rfl rfl)<|DP .r (fun _ e=>PV.fa kY rfl)<|DP .r (fun _ e=>PV.ld1 aN (b.ext e).range rfl rfl)<|(cP) ?_;rintro w2 s2 _;have c2:=c1.trans s2;have b:=b.ext s2;refine ed ?_;refine WP .r (PV.hV oC rfl)<|cj ?_;refine WC.loop (σ:=Nat) (dj:=fun i=>[(2,.pointer (some ⟨b2,0,none⟩)),(5,.int .i64 (pQ d ((l.map cB).take i):Int)),(6,.int .i64 (ss d ((l.map cB).take i):Int)),(7,.int .i64 (fe d ((l.map cB).take i):Int)),(17,.slice a r c),(18,.int .i64 (r:Int)),(19,.int .i64 (i:Int))]) (I:=fun i w'=>aS [] w w'∧bQ w' b2 58 [.bool ring,.slice a1 n1 e1,.int .i64 fin,.int .i64 (d:Int)]∧i≤r) (μ:=fun i=>r - i) 0 Sub.t ⟨c2,b,by omega⟩ ?_;rintro i w3 ⟨c3,b,hi⟩;refine(aR) (fun g20=>?_) fun g20=>?_
 ·
  simp at g20
  have y:i<l.length:=by omega
  have q:i<(l.map cB).length:=by simp;omega
  have z:=tI (c:=d) (p i);have B:=mV hc (p i);have D:=lD hc (p i);have L:=kG l[i]
  have M:((l.map cB).take i).length≤1000:=by rw [List.length_take];omega
  refine db ?_;obtain⟨b1,N,r1,F,_,rfl,G,_⟩:=(hl.ext c3).at (ak y);refine nx ?_;refine WP .r (PV.dI oC F rfl rfl (by omega))<|WP .r (PV.mf fh G rfl rfl)<|(bX) Pb (vf (s:=l[i])) ?_;rintro _ w4 ⟨rfl,v⟩;have c4:=c3.trans v;have b:=b.ext v;refine kI ?_;refine WP .r (PV.IZ rfl rfl)<|bK ?_;refine WP .r (PV.orN rfl rfl (by omega) (by omega))<|ju ?_;refine EX.again (i+1) (Sub.cons rfl<|Sub.iW rfl (by rw [xt q,List.getElem_map];omega)<|Sub.iW rfl (by rw [ue q,List.getElem_map];omega)<|Sub.iW rfl (by rw [uf q,List.getElem_map])<|Sub.k2 rfl rfl<|Sub.iW rfl (by simp)<|Sub.nil) ⟨c4,b,by omega⟩ (by omega)
 simp at g20
 have H:(l.map cB).take i=l.map cB:=List.take_of_length_le (by simp;omega);rw [H];have z:=tI (c:=d) k;have B:=mV hc k;have D:=lD hc k
 have O:(l.map cB).length≤1000:=by rw [List.length_map];omega
 refine gL ?_;refine WP .r (PV.fa pq rfl)<|(aZ) aN b.range<|(aR) (fun f=>?_) fun f=>?_
 ·
  simp at f
  refine bY ?_;refine WP .r (PV.rem rfl rfl (by omega))<|(bs) ?_;exact⟨by unfold dn;rw [if_pos f,Int.tmod_eq_emod_of_nonneg (by omega)];rfl,c3⟩
 simp at f
 refine(aR) (fun g=>?_) fun g=>?_
 ·
  simp at g
  refine bY ?_;refine WP .r (PV.quo rfl rfl (by omega) (by rw [Int.tdiv_eq_ediv_of_nonneg (by omega)];omega) (by rw [Int.tdiv_eq_ediv_of_nonneg (by omega)];omega))<|WP .r (PV.rem rfl rfl (by omega))<|(bs) ?_;exact⟨by unfold dn;rw [if_neg f,if_pos g,Int.tdiv_eq_ediv_of_nonneg (by omega),Int.tmod_eq_emod_of_nonneg (by omega)];rfl,c3⟩
 simp at g
 refine(aR) (fun h=>?_) fun h=>?_
 ·
  simp at h
  refine(bs) ?_;exact⟨by unfold dn;rw [if_neg f,if_neg g,if_pos h],c3⟩
 simp at h
 refine(aR) (fun j=>?_) fun j=>?_
 ·
  simp at j
  refine bY ?_;refine WP .r (PV.rem rfl rfl (by omega))<|(bs) ?_;exact⟨by unfold dn;rw [if_neg f,if_neg g,if_neg h,if_pos j,Int.tmod_eq_emod_of_nonneg (by omega)];rfl,c3⟩
 simp at j
 refine(bs) ?_;exact⟨by unfold dn;rw [if_neg f,if_neg g,if_neg h,if_neg j],c3⟩
theorem EW{k:Key}{ae:List ByteArray}{B C:Nat→Prop}{a2:Option Addr}{r2 e2:Nat}(ht:lq prog A w) (hr:fK B w a r c aa) (hl:Strs C w a2 r2 e2 ae) (hb:∀x∈aa,0≤x.c∧x.c≤65535∧x.asks.length≤1000):CR prog 136 #[.slice a r c,k.val,.slice a2 r2 e2] w ((cq aa k ae).val):=by
 have hle:=hr.le;have hlen:=hr.len;have vg:=hl.len;refine enter func136 rfl ntmps136 rfl<|?_;have c0:aS [] w w:=aS.refl _ _;refine bK ?_;refine WL.go rfl (OX.box rfl rfl rfl fun b4 w1 EY d=>?_);have s1:=EY.ext;have vh:=EY.iF c0;have c1:=c0.trans s1;refine WL.go rfl (OX.alloc oD rfl fun L w2 Dx b=>?_);have s2:=Dx.ext;have M:=Dx.iF c1;have I:b4≠L:=Dx.ne d.lt;have EZ:L≠b4:=Ne.symm I;have c2:=c1.trans s2;have d:=d.ext s2;refine(aY) ao d.range<|(bX) ND (jX (k:=k)) ?_;rintro _ w3 ⟨rfl,s3⟩;have c3:=c2.trans s3;have d:=d.ext s3;have b:=b.ext s3;refine db ?_;refine WC.ka (t:=28) (v:=.bool (decide (number k<0) || (decide ((r:Int)≤number k) || decide (aM aa (number k)≠k)))) (aS [] w3) ?_<|?_
 ·
  refine WC.drawn (m:=13) (C:=aS [] w3) (T:=fun _=>aS []) (E:=cA [(11,fun v _=>v=(aM aa (number k)).val)]) (bj (⟨fun _ _ _ _ _ _ _ h=>h,trivial⟩)) mixed (by kernel_rfl) (aS.drew _ _)<|(ob) (fun g16=>?_) (fun g16=>?_)
  ·
   refine(cP) ?_;rintro w4 u _;have c4:=c3.trans u;have d:=d.ext u;have b:=b.ext u;exact(cw) (by simp only [g16];first | rfl | simp) u
  refine bK ?_;refine DP .r (fun _ D=>PV.hV jh rfl)<|(ob) (fun g22=>?_) (fun g22=>?_)
  ·
   refine(cP) ?_;rintro w4 u _;have c4:=c3.trans u;have d:=d.ext u;have b:=b.ext u;exact(cw) (by simp only [g16,g22];first | rfl | simp) u
  refine bK ?_;refine DW.e rfl rfl rfl rfl rfl (fun wx D hF=>OX.call zt rfl rfl ((gR (n:=number k) (hr.ext (c3.trans D))).mono ?_))<|?_
  ·
   rintro _ wy ⟨rfl,hy⟩;exact⟨_,rfl,D.trans hy,hy,_,rfl,rfl⟩
  rintro _ wz _ rfl;refine DP .r (fun _ D=>PV.GR ao (d.ext D).range rfl rfl)<|(cP)<|?_;rintro w4 u _;have c4:=c3.trans u;have d:=d.ext u;have b:=b.ext u;refine WP .r (PV.Lk fH (p:=aM aa (number k)) (q:=k) rfl rfl)<|?_;exact(cw) (by simp only [g16,g22];first | rfl | simp) u
 intro w4 u;have c4:=c3.trans u;have d:=d.ext u;have b:=b.ext u;refine(aR) (fun R=>?_) fun R=>?_
 ·
  simp at R
  have z:=I2 (ae:=ae) (show number k<0∨(aa.length:Int)≤number k∨aM aa (number k)≠k by rw [← hlen];exact R);refine bK ?_;refine WP .r (PV.bz (us:=[.bool true,.string ⟨#[]⟩,.int .i64 0,.string ⟨#[]⟩]) mw rfl rfl rfl)<|?_;refine WL.go rfl (OX.mg gy b rfl rfl rfl rfl rfl fun w5 N _ b=>?_);have c5:=c4.own N M;have d:=d.bV N (by simp [I]);refine(kR) iL b.range<|?_;rw [z];exact⟨rfl,c5⟩
 simp at R
 obtain⟨g1,g2,g3⟩:=R;obtain⟨i,yC⟩:∃i:Nat,number k=i:=⟨(number k).toNat,by omega⟩
 have hi:i<aa.length:=by omega
 obtain⟨E0,wD,wE⟩:=hb _ (List.getElem_mem hi);obtain⟨S,XX⟩:∃S:Nat,aa[i].c=S:=⟨aa[i].c.toNat,by omega⟩;refine bY ?_;obtain⟨bx1,ox1,rx1,E1,_,⟨q1,q2,q3,rfl,Cd⟩,Z,_⟩:=hr.at (ak hi);have Z:=aW Z c4 (by simp);rw [XX] at Z;have yc:=Cd.len;refine bY ?_;refine WP .r (PV.DJ jh (i) E1 rfl rfl (by omega) (by omega))<|(aY) sM Z<|nx ?_;refine WP .r (PV.hV oC rfl)<|?_;refine WL.go rfl (OX.alloc MS rfl fun O w5 Lq f=>?_);have N:=Lq.ext;have Se:=Lq.iF c4;have vi:b4≠O:=Lq.ne d.lt;have E4:O≠b4:=Ne.symm vi;have vj:L≠O:=Lq.ne b.lt;have U:O≠L:=Ne.symm vj;have c5:=c4.trans N;have d:=d.ext N;have b:=b.ext N;refine WL.go rfl (OX.mg EL f rfl rfl rfl rfl rfl fun w6 s6 _ f=>?_);have V:=c5.own s6 Se;have d:=d.bV s6 (by simp [vi]);have b:=b.bV s6 (by simp [vj]);refine ed ?_;refine WP .r (PV.fa rQ rfl)<|(aZ) kn f.range<|?_;refine WP .r (PV.hV wC rfl)<|(aR) (fun Lr=>?_) fun Lr=>?_
 ·
  simp at Lr
  have z:=j5 (ae:=ae) yC hi g3 (by omega);rw [← yc,XX,Int.toNat_natCast] at z;have Qq:=nV (kind:=aa[i].final) (c:=S) (l:=(ae.take q2).map cB) (by omega) (fun x hx=>by obtain⟨s,_,rfl⟩:=List.mem_map.1 hx;exact kG s);refine nx ?_;refine WC.drawn (m:=6) (C:=aS [] w6) (T:=fun _=>aS []) (E:=cA []) (bj (trivial)) mixed (by kernel_rfl) (aS.drew _ _)<|?_;refine DP .r (fun _ D=>PV.GR sM (f.ext D).range rfl rfl)<|nx ?_;refine DP .r (fun _ D=>PV.fa rQ rfl)<|DP .r (fun _ D=>PV.ld1 kn (f.ext D).range rfl rfl)<|DP .r (fun _ D=>PV.hV wC rfl)<|DP .r (fun _ D=>PV.mS oC (hl.ext (V.trans D)) rfl rfl (by omega))<|(cP)<|?_;rintro w7 F _;have c7:=V.trans F;have d:=d.ext F;have b:=b.ext F;have f:=f.ext F;refine(bX) XC (Cc (SR.take (hl.ext c7) (by omega)) (show S≤65535 by omega) (by omega)) ?_;rintro _ w8 ⟨rfl,G⟩;have P:=c7.trans G;have d:=d.ext G;have b:=b.ext G;have f:=f.ext G;refine(bX) NC (l7 (ht.ext P) (by omega) (by omega)) ?_;rintro _ w9 ⟨rfl,y⟩;have c9:=P.trans y;have d:=d.ext y;have b:=b.ext y;have f:=f.ext y;refine WP .r (PV.bz (us:=[.bool true,.string (itoa ((dn aa[i].final S ((ae.take q2).map cB)):Int)),.int .i64 0,.string ⟨#[]⟩]) mw rfl rfl rfl)<|?_;refine WL.go rfl (OX.mg gy b rfl rfl rfl rfl rfl fun iN g _ b=>?_);have H:=c9.own g M;have d:=d.bV g (by simp [I]);have f:=f.bV g (by simp [U]);refine(kR) iL b.range<|?_;rw [z];exact⟨rfl,H⟩
 simp at Lr
 have hn:r2<aa[i].asks.length:=by omega
 have z:=i6 (ae:=ae) yC hi g3 (by omega);simp only [← vg] at z;refine bY ?_;obtain⟨bx2,ox2,rx2,Dy,_,rfl,hr2,_⟩:=(Cd.ext V).at (ak hn);refine nx ?_;refine WP .r (PV.fa rQ rfl)<|(aZ) kn f.range<|nx ?_;refine WP .r (PV.dI wC Dy rfl rfl (by omega))<|(aY) kW hr2<|?_;refine WL.go rfl (OX.alloc Kc rfl fun Q w7 W j=>?_);have F:=W.ext;have zx:=W.iF V;have sP:b4≠Q:=W.ne d.lt;have Ce:Q≠b4:=Ne.symm sP;have sQ:L≠Q:=W.ne b.lt;have kM:Q≠L:=Ne.symm sQ;have sR:O≠Q:=W.ne f.lt;have Pm:Q≠O:=Ne.symm sR;have c7:=V.trans F;have d:=d.ext F;have b:=b.ext F;have f:=f.ext F;refine WL.go rfl (OX.mg u2 j rfl rfl rfl rfl rfl fun w8 G _ j=>?_);have P:=c7.own G zx;have d:=d.bV G (by simp [sP]);have b:=b.bV G (by simp [sQ]);have f:=f.bV G (by simp [sR]);refine cj ?_;refine WP .r (PV.fa zs rfl)<|(aZ) aN j.range<|db ?_;refine WC.ka (t:=72) (v:=.bool (fo aa[i].asks[r2] ae)) (aS [] w8) ?_<|?_
 ·
  refine nx ?_;refine WP .r (PV.fa qv rfl)<|(aZ) dG j.range<|(dc) (fun g59=>?_) (fun g59=>?_)
  ·
   refine(dc) (fun Sf=>?_) (fun Sf=>?_)
   ·
    have X:fo aa[i].asks[r2] ae=true:=by unfold fo;rw [g59,← vg];simp at Sf;simp [Sf]
    exact(cw) (by rw [X]) (aS.refl _ _)
   simp at Sf
   obtain⟨bx3,ox3,rx3,XY,_,rfl,hr3,_⟩:=(hl.ext P).at (ak (show r2 - 1<ae.length by omega))
   have X:fo aa[i].asks[r2] ae=decide ((cB ae[r2 - 1]:Int).tmod 2=0):=by
    unfold fo
    simp only [g59,← vg,Bool.true_and];rw [decide_eq_false (by omega),Bool.false_or,getElem!_pos ae (r2 - 1) (by omega),Int.tmod_eq_emod_of_nonneg (by omega)]
    congr 1
    exact propext ⟨fun h=>by omega,fun h=>by omega⟩
   refine bY ?_;refine WP .r (PV.DJ oC (r2 - 1) XY rfl rfl (by omega) (by omega))<|WP .r (PV.mf fh hr3 rfl rfl)<|(bX) Pb (vf (s:=ae[r2 - 1])) ?_;rintro _ w9 ⟨rfl,y⟩;have c9:=P.trans y;have d:=d.ext y;have b:=b.ext y;have f:=f.ext y;have j:=j.ext y;refine WP .r (PV.rem rfl rfl (by omega))<|?_;exact(cw) (by rw [X]) y
  have X:fo aa[i].asks[r2] ae=false:=by unfold fo;rw [g59];rfl
  refine aX ?_;exact(cw) (by rw [X]) (aS.refl _ _)
 intro w9 y;have c9:=P.trans y;have d:=d.ext y;have b:=b.ext y;have f:=f.ext y;have j:=j.ext y;refine(aR) (fun g72=>?_) fun g72=>?_
 ·
  have Y:oU aa[i].asks[r2] ae=aa[i].asks[r2].DK:=by unfold oU;rw [if_pos g72]
  refine nx ?_;refine WP .r (PV.fa qw rfl)<|(aZ) aN j.range<|fO ?_;refine WP .r (PV.fa tQ rfl)<|(aZ) dG j.range<|(aR) (fun J=>?_) fun J=>?_
  ·
   rw [Y,if_pos J] at z;refine(bX) Nz (jj) ?_;rintro _ iN ⟨rfl,g⟩;have H:=c9.trans g;have d:=d.ext g;have b:=b.ext g;have f:=f.ext g;have j:=j.ext g;refine WP .r (PV.bz (us:=[.bool false,.string ⟨#[]⟩,.int .i64 (cD _).kind,.string (cD _).text]) mw rfl rfl rfl)<|?_;refine WL.go rfl (OX.mg gy b rfl rfl rfl rfl rfl fun iV o _ b=>?_);have K:=H.own o M;have d:=d.bV o (by simp [I]);have f:=f.bV o (by simp [U]);have j:=j.bV o (by simp [kM]);refine(kR) iL b.range<|?_;rw [z];exact⟨rfl,K⟩
  rw [Y,if_neg (by simp [J])] at z;refine(bX) zt (gR (hr.ext c9)) ?_;rintro _ iN ⟨rfl,g⟩;have H:=c9.trans g;have d:=d.ext g;have b:=b.ext g;have f:=f.ext g;have j:=j.ext g;refine WP .r (PV.bz (us:=[.bool false,.string ⟨#[]⟩,.int .i64 (aM aa _).kind,.string (aM aa _).text]) mw rfl rfl rfl)<|?_;refine WL.go rfl (OX.mg gy b rfl rfl rfl rfl rfl fun iV o _ b=>?_);have K:=H.own o M;have d:=d.bV o (by simp [I]);have f:=f.bV o (by simp [U]);have j:=j.bV o (by simp [kM]);refine(kR) iL b.range<|?_;rw [z];exact⟨rfl,K⟩
 have Y:oU aa[i].asks[r2] ae=aa[i].asks[r2].n:=by unfold oU;rw [if_neg (by simp [g72])]
 refine db ?_;refine WP .r (PV.fa tQ rfl)<|(aZ) dG j.range<|(aR) (fun J=>?_) fun J=>?_
 ·
  rw [Y,if_pos J] at z;refine(bX) Nz (jj) ?_;rintro _ iN ⟨rfl,g⟩;have H:=c9.trans g;have d:=d.ext g;have b:=b.ext g;have f:=f.ext g;have j:=j.ext g;refine WP .r (PV.bz (us:=[.bool false,.string ⟨#[]⟩,.int .i64 (cD _).kind,.string (cD _).text]) mw rfl rfl rfl)<|?_;refine WL.go rfl (OX.mg gy b rfl rfl rfl rfl rfl fun iV o _ b=>?_);have K:=H.own o M;have d:=d.bV o (by simp [I]);have f:=f.bV o (by simp [U]);have j:=j.bV o (by simp [kM]);refine(kR) iL b.range<|?_;rw [z];exact⟨rfl,K⟩
 rw [Y,if_neg (by simp [J])] at z;refine(bX) zt (gR (hr.ext c9)) ?_;rintro _ iN ⟨rfl,g⟩;have H:=c9.trans g;have d:=d.ext g;have b:=b.ext g;have f:=f.ext g;have j:=j.ext g;refine WP .r (PV.bz (us:=[.bool false,.string ⟨#[]⟩,.int .i64 (aM aa _).kind,.string (aM aa _).text]) mw rfl rfl rfl)<|?_;refine WL.go rfl (OX.mg gy b rfl rfl rfl rfl rfl fun iV o _ b=>?_);have K:=H.own o M;have d:=d.bV o (by simp [I]);have f:=f.bV o (by simp [U]);have j:=j.bV o (by simp [kM]);refine(kR) iL b.range<|?_;rw [z];exact⟨rfl,K⟩
theorem sS(hr:fK A w a r c aa):Calls prog 87 #[.slice a r c] w fun e w'=>∃b:Bool,e=.returned (.bool b)∧(b=true↔aq aa)∧aS [] w w':=by
 have hle:=hr.le;have hlen:=hr.len;refine enter func87 rfl ntmps87 rfl<|?_;have c0:aS [] w w:=aS.refl _ _;refine kI ?_;refine WP .r (PV.hV jh rfl)<|cj ?_;refine WC.loop (σ:=Nat) (dj:=fun i=>[(0,.slice a r c),(7,.slice a r c),(8,.int .i64 (r:Int)),(9,.int .i64 (i:Int))]) (I:=fun i w'=>aS [] w w'∧i≤r∧∀j x,j<i→aa[j]?=some x→lP aa j x) (μ:=fun i=>r - i) 0 Sub.t ⟨c0,by omega,fun j x h=>by omega⟩ ?_;rintro i w1 ⟨c1,hi,U⟩;refine(aR) (fun g10=>?_) fun g10=>?_
 ·
  simp at g10
  have G:i<aa.length:=by omega
  obtain⟨bx1,ox1,rx1,E1,_,⟨q1,J,V,rfl,P⟩,Q,_⟩:=hr.at (ak G);have yc:=P.len;have hq:=P.le;refine db ?_;have Q:=aW Q c1 (by simp);refine bK ?_;refine WP .r (PV.dI jh E1 rfl rfl (by omega))<|(aY) sM Q<|?_;refine WL.go rfl (OX.alloc MS rfl fun b4 w2 W q=>?_);have s2:=W.ext;have vh:=W.iF c1;have c2:=c1.trans s2;refine nx ?_;refine WL.go rfl (OX.mg EL q rfl rfl rfl rfl rfl fun w3 s3 _ q=>?_);have c3:=c2.own s3 vh;refine db ?_;refine WP .r (PV.fa rQ rfl)<|(aZ) kn q.range<|?_;refine WP .r (PV.hV wC rfl)<|(aR) (fun g17=>?_) fun g17=>?_
  ·
   simp at g17
   refine(bs) ?_;exact⟨false,rfl,⟨fun h=>(by cases h),fun h=>absurd (h.2 i _ (ak G)).1 (by omega)⟩,c3⟩
  simp at g17
  refine db ?_;refine WP .r (PV.fa rQ rfl)<|(aZ) kn q.range<|?_;refine WP .r (PV.hV wC rfl)<|cj ?_;refine WC.loop (σ:=Nat) (dj:=fun k=>[(0,.slice a r c),(7,.slice a r c),(8,.int .i64 (r:Int)),(9,.int .i64 (i:Int)),(3,.int .i64 (i:Int)),(4,.pointer (some ⟨b4,0,none⟩)),(19,.slice q1 J V),(20,.int .i64 (J:Int)),(21,.int .i64 (k:Int))]) (I:=fun k w'=>aS [] w w'∧bQ w' b4 58 [.bool aa[i].ring,.slice q1 J V,.int .i64 aa[i].final,.int .i64 aa[i].c]∧k≤J∧∀j x,j<k→aa[i].asks[j]?=some x→fq aa i aa[i].ring j x=true) (μ:=fun k=>J - k) 0 Sub.t ⟨c3,q,by omega,fun j x h=>by omega⟩ ?_;rintro k w4 ⟨c4,q,hk,O⟩;refine(aR) (fun g22=>?_) fun g22=>?_
  ·
   simp at g22
   have R:k<aa[i].asks.length:=by omega
   obtain⟨bx2,ox2,rx2,Dy,_,rfl,hr2,_⟩:=(P.ext c4).at (ak R);refine ed ?_;refine WP .r (PV.dI wC Dy rfl rfl (by omega))<|(aY) kW hr2<|?_;refine WL.go rfl (OX.alloc Kc rfl fun X w5 S D=>?_);have Y:=S.ext;have E7:=S.iF c4;have Z:b4≠X:=S.ne q.lt;have EZ:X≠b4:=Ne.symm Z;have c5:=c4.trans Y;have q:=q.ext Y;refine nx ?_;refine WL.go rfl (OX.mg u2 D rfl rfl rfl rfl rfl fun w6 s6 _ D=>?_);have T:=c5.own s6 E7;have q:=q.bV s6 (by simp [Z]);refine bY ?_;refine WC.ka (t:=63) (v:=.bool (!fq aa i aa[i].ring k aa[i].asks[k])) (aS [] w6) ?_<|?_
   ·
    refine(aY) kW D.range<|?_;refine WP .r (PV.fa zs rfl)<|(aZ) aN D.range<|(bX) O5 (yb (x:=aa[i].asks[k]) (n:=aa[i].asks[k].n) (hr.ext T) G) ?_;rintro _ w7 ⟨rfl,F⟩;have K:=T.trans F;have q:=q.ext F;have D:=D.ext F;refine(dc) (fun l=>?_) (fun l=>?_)
    ·
     refine aX ?_;refine aX ?_;exact(cw) (by unfold fq;simp at l;first | (simp [l];done) | (exfalso;simp_all;done) | (simp_all;done) | (simp [l];rw [Bool.eq_iff_iff];simp;done) | (simp [l];rw [Bool.eq_iff_iff];simp;omega) | (simp [l];omega) | (simp_all;omega)) F
    refine WP .r (PV.fa qv rfl)<|(aZ) dG D.range<|(dc) (fun o=>?_) (fun o=>?_)
    ·
     refine WP .r (PV.fa ko rfl)<|(aZ) dG q.range<|(dc) (fun y=>?_) (fun y=>?_)
     ·
      refine aX ?_;refine aX ?_;exact(cw) (by unfold fq;simp at l o y;first | (simp [l,o,y];done) | (exfalso;simp_all;done) | (simp_all;done) | (simp [l,o,y];rw [Bool.eq_iff_iff];simp;done) | (simp [l,o,y];rw [Bool.eq_iff_iff];simp;omega) | (simp [l,o,y];omega) | (simp_all;omega)) F
     refine(dc) (fun C=>?_) (fun C=>?_)
     ·
      refine aX ?_;exact(cw) (by unfold fq;simp at l o y C;first | (simp [l,o,y,C];done) | (exfalso;simp_all;done) | (simp_all;done) | (simp [l,o,y,C];rw [Bool.eq_iff_iff];simp;done) | (simp [l,o,y,C];rw [Bool.eq_iff_iff];simp;omega) | (simp [l,o,y,C];omega) | (simp_all;omega)) F
     refine(aY) kW D.range<|?_;refine WP .r (PV.fa qw rfl)<|(aZ) aN D.range<|(bX) O5 (yb (x:=aa[i].asks[k]) (n:=aa[i].asks[k].DK) (hr.ext K) G) ?_;rintro _ w8 ⟨rfl,H⟩;have c8:=K.trans H;have q:=q.ext H;have D:=D.ext H;refine(dc) (fun E=>?_) (fun E=>?_)
     ·
      exact(cw) (by unfold fq;simp at l o y C E;first | (simp [l,o,y,C,E];done) | (exfalso;simp_all;done) | (simp_all;done) | (simp [l,o,y,C,E];rw [Bool.eq_iff_iff];simp;done) | (simp [l,o,y,C,E];rw [Bool.eq_iff_iff];simp;omega) | (simp [l,o,y,C,E];omega) | (simp_all;omega)) (F.trans H)
     refine WP .r (PV.fa qv rfl)<|(aZ) dG D.range<|(dc) (fun z=>?_) (fun z=>?_)
     ·
      refine WP .r (PV.fa qw rfl)<|(aZ) aN D.range<|?_;exact(cw) (by unfold fq;simp at l o y C E z;first | (simp [l,o,y,C,E,z];done) | (exfalso;simp_all;done) | (simp_all;done) | (simp [l,o,y,C,E,z];rw [Bool.eq_iff_iff];simp;done) | (simp [l,o,y,C,E,z];rw [Bool.eq_iff_iff];simp;omega) | (simp [l,o,y,C,E,z];omega) | (simp_all;omega)) (F.trans H)
     exact(cw) (by unfold fq;simp at l o y C E z;first | (simp [l,o,y,C,E,z];done) | (exfalso;simp_all;done) | (simp_all;done) | (simp [l,o,y,C,E,z];rw [Bool.eq_iff_iff];simp;done) | (simp [l,o,y,C,E,z];rw [Bool.eq_iff_iff];simp;omega) | (simp [l,o,y,C,E,z];omega) | (simp_all;omega)) (F.trans H)
    refine aX ?_;refine fO ?_;refine WP .r (PV.fa qv rfl)<|(aZ) dG D.range<|(dc) (fun z=>?_) (fun z=>?_)
    ·
     refine WP .r (PV.fa qw rfl)<|(aZ) aN D.range<|?_;exact(cw) (by unfold fq;simp at l o z;first | (simp [l,o,z];done) | (exfalso;simp_all;done) | (simp_all;done) | (simp [l,o,z];rw [Bool.eq_iff_iff];simp;done) | (simp [l,o,z];rw [Bool.eq_iff_iff];simp;omega) | (simp [l,o,z];omega) | (simp_all;omega)) F
    exact(cw) (by unfold fq;simp at l o z;first | (simp [l,o,z];done) | (exfalso;simp_all;done) | (simp_all;done) | (simp [l,o,z];rw [Bool.eq_iff_iff];simp;done) | (simp [l,o,z];rw [Bool.eq_iff_iff];simp;omega) | (simp [l,o,z];omega) | (simp_all;omega)) F
   intro w7 F;have K:=T.trans F;have q:=q.ext F;have D:=D.ext F;refine(aR) (fun L=>?_) fun L=>?_
   ·
    simp at L
    refine aX ?_;refine(bs) ?_;exact⟨false,rfl,⟨fun h=>(by cases h),fun h=>absurd ((h.2 i _ (ak G)).2.1 k _ (ak R)) (by simp [L])⟩,K⟩
   simp at L
   refine ed ?_;refine EX.again (k+1) (Sub.k4 rfl rfl rfl rfl<|Sub.k4 rfl rfl rfl rfl<|Sub.iW rfl (by simp)<|Sub.nil) ⟨K,q,by omega,cG R O L⟩ (by omega)
  simp at g22
  have O:∀j x,aa[i].asks[j]?=some x→fq aa i aa[i].ring j x=true:=fun j x M=>O j x (by have:=(List.getElem?_eq_some_iff.1 M).1;omega) M;refine fO ?_;refine WC.ka (t:=106) (v:=.bool (!gZ aa[i])) (fun wx=>w4=wx) ?_ ?_
  ·
   refine nx ?_;refine WP .r (PV.fa ko rfl)<|(aZ) dG q.range<|(dc) (fun d=>?_) (fun d=>?_)
   ·
    refine WP .r (PV.fa pq rfl)<|(aZ) aN q.range<|(dc) (fun m=>?_) (fun m=>?_)
    ·
     refine aX ?_;refine aX ?_;exact(cw) (by unfold gZ;simp at d m;first | (simp [d,m];done) | (exfalso;simp_all;done) | (simp_all;done) | (simp [d,m];rw [Bool.eq_iff_iff];simp;done) | (simp [d,m];rw [Bool.eq_iff_iff];simp;omega) | (simp [d,m];omega) | (simp_all;omega)) rfl
    refine WP .r (PV.fa kY rfl)<|(aZ) aN q.range<|(dc) (fun p=>?_) (fun p=>?_)
    ·
     refine aX ?_;refine aX ?_;exact(cw) (by unfold gZ;simp at d m p;first | (simp [d,m,p];done) | (exfalso;simp_all;done) | (simp_all;done) | (simp [d,m,p];rw [Bool.eq_iff_iff];simp;done) | (simp [d,m,p];rw [Bool.eq_iff_iff];simp;omega) | (simp [d,m,p];omega) | (simp_all;omega)) rfl
    refine WP .r (PV.fa kY rfl)<|(aZ) aN q.range<|(dc) (fun u=>?_) (fun u=>?_)
    ·
     refine aX ?_;refine aX ?_;exact(cw) (by unfold gZ;simp at d m p u;first | (simp [d,m,p,u];done) | (exfalso;simp_all;done) | (simp_all;done) | (simp [d,m,p,u];rw [Bool.eq_iff_iff];simp;done) | (simp [d,m,p,u];rw [Bool.eq_iff_iff];simp;omega) | (simp [d,m,p,u];omega) | (simp_all;omega)) rfl
    refine WP .r (PV.fa ko rfl)<|(aZ) dG q.range<|(dc) (fun f=>?_) (fun f=>?_)
    ·
     refine WP .r (PV.fa pq rfl)<|(aZ) aN q.range<|(dc) (fun g=>?_) (fun g=>?_)
     ·
      refine aX ?_;exact(cw) (by unfold gZ;simp at d m p u f g;first | (simp [d,m,p,u,f,g];done) | (exfalso;simp_all;done) | (simp_all;done) | (simp [d,m,p,u,f,g];rw [Bool.eq_iff_iff];simp;done) | (simp [d,m,p,u,f,g];rw [Bool.eq_iff_iff];simp;omega) | (simp [d,m,p,u,f,g];omega) | (simp_all;omega)) rfl
     refine WP .r (PV.fa pq rfl)<|(aZ) aN q.range<|(dc) (fun s=>?_) (fun s=>?_)
     ·
      exact(cw) (by unfold gZ;simp at d m p u f g s;first | (simp [d,m,p,u,f,g,s];done) | (exfalso;simp_all;done) | (simp_all;done) | (simp [d,m,p,u,f,g,s];rw [Bool.eq_iff_iff];simp;done) | (simp [d,m,p,u,f,g,s];rw [Bool.eq_iff_iff];simp;omega) | (simp [d,m,p,u,f,g,s];omega) | (simp_all;omega)) rfl
     refine WP .r (PV.fa kY rfl)<|(aZ) aN q.range<|(dc) (fun B=>?_) (fun B=>?_)
     ·
      exact(cw) (by unfold gZ;simp at d m p u f g s B;first | (simp [d,m,p,u,f,g,s,B];done) | (exfalso;simp_all;done) | (simp_all;done) | (simp [d,m,p,u,f,g,s,B];rw [Bool.eq_iff_iff];simp;done) | (simp [d,m,p,u,f,g,s,B];rw [Bool.eq_iff_iff];simp;omega) | (simp [d,m,p,u,f,g,s,B];omega) | (simp_all;omega)) rfl
     refine WP .r (PV.fa kY rfl)<|(aZ) aN q.range<|?_;exact(cw) (by unfold gZ;simp at d m p u f g s B;first | (simp [d,m,p,u,f,g,s,B];done) | (exfalso;simp_all;done) | (simp_all;done) | (simp [d,m,p,u,f,g,s,B];rw [Bool.eq_iff_iff];simp;done) | (simp [d,m,p,u,f,g,s,B];rw [Bool.eq_iff_iff];simp;omega) | (simp [d,m,p,u,f,g,s,B];omega) | (simp_all;omega)) rfl
    refine aX ?_;exact(cw) (by unfold gZ;simp at d m p u f;first | (simp [d,m,p,u,f];done) | (exfalso;simp_all;done) | (simp_all;done) | (simp [d,m,p,u,f];rw [Bool.eq_iff_iff];simp;done) | (simp [d,m,p,u,f];rw [Bool.eq_iff_iff];simp;omega) | (simp [d,m,p,u,f];omega) | (simp_all;omega)) rfl
   refine aX ?_;refine bY ?_;refine WP .r (PV.fa ko rfl)<|(aZ) dG q.range<|(dc) (fun f=>?_) (fun f=>?_)
   ·
    refine WP .r (PV.fa pq rfl)<|(aZ) aN q.range<|(dc) (fun g=>?_) (fun g=>?_)
    ·
     refine aX ?_;exact(cw) (by unfold gZ;simp at d f g;first | (simp [d,f,g];done) | (exfalso;simp_all;done) | (simp_all;done) | (simp [d,f,g];rw [Bool.eq_iff_iff];simp;done) | (simp [d,f,g];rw [Bool.eq_iff_iff];simp;omega) | (simp [d,f,g];omega) | (simp_all;omega)) rfl
    refine WP .r (PV.fa pq rfl)<|(aZ) aN q.range<|(dc) (fun s=>?_) (fun s=>?_)
    ·
     exact(cw) (by unfold gZ;simp at d f g s;first | (simp [d,f,g,s];done) | (exfalso;simp_all;done) | (simp_all;done) | (simp [d,f,g,s];rw [Bool.eq_iff_iff];simp;done) | (simp [d,f,g,s];rw [Bool.eq_iff_iff];simp;omega) | (simp [d,f,g,s];omega) | (simp_all;omega)) rfl
    refine WP .r (PV.fa kY rfl)<|(aZ) aN q.range<|(dc) (fun B=>?_) (fun B=>?_)
    ·
     exact(cw) (by unfold gZ;simp at d f g s B;first | (simp [d,f,g,s,B];done) | (exfalso;simp_all;done) | (simp_all;done) | (simp [d,f,g,s,B];rw [Bool.eq_iff_iff];simp;done) | (simp [d,f,g,s,B];rw [Bool.eq_iff_iff];simp;omega) | (simp [d,f,g,s,B];omega) | (simp_all;omega)) rfl
    refine WP .r (PV.fa kY rfl)<|(aZ) aN q.range<|?_;exact(cw) (by unfold gZ;simp at d f g s B;first | (simp [d,f,g,s,B];done) | (exfalso;simp_all;done) | (simp_all;done) | (simp [d,f,g,s,B];rw [Bool.eq_iff_iff];simp;done) | (simp [d,f,g,s,B];rw [Bool.eq_iff_iff];simp;omega) | (simp [d,f,g,s,B];omega) | (simp_all;omega)) rfl
   refine aX ?_;exact(cw) (by unfold gZ;simp at d f;first | (simp [d,f];done) | (exfalso;simp_all;done) | (simp_all;done) | (simp [d,f];rw [Bool.eq_iff_iff];simp;done) | (simp [d,f];rw [Bool.eq_iff_iff];simp;omega) | (simp [d,f];omega) | (simp_all;omega)) rfl
  rintro _ rfl;refine(aR) (fun N=>?_) fun N=>?_
  ·
   simp at N
   refine(bs) ?_;exact⟨false,rfl,⟨fun h=>(by cases h),fun h=>absurd (h.2 i _ (ak G)).2.2 (by simp [N])⟩,c4⟩
  simp at N
  refine ed ?_;refine EX.again (i+1) (Sub.k2 rfl rfl<|Sub.cons rfl<|Sub.iW rfl (by simp)<|Sub.nil) ⟨c4,by omega,cG G U ⟨by omega,O,N⟩⟩ (by omega)
 simp at g10
 have hY:∀j x,aa[j]?=some x→lP aa j x:=fun j x M=>U j x (by have:=(List.getElem?_eq_some_iff.1 M).1;omega) M;refine gL ?_;refine WP .r (PV.hV jh rfl)<|(bs) ?_;exact⟨_,rfl,⟨fun h=>⟨by simp at h;omega,hY⟩,fun h=>by have:=h.1;simp;omega⟩,c1⟩
set_option maxHeartbeats 400000
theorem Cf :CR prog 6 #[.slice a n c] w (.bool (decide (n≤400))):=by
 refine enter func6 rfl ntmps6 rfl<|?_;have c0:aS [] w w:=aS.refl _ _;refine gL ?_;refine WP .r (PV.hV EJ rfl)<|(bs) ?_;exact⟨by congr 2;exact decide_eq_decide.2 (by omega),c0⟩
theorem E8{l:List Int}(hl:Ints A w a n c l) (f:n≤400):Calls prog 8 #[.slice a n c] w fun e w'=>∃d,e=.returned (.pointer (some ⟨d,0,none⟩))∧w.heap.size≤d∧DT A w' 70 d∧aS [] w w':=by
 refine enter func8 rfl ntmps8 rfl<|?_;have c0:aS [] w w:=aS.refl _ _;refine gL ?_;refine WP .r (PV.bz (us:=[.slice a n c,.int .i64 0]) acP rfl rfl rfl)<|?_;refine WL.go rfl (OX.box rfl rfl rfl fun b5 w1 b g=>?_);have s1:=b.ext;have h:=b.iF c0;have c1:=c0.trans s1;refine(bs) ?_;exact⟨_,rfl,h,⟨l,a,n,c,0,g,SR.ext hl c1,f,by omega⟩,c1⟩
theorem E9{m:Int}{d:Nat}(o:DT A w 70 d) (f:¬A d) (hm:m≤4611686018427387904):Calls prog 23 #[.pointer (some ⟨d,0,none⟩),.int .i64 m] w fun e w'=>∃z:Int,e=.returned (.int .i64 z)∧0≤z∧(1≤m→z<m)∧aS [d] w w'∧DT A w' 70 d:=by
 obtain⟨l,a,n,c,t,hb,hl,i,p⟩:=o;have hlen:=SR.len hl;refine enter func23 rfl ntmps23 rfl<|?_;have c0:aS [d] w w:=aS.refl _ _;refine ed ?_;refine WC.drawn (m:=9) (C:=aS [] w) (T:=fun _=>aS []) (E:=cA []) (bj (trivial)) mixed (by kernel_rfl) (aS.drew _ _)<|bK ?_;refine DP .r (fun _ b=>PV.fa zq rfl)<|DP .r (fun _ b=>PV.ld1 aN (hb.ext b).range rfl rfl)<|bK ?_;refine DP .r (fun _ b=>PV.fa Ke rfl)<|DP .r (fun _ b=>PV.ld1 OS (hb.ext b).range rfl rfl)<|DP .r (fun _ b=>PV.hV EJ rfl)<|(cP)<|?_;rintro w1 s1 _;have c1:=c0.trans s1.nil;have hb:=hb.ext s1;refine(aR) (fun g14=>?_) fun g14=>?_
 ·
  skip
  refine(bs) ?_;exact⟨0,rfl,by omega,fun h=>by omega,c1,l,a,n,c,t,hb,SR.bV hl c1 (by simpa using f) (fun _ _ h=>h),i,p⟩
 simp at g14
 obtain⟨v,x,y,q,_,s,g,u⟩:=SR.at hl (ak (show t<l.length by omega));subst s;refine fO ?_;refine WP .r (PV.fa zq rfl)<|(aZ) aN hb.range<|bK ?_;refine WP .r (PV.fa zq rfl)<|?_;refine WL.go rfl (OX.st GB hb rfl rfl (by first | (simp [nth];done) | exact U9 rfl) rfl rfl fun w2 s2 _ hb=>?_);have c2:=c1.trans s2;refine bY ?_;have g:=aW g c2 (by simp;rintro rfl;exact f u);refine WC.drawn (m:=12) (C:=aS [] w2) (T:=fun _=>aS []) (E:=cA []) (bj (trivial)) mixed (by kernel_rfl) (aS.drew _ _)<|bK ?_;refine DP .r (fun _ b=>PV.fa Ke rfl)<|DP .r (fun _ b=>PV.ld1 OS (hb.ext b).range rfl rfl)<|bK ?_;refine DP .r (fun _ b=>PV.fa zq rfl)<|DP .r (fun _ b=>PV.ld1 aN (hb.ext b).range rfl rfl)<|nx ?_;refine DP .r (fun _ b=>PV.DJ EJ (t) q rfl rfl (by omega) (by omega))<|DP .r (fun _ b=>PV.mf aN (aW g b (by simp)) rfl rfl)<|(cP) ?_;rintro w3 j _;have c3:=c2.trans j.nil;have hb:=hb.ext j;refine(bX) adr (HL (n:=l[t]) (m:=m) (by omega)) ?_;rintro _ w4 ⟨rfl,k⟩;have c4:=c3.trans k.nil;have hb:=hb.ext k;refine(bs) ?_;refine⟨_,rfl,?_,?_,c4,l,a,n,c,t+1,?_,SR.bV hl c4 (by simpa using f) (fun _ _ h=>h),i,by omega⟩
 ·
  split
  ·
   omega
  exact Int.emod_nonneg _ (by omega)
 ·
  intro h;rw [if_neg (by omega)];exact Int.emod_lt_of_pos _ (by omega)
 exact hb
def words:List ByteArray:=[⟨#[48]⟩,⟨#[49]⟩,⟨#[50]⟩,⟨#[51]⟩,⟨#[55]⟩,⟨#[49,48,48]⟩,⟨#[]⟩,⟨#[120]⟩,⟨#[49,54]⟩,⟨#[49]⟩]
theorem Ks:∀s∈words,s.size≤100:=by decide
end Go.Rc

