/- Walks over the program, part WD. Conditions: as each theorem says. -/
import Derived.Test.YtpoiojafnnaccaaGreatDoorTFacts
import Derived.Test.YtpoiojafnnaccaaGreatDoorTWB
import Derived.Test.YtpoiojafnnaccaaGreatDoorTBb
set_option linter.all false
namespace Go.Rc
open Go Go.Proofs Go.Proofs.Tryz
variable {ab:List aJ}{A:Nat→Prop}{a:Option Addr}{r c n:Nat}{w:World}
set_option maxHeartbeats 400000
theorem EB{i:Nat}{x:Ask}{n:Int}(hr:iB A w a r c ab) (hi:i<ab.length):CR prog 112 #[.slice a r c,.int .i64 (i:Int),x.val,.int .i64 n] w (.bool (iX ab i x.cell n)):=by
 have hle:=hr.le;have hlen:=hr.len;have lP:=da hi;refine enter func112 rfl ntmps112 rfl<|?_;have c0:bm [] w w:=bm.refl _ _;refine cV ?_;refine WL.go rfl (OX.box rfl rfl rfl fun b6 w1 mY eO=>?_);have s1:=mY.ext;have gP:=mY.kK c0;have c1:=c0.trans s1;refine jx ?_;refine WP .r (PV.fa zL rfl)<|(bO) fH eO.range<|(br) (fun g12=>?_) fun g12=>?_
 ·
  refine nx ?_;refine WC.po (t:=8) (v:=.bool (decide (0≤n) && decide (n≤15))) (fun wx=>w1=wx) ?_ ?_
  ·
   refine(dW) (fun g15=>?_) (fun g15=>?_)
   ·
    exact(iu) (by simp only [g15];first | rfl | simp) rfl
   exact(iu) (by simp only [g15];first | rfl | simp) rfl
  rintro _ rfl;refine(cj) ?_;exact⟨by unfold iX;rw [if_pos g12],c1⟩
 refine(cW) adZ (yE (n:=(i:Int)) (hr.ext c1)) ?_;rintro _ w2 ⟨rfl,s2⟩;have c2:=c1.trans s2;have eO:=eO.ext s2;refine pQ ?_;obtain⟨b1,o1,r1,oX,_,⟨q1,q2,q3,rfl,_⟩,jH,_⟩:=(hr.ext c2).at (aq hi);refine dy ?_;refine WP .r (PV.fC lS oX rfl rfl (by omega))<|WP .r (PV.fa nT rfl)<|(bO) fH jH<|(br) (fun me=>?_) fun me=>?_
 ·
  have ht:ik ab i=(block ab i).1:=by unfold ik;rw [lP];simp at me;rw [me];rfl
  refine jx ?_;refine WC.po (t:=8) (v:=.bool (decide (0≤n) && decide (n<ik ab i))) (fun wx=>w2=wx) ?_ ?_
  ·
   refine(dW) (fun pG=>?_) (fun pG=>?_)
   ·
    exact(iu) (by simp only [ht,pG];first | rfl | simp) rfl
   exact(iu) (by simp only [ht,pG];first | rfl | simp) rfl
  rintro _ rfl;refine(cj) ?_;exact⟨by unfold iX;rw [g12];rfl,c2⟩
 have ht:ik ab i=(block ab i).2:=by unfold ik;rw [lP];simp at me;rw [me];rfl
 refine dy ?_;refine WC.po (t:=8) (v:=.bool (decide (0≤n) && decide (n<ik ab i))) (fun wx=>w2=wx) ?_ ?_
 ·
  refine(dW) (fun pG=>?_) (fun pG=>?_)
  ·
   exact(iu) (by simp only [ht,pG];first | rfl | simp) rfl
  exact(iu) (by simp only [ht,pG];first | rfl | simp) rfl
 rintro _ rfl;refine(cj) ?_;exact⟨by unfold iX;rw [g12];rfl,c2⟩
theorem BB{s:ByteArray} :CR prog 179 #[.string s] w (.int .i64 (eh s:Int)):=by
 refine enter func179 rfl ntmps179 rfl<|?_;have c0:bm [] w w:=bm.refl _ _;refine(cW) VM (tQ (s:=s)) ?_;rintro _ w1 ⟨rfl,s1⟩;have c1:=c0.trans s1;refine ew ?_;refine WC.nD (t:=11) (v:=.bool (decide (fw s<0) || decide (65535<fw s))) (fun wx=>w1=wx) ?_ ?_
 ·
  refine(dW) (fun g8=>?_) (fun g8=>?_)
  ·
   exact(dq) (by simp only [g8];first | rfl | simp) rfl
  exact(dq) (by simp only [g8];first | rfl | simp) rfl
 rintro _ rfl;refine(br) (fun g11=>?_) fun g11=>?_
 ·
  simp at g11
  have hv:eh s=0:=by unfold eh;rw [if_pos g11]
  refine(cj) ?_;rw [hv];exact⟨rfl,c1⟩
 simp at g11
 have hv:(eh s:Int)=fw s:=by unfold eh;rw [if_neg (by omega)];omega
 refine(cj) ?_;rw [hv];exact⟨rfl,c1⟩
theorem Io{l:List ByteArray}{ring:Bool}{a1:Option Addr}{n1 e1:Nat}{fin:Int}{cc:Nat}(hl:Strs A w a r c l) (hc:cc≤65535) (h6:r≤1000):CR prog 178 #[.agg #[.bool ring,.slice a1 n1 e1,.int .i64 fin,.int .i64 (cc:Int)],.slice a r c] w (.int .i64 (gj fin cc (l.map eh):Int)):=by
 have hlen:=hl.len
 have FO:∀x∈l.map eh,x≤65535:=fun x hx=>by obtain⟨s,_,rfl⟩:=List.mem_map.1 hx;exact oz s
 have C5:∀i,∀x∈(l.map eh).take i,x≤65535:=fun i x hx=>FO x (List.mem_of_mem_take hx);refine enter func178 rfl ntmps178 rfl<|?_;have c0:bm [] w w:=bm.refl _ _;refine cV ?_;refine WL.go rfl (OX.box rfl rfl rfl fun b2 w1 lA eZ=>?_);have s1:=lA.ext;have sk:=lA.kK c0;have c1:=c0.trans s1;refine dC ?_;refine WC.drawn (m:=8) (C:=bm [] w1) (T:=fun _=>bm []) (E:=dx []) (bS (trivial)) mixed (by kernel_rfl) (bm.drew _ _)<|?_;refine DP .r (fun _ hC=>PV.fa oV rfl)<|DP .r (fun _ hC=>PV.ld1 aZ (eZ.ext hC).range rfl rfl)<|DP .r (fun _ hC=>PV.fa oV rfl)<|DP .r (fun _ hC=>PV.ld1 aZ (eZ.ext hC).range rfl rfl)<|DP .r (fun _ hC=>PV.fa oV rfl)<|DP .r (fun _ hC=>PV.ld1 aZ (eZ.ext hC).range rfl rfl)<|(eu) ?_;rintro w2 s2 _;have c2:=c1.trans s2;have eZ:=eZ.ext s2;refine gp ?_;refine WP .r (PV.j9 C3 rfl)<|dC ?_;refine WC.loop (σ:=Nat) (eI:=fun i=>[(2,.pointer (some ⟨b2,0,none⟩)),(5,.int .i64 (Aj cc ((l.map eh).take i):Int)),(6,.int .i64 (ye cc ((l.map eh).take i):Int)),(7,.int .i64 (gL cc ((l.map eh).take i):Int)),(17,.slice a r c),(18,.int .i64 (r:Int)),(19,.int .i64 (i:Int))]) (I:=fun i w'=>bm [] w w'∧cI w' b2 69 [.bool ring,.slice a1 n1 e1,.int .i64 fin,.int .i64 (cc:Int)]∧i≤r) (μ:=fun i=>r - i) 0 Sub.t ⟨c2,eZ,by omega⟩ ?_;rintro i w3 ⟨c3,eZ,hi⟩;refine(br) (fun g20=>?_) fun g20=>?_
 ·
  simp at g20
  have cX:i<l.length:=by omega
  have yF:i<(l.map eh).length:=by simp;omega
  have nc:=zD (c:=cc) (C5 i);have tj:=rP hc (C5 i);have xt:=pr hc (C5 i);have hvi:=oz l[i]
  have ee:((l.map eh).take i).length≤1000:=by rw [List.length_take];omega
  refine ew ?_;obtain⟨b1,o1,r1,oX,_,rfl,jH,_⟩:=(hl.ext c3).at (aq cX);refine nx ?_;refine WP .r (PV.fC C3 oX rfl rfl (by omega))<|WP .r (PV.pT iq jH rfl rfl)<|(cW) V4 (BB (s:=l[i])) ?_;rintro _ w4 ⟨rfl,s4⟩;have c4:=c3.trans s4;have eZ:=eZ.ext s4;refine pQ ?_;refine WP .r (PV.Pm rfl rfl)<|cV ?_;refine WP .r (PV.orN rfl rfl (by omega) (by omega))<|mT ?_;refine EX.again (i+1) (Sub.cons rfl<|Sub.lC rfl (by rw [DS yF,List.getElem_map];omega)<|Sub.lC rfl (by rw [Ak yF,List.getElem_map];omega)<|Sub.lC rfl (by rw [Al yF,List.getElem_map])<|Sub.k2 rfl rfl<|Sub.lC rfl (by simp)<|Sub.nil) ⟨c4,eZ,by omega⟩ (by omega)
 simp at g20
 have cx:(l.map eh).take i=l.map eh:=List.take_of_length_le (by simp;omega);rw [cx];have nc:=zD (c:=cc) FO;have tj:=rP hc FO;have xt:=pr hc FO
 have hll:(l.map eh).length≤1000:=by rw [List.length_map];omega
 refine kE ?_;refine WP .r (PV.fa uK rfl)<|(bO) aZ eZ.range<|(br) (fun vS=>?_) fun vS=>?_
 ·
  simp at vS
  refine dy ?_;refine WP .r (PV.rem rfl rfl (by omega))<|(cj) ?_;exact⟨by unfold gj;rw [if_pos vS,Int.tmod_eq_emod_of_nonneg (by omega)];rfl,c3⟩
 simp at vS
 refine(br) (fun BC=>?_) fun BC=>?_
 ·
  simp at BC
  refine dy ?_;refine WP .r (PV.quo rfl rfl (by omega) (by rw [Int.tdiv_eq_ediv_of_nonneg (by omega)];omega) (by rw [Int.tdiv_eq_ediv_of_nonneg (by omega)];omega))<|WP .r (PV.rem rfl rfl (by omega))<|(cj) ?_;exact⟨by unfold gj;rw [if_neg vS,if_pos BC,Int.tdiv_eq_ediv_of_nonneg (by omega),Int.tmod_eq_emod_of_nonneg (by omega)];rfl,c3⟩
 simp at BC
 refine(br) (fun BD=>?_) fun BD=>?_
 ·
  simp at BD
  refine(cj) ?_;exact⟨by unfold gj;rw [if_neg vS,if_neg BC,if_pos BD],c3⟩
 simp at BD
 refine(br) (fun wQ=>?_) fun wQ=>?_
 ·
  simp at wQ
  refine dy ?_;refine WP .r (PV.rem rfl rfl (by omega))<|(cj) ?_;exact⟨by unfold gj;rw [if_neg vS,if_neg BC,if_neg BD,if_pos wQ,Int.tmod_eq_emod_of_nonneg (by omega)];rfl,c3⟩
 simp at wQ
 refine(cj) ?_;exact⟨by unfold gj;rw [if_neg vS,if_neg BC,if_neg BD,if_neg wQ],c3⟩
theorem K4{k:Key}{ak:List ByteArray}{B C:Nat→Prop}{a2:Option Addr}{r2 e2:Nat}(ht:oj prog A w) (hr:iB B w a r c ab) (hl:Strs C w a2 r2 e2 ak) (hb:∀x∈ab,0≤x.c∧x.c≤65535∧x.asks.length≤1000):CR prog 155 #[.slice a r c,k.val,.slice a2 r2 e2] w ((dN ab k ak).val):=by
 have hle:=hr.le;have hlen:=hr.len;have BE:=hl.len;refine enter func155 rfl ntmps155 rfl<|?_;have c0:bm [] w w:=bm.refl _ _;refine cV ?_;refine WL.go rfl (OX.box rfl rfl rfl fun b4 w1 jE bM=>?_);have s1:=jE.ext;have iS:=jE.kK c0;have c1:=c0.trans s1;refine WL.go rfl (OX.alloc vO rfl fun b6 w2 mY eO=>?_);have s2:=mY.ext;have gP:=mY.kK c1;have et:b4≠b6:=mY.ne bM.lt;have qy:b6≠b4:=Ne.symm et;have c2:=c1.trans s2;have bM:=bM.ext s2;refine(bA) av bM.range<|(cW) Ue (mZ (k:=k)) ?_;rintro _ w3 ⟨rfl,s3⟩;have c3:=c2.trans s3;have bM:=bM.ext s3;have eO:=eO.ext s3;refine ew ?_;refine WC.nD (t:=28) (v:=.bool (decide (number k<0) || (decide ((r:Int)≤number k) || decide (aS ab (number k)≠k)))) (bm [] w3) ?_<|?_
 ·
  refine WC.drawn (m:=13) (C:=bm [] w3) (T:=fun _=>bm []) (E:=dx [(11,fun v _=>v=(aS ab (number k)).val)]) (bS (⟨fun _ _ _ _ _ _ _ h=>h,trivial⟩)) mixed (by kernel_rfl) (bm.drew _ _)<|(tm) (fun g16=>?_) (fun g16=>?_)
  ·
   refine(eu) ?_;rintro w4 s4 _;have c4:=c3.trans s4;have bM:=bM.ext s4;have eO:=eO.ext s4;exact(dq) (by simp only [g16];first | rfl | simp) s4
  refine cV ?_;refine DP .r (fun _ hC=>PV.j9 lS rfl)<|(tm) (fun g22=>?_) (fun g22=>?_)
  ·
   refine(eu) ?_;rintro w4 s4 _;have c4:=c3.trans s4;have bM:=bM.ext s4;have eO:=eO.ext s4;exact(dq) (by simp only [g16,g22];first | rfl | simp) s4
  refine cV ?_;refine DW.e rfl rfl rfl rfl rfl (fun wx hC hF=>OX.call N1 rfl rfl ((mc (n:=number k) (hr.ext (c3.trans hC))).mono ?_))<|?_
  ·
   rintro _ wy ⟨rfl,hy⟩;exact⟨_,rfl,hC.trans hy,hy,_,rfl,rfl⟩
  rintro _ wz _ rfl;refine DP .r (fun _ hC=>PV.MS av (bM.ext hC).range rfl rfl)<|(eu)<|?_;rintro w4 s4 _;have c4:=c3.trans s4;have bM:=bM.ext s4;have eO:=eO.ext s4;refine WP .r (PV.R0 im (p:=aS ab (number k)) (q:=k) rfl rfl)<|?_;exact(dq) (by simp only [g16,g22];first | rfl | simp) s4
 intro w4 s4;have c4:=c3.trans s4;have bM:=bM.ext s4;have eO:=eO.ext s4;refine(br) (fun iG=>?_) fun iG=>?_
 ·
  simp at iG
  have hv:=Po (ak:=ak) (show number k<0∨(ab.length:Int)≤number k∨aS ab (number k)≠k by rw [← hlen];exact iG);refine cV ?_;refine WP .r (PV.cD (us:=[.bool true,.string ⟨#[]⟩,.int .i64 0,.string ⟨#[]⟩]) qV rfl rfl rfl)<|?_;refine WL.go rfl (OX.qJ jn eO rfl rfl rfl rfl rfl fun w5 s5 _ eO=>?_);have c5:=c4.own s5 gP;have bM:=bM.cT s5 (by simp [et]);refine(mU) kW eO.range<|?_;rw [hv];exact⟨rfl,c5⟩
 simp at iG
 obtain⟨g1,g2,g3⟩:=iG;obtain⟨i,rG⟩:∃i:Nat,number k=i:=⟨(number k).toNat,by omega⟩
 have hi:i<ab.length:=by omega
 obtain⟨dO,eZ,dB⟩:=hb _ (List.getElem_mem hi);obtain⟨cc,hcc⟩:∃cc:Nat,ab[i].c=cc:=⟨ab[i].c.toNat,by omega⟩;refine dy ?_;obtain⟨Uh,Ui,Uj,oX,_,⟨q1,q2,q3,rfl,pH⟩,jH,_⟩:=hr.at (aq hi);have jH:=bG jH c4 (by simp);rw [hcc] at jH;have uq:=pH.len;refine dy ?_;refine WP .r (PV.LQ lS (i) oX rfl rfl (by omega) (by omega))<|(bA) yC jH<|nx ?_;refine WP .r (PV.j9 C3 rfl)<|?_;refine WL.go rfl (OX.alloc TG rfl fun b8 w5 zM jm=>?_);have s5:=zM.ext;have xM:=zM.kK c4;have lU:b4≠b8:=zM.ne bM.lt;have K5:b8≠b4:=Ne.symm lU;have BF:b6≠b8:=zM.ne eO.lt;have nV:b8≠b6:=Ne.symm BF;have c5:=c4.trans s5;have bM:=bM.ext s5;have eO:=eO.ext s5;refine WL.go rfl (OX.qJ KU jm rfl rfl rfl rfl rfl fun w6 s6 _ jm=>?_);have c6:=c5.own s6 xM;have bM:=bM.cT s6 (by simp [lU]);have eO:=eO.cT s6 (by simp [BF]);refine gp ?_;refine WP .r (PV.fa xI rfl)<|(bO) nS jm.range<|?_;refine WP .r (PV.j9 C2 rfl)<|(br) (fun BG=>?_) fun BG=>?_
 ·
  simp at BG
  have hv:=sT (ak:=ak) rG hi g3 (by omega);rw [← uq,hcc,Int.toNat_natCast] at hv;have hfl:=sS (kind:=ab[i].final) (c:=cc) (l:=(ak.take q2).map eh) (by omega) (fun x hx=>by obtain⟨s,_,rfl⟩:=List.mem_map.1 hx;exact oz s);refine nx ?_;refine WC.drawn (m:=6) (C:=bm [] w6) (T:=fun _=>bm []) (E:=dx []) (bS (trivial)) mixed (by kernel_rfl) (bm.drew _ _)<|?_;refine DP .r (fun _ hC=>PV.MS yC (jm.ext hC).range rfl rfl)<|nx ?_;refine DP .r (fun _ hC=>PV.fa xI rfl)<|DP .r (fun _ hC=>PV.ld1 nS (jm.ext hC).range rfl rfl)<|DP .r (fun _ hC=>PV.j9 C2 rfl)<|DP .r (fun _ hC=>PV.Af C3 (hl.ext (c6.trans hC)) rfl rfl (by omega))<|(eu)<|?_;rintro w7 s7 _;have c7:=c6.trans s7;have bM:=bM.ext s7;have eO:=eO.ext s7;have jm:=jm.ext s7;refine(cW) aeM (Io (SR.take (hl.ext c7) (by omega)) (show cc≤65535 by omega) (by omega)) ?_;rintro _ w8 ⟨rfl,s8⟩;have c8:=c7.trans s8;have bM:=bM.ext s8;have eO:=eO.ext s8;have jm:=jm.ext s8;refine(cW) Ud (qv (ht.ext c8) (by omega) (by omega)) ?_;rintro _ w9 ⟨rfl,s9⟩;have c9:=c8.trans s9;have bM:=bM.ext s9;have eO:=eO.ext s9;have jm:=jm.ext s9;refine WP .r (PV.cD (us:=[.bool true,.string (itoa ((gj ab[i].final cc ((ak.take q2).map eh)):Int)),.int .i64 0,.string ⟨#[]⟩]) qV rfl rfl rfl)<|?_;refine WL.go rfl (OX.qJ jn eO rfl rfl rfl rfl rfl fun kN pI _ eO=>?_);have QI:=c9.own pI gP;have bM:=bM.cT pI (by simp [et]);have jm:=jm.cT pI (by simp [nV]);refine(mU) kW eO.range<|?_;rw [hv];exact⟨rfl,QI⟩
 simp at BG
 have hn:r2<ab[i].asks.length:=by omega
 have hv:=wZ (ak:=ak) rG hi g3 (by omega);simp only [← BE] at hv;refine dy ?_;obtain⟨bx2,ox2,rx2,CJ,_,rfl,zC,_⟩:=(pH.ext c6).at (aq hn);refine nx ?_;refine WP .r (PV.fa xI rfl)<|(bO) nS jm.range<|nx ?_;refine WP .r (PV.fC C2 CJ rfl rfl (by omega))<|(bA) oT zC<|?_;refine WL.go rfl (OX.alloc Qu rfl fun iI w7 lV fN=>?_);have s7:=lV.ext;have FP:=lV.kK c6;have mf:b4≠iI:=lV.ne bM.lt;have Ip:iI≠b4:=Ne.symm mf;have yG:b6≠iI:=lV.ne eO.lt;have oF:iI≠b6:=Ne.symm yG;have mg:b8≠iI:=lV.ne jm.lt;have sq:iI≠b8:=Ne.symm mg;have c7:=c6.trans s7;have bM:=bM.ext s7;have eO:=eO.ext s7;have jm:=jm.ext s7;refine WL.go rfl (OX.qJ Br fN rfl rfl rfl rfl rfl fun w8 s8 _ fN=>?_);have c8:=c7.own s8 FP;have bM:=bM.cT s8 (by simp [mf]);have eO:=eO.cT s8 (by simp [yG]);have jm:=jm.cT s8 (by simp [mg]);refine dC ?_;refine WP .r (PV.fa FM rfl)<|(bO) aZ fN.range<|ew ?_;refine WC.nD (t:=72) (v:=.bool (gU ab[i].asks[r2] ak)) (bm [] w8) ?_<|?_
 ·
  refine nx ?_;refine WP .r (PV.fa vP rfl)<|(bO) fH fN.range<|(dW) (fun MG=>?_) (fun MG=>?_)
  ·
   refine(dW) (fun g62=>?_) (fun g62=>?_)
   ·
    have jf:gU ab[i].asks[r2] ak=true:=by unfold gU;rw [MG,← BE];simp at g62;simp [g62]
    exact(dq) (by rw [jf]) (bm.refl _ _)
   simp at g62
   obtain⟨bx3,ox3,rx3,ha3,_,rfl,hr3,_⟩:=(hl.ext c8).at (aq (show r2 - 1<ak.length by omega))
   have jf:gU ab[i].asks[r2] ak=decide ((eh ak[r2 - 1]:Int).tmod 2=0):=by
    unfold gU
    simp only [MG,← BE,Bool.true_and];rw [decide_eq_false (by omega),Bool.false_or,getElem!_pos ak (r2 - 1) (by omega),Int.tmod_eq_emod_of_nonneg (by omega)]
    congr 1
    exact propext ⟨fun h=>by omega,fun h=>by omega⟩
   refine dy ?_;refine WP .r (PV.LQ C3 (r2 - 1) ha3 rfl rfl (by omega) (by omega))<|WP .r (PV.pT iq hr3 rfl rfl)<|(cW) V4 (BB (s:=ak[r2 - 1])) ?_;rintro _ w9 ⟨rfl,s9⟩;have c9:=c8.trans s9;have bM:=bM.ext s9;have eO:=eO.ext s9;have jm:=jm.ext s9;have fN:=fN.ext s9;refine WP .r (PV.rem rfl rfl (by omega))<|?_;exact(dq) (by rw [jf]) s9
  have jf:gU ab[i].asks[r2] ak=false:=by unfold gU;rw [MG];rfl
  refine bC ?_;exact(dq) (by rw [jf]) (bm.refl _ _)
 intro w9 s9;have c9:=c8.trans s9;have bM:=bM.ext s9;have eO:=eO.ext s9;have jm:=jm.ext s9;have fN:=fN.ext s9;refine(br) (fun V7=>?_) fun V7=>?_
 ·
  have BH:ui ab[i].asks[r2] ak=ab[i].asks[r2].JX:=by unfold ui;rw [if_pos V7]
  refine nx ?_;refine WP .r (PV.fa vQ rfl)<|(bO) aZ fN.range<|jx ?_;refine WP .r (PV.fa zL rfl)<|(bO) fH fN.range<|(br) (fun oG=>?_) fun oG=>?_
  ·
   rw [BH,if_pos oG] at hv;refine(cW) YS (qw) ?_;rintro _ kN ⟨rfl,pI⟩;have QI:=c9.trans pI;have bM:=bM.ext pI;have eO:=eO.ext pI;have jm:=jm.ext pI;have fN:=fN.ext pI;refine WP .r (PV.cD (us:=[.bool false,.string ⟨#[]⟩,.int .i64 (dQ _).kind,.string (dQ _).text]) qV rfl rfl rfl)<|?_;refine WL.go rfl (OX.qJ jn eO rfl rfl rfl rfl rfl fun kO xN _ eO=>?_);have Y1:=QI.own xN gP;have bM:=bM.cT xN (by simp [et]);have jm:=jm.cT xN (by simp [nV]);have fN:=fN.cT xN (by simp [oF]);refine(mU) kW eO.range<|?_;rw [hv];exact⟨rfl,Y1⟩
  rw [BH,if_neg (by simp [oG])] at hv;refine(cW) N1 (mc (hr.ext c9)) ?_;rintro _ kN ⟨rfl,pI⟩;have QI:=c9.trans pI;have bM:=bM.ext pI;have eO:=eO.ext pI;have jm:=jm.ext pI;have fN:=fN.ext pI;refine WP .r (PV.cD (us:=[.bool false,.string ⟨#[]⟩,.int .i64 (aS ab _).kind,.string (aS ab _).text]) qV rfl rfl rfl)<|?_;refine WL.go rfl (OX.qJ jn eO rfl rfl rfl rfl rfl fun kO xN _ eO=>?_);have Y1:=QI.own xN gP;have bM:=bM.cT xN (by simp [et]);have jm:=jm.cT xN (by simp [nV]);have fN:=fN.cT xN (by simp [oF]);refine(mU) kW eO.range<|?_;rw [hv];exact⟨rfl,Y1⟩
 have BH:ui ab[i].asks[r2] ak=ab[i].asks[r2].n:=by unfold ui;rw [if_neg (by simp [V7])]
 refine ew ?_;refine WP .r (PV.fa zL rfl)<|(bO) fH fN.range<|(br) (fun oG=>?_) fun oG=>?_
 ·
  rw [BH,if_pos oG] at hv;refine(cW) YS (qw) ?_;rintro _ kN ⟨rfl,pI⟩;have QI:=c9.trans pI;have bM:=bM.ext pI;have eO:=eO.ext pI;have jm:=jm.ext pI;have fN:=fN.ext pI;refine WP .r (PV.cD (us:=[.bool false,.string ⟨#[]⟩,.int .i64 (dQ _).kind,.string (dQ _).text]) qV rfl rfl rfl)<|?_;refine WL.go rfl (OX.qJ jn eO rfl rfl rfl rfl rfl fun kO xN _ eO=>?_);have Y1:=QI.own xN gP;have bM:=bM.cT xN (by simp [et]);have jm:=jm.cT xN (by simp [nV]);have fN:=fN.cT xN (by simp [oF]);refine(mU) kW eO.range<|?_;rw [hv];exact⟨rfl,Y1⟩
 rw [BH,if_neg (by simp [oG])] at hv;refine(cW) N1 (mc (hr.ext c9)) ?_;rintro _ kN ⟨rfl,pI⟩;have QI:=c9.trans pI;have bM:=bM.ext pI;have eO:=eO.ext pI;have jm:=jm.ext pI;have fN:=fN.ext pI;refine WP .r (PV.cD (us:=[.bool false,.string ⟨#[]⟩,.int .i64 (aS ab _).kind,.string (aS ab _).text]) qV rfl rfl rfl)<|?_;refine WL.go rfl (OX.qJ jn eO rfl rfl rfl rfl rfl fun kO xN _ eO=>?_);have Y1:=QI.own xN gP;have bM:=bM.cT xN (by simp [et]);have jm:=jm.cT xN (by simp [nV]);have fN:=fN.cT xN (by simp [oF]);refine(mU) kW eO.range<|?_;rw [hv];exact⟨rfl,Y1⟩
theorem Iq(hr:iB A w a r c ab):Calls prog 71 #[.slice a r c] w fun e w'=>∃b:Bool,e=.returned (.bool b)∧(b=true↔ay ab)∧bm [] w w':=by
 have hle:=hr.le;have hlen:=hr.len;refine enter func71 rfl ntmps71 rfl<|?_;have c0:bm [] w w:=bm.refl _ _;refine pQ ?_;refine WP .r (PV.j9 lS rfl)<|dC ?_;refine WC.loop (σ:=Nat) (eI:=fun i=>[(0,.slice a r c),(7,.slice a r c),(8,.int .i64 (r:Int)),(9,.int .i64 (i:Int))]) (I:=fun i w'=>bm [] w w'∧i≤r∧∀j x,j<i→ab[j]?=some x→qa ab j x) (μ:=fun i=>r - i) 0 Sub.t ⟨c0,by omega,fun j x h=>by omega⟩ ?_;rintro i w1 ⟨c1,hi,eL⟩;refine(br) (fun g10=>?_) fun g10=>?_
 ·
  simp at g10
  have cX:i<ab.length:=by omega
  obtain⟨Uh,Ui,Uj,oX,_,⟨q1,q2,q3,rfl,pH⟩,jH,_⟩:=hr.at (aq cX);have uq:=pH.len;have hq:=pH.le;refine ew ?_;have jH:=bG jH c1 (by simp);refine cV ?_;refine WP .r (PV.fC lS oX rfl rfl (by omega))<|(bA) yC jH<|?_;refine WL.go rfl (OX.alloc TG rfl fun b4 w2 jE bM=>?_);have s2:=jE.ext;have iS:=jE.kK c1;have c2:=c1.trans s2;refine nx ?_;refine WL.go rfl (OX.qJ KU bM rfl rfl rfl rfl rfl fun w3 s3 _ bM=>?_);have c3:=c2.own s3 iS;refine ew ?_;refine WP .r (PV.fa xI rfl)<|(bO) nS bM.range<|?_;refine WP .r (PV.j9 C2 rfl)<|(br) (fun g17=>?_) fun g17=>?_
  ·
   simp at g17
   refine(cj) ?_;exact⟨false,rfl,⟨fun h=>(by cases h),fun h=>absurd (h.2 i _ (aq cX)).1 (by omega)⟩,c3⟩
  simp at g17
  refine ew ?_;refine WP .r (PV.fa xI rfl)<|(bO) nS bM.range<|?_;refine WP .r (PV.j9 C2 rfl)<|dC ?_;refine WC.loop (σ:=Nat) (eI:=fun k=>[(0,.slice a r c),(7,.slice a r c),(8,.int .i64 (r:Int)),(9,.int .i64 (i:Int)),(3,.int .i64 (i:Int)),(4,.pointer (some ⟨b4,0,none⟩)),(19,.slice q1 q2 q3),(20,.int .i64 (q2:Int)),(21,.int .i64 (k:Int))]) (I:=fun k w'=>bm [] w w'∧cI w' b4 69 [.bool ab[i].ring,.slice q1 q2 q3,.int .i64 ab[i].final,.int .i64 ab[i].c]∧k≤q2∧∀j x,j<k→ab[i].asks[j]?=some x→gV ab i ab[i].ring j x=true) (μ:=fun k=>q2 - k) 0 Sub.t ⟨c3,bM,by omega,fun j x h=>by omega⟩ ?_;rintro k w4 ⟨c4,bM,hk,Uk⟩;refine(br) (fun g22=>?_) fun g22=>?_
  ·
   simp at g22
   have og:k<ab[i].asks.length:=by omega
   obtain⟨bx2,ox2,rx2,CJ,_,rfl,zC,_⟩:=(pH.ext c4).at (aq og);refine gp ?_;refine WP .r (PV.fC C2 CJ rfl rfl (by omega))<|(bA) oT zC<|?_;refine WL.go rfl (OX.alloc Qu rfl fun b6 w5 mY eO=>?_);have s5:=mY.ext;have gP:=mY.kK c4;have et:b4≠b6:=mY.ne bM.lt;have qy:b6≠b4:=Ne.symm et;have c5:=c4.trans s5;have bM:=bM.ext s5;refine nx ?_;refine WL.go rfl (OX.qJ Br eO rfl rfl rfl rfl rfl fun w6 s6 _ eO=>?_);have c6:=c5.own s6 gP;have bM:=bM.cT s6 (by simp [et]);refine dy ?_;refine WC.nD (t:=63) (v:=.bool (!gV ab i ab[i].ring k ab[i].asks[k])) (bm [] w6) ?_<|?_
   ·
    refine(bA) oT eO.range<|?_;refine WP .r (PV.fa FM rfl)<|(bO) aZ eO.range<|(cW) VN (EB (x:=ab[i].asks[k]) (n:=ab[i].asks[k].n) (hr.ext c6) cX) ?_;rintro _ w7 ⟨rfl,s7⟩;have c7:=c6.trans s7;have bM:=bM.ext s7;have eO:=eO.ext s7;refine(dW) (fun j3=>?_) (fun j3=>?_)
    ·
     refine bC ?_;refine bC ?_;exact(dq) (by unfold gV;simp at j3;first | (simp [j3];done) | (exfalso;simp_all;done) | (simp_all;done) | (simp [j3];rw [Bool.eq_iff_iff];simp;done) | (simp [j3];rw [Bool.eq_iff_iff];simp;omega) | (simp [j3];omega) | (simp_all;omega)) s7
    refine WP .r (PV.fa vP rfl)<|(bO) fH eO.range<|(dW) (fun ir=>?_) (fun ir=>?_)
    ·
     refine WP .r (PV.fa nT rfl)<|(bO) fH bM.range<|(dW) (fun oH=>?_) (fun oH=>?_)
     ·
      refine bC ?_;refine bC ?_;exact(dq) (by unfold gV;simp at j3 ir oH;first | (simp [j3,ir,oH];done) | (exfalso;simp_all;done) | (simp_all;done) | (simp [j3,ir,oH];rw [Bool.eq_iff_iff];simp;done) | (simp [j3,ir,oH];rw [Bool.eq_iff_iff];simp;omega) | (simp [j3,ir,oH];omega) | (simp_all;omega)) s7
     refine(dW) (fun oE=>?_) (fun oE=>?_)
     ·
      refine bC ?_;exact(dq) (by unfold gV;simp at j3 ir oH oE;first | (simp [j3,ir,oH,oE];done) | (exfalso;simp_all;done) | (simp_all;done) | (simp [j3,ir,oH,oE];rw [Bool.eq_iff_iff];simp;done) | (simp [j3,ir,oH,oE];rw [Bool.eq_iff_iff];simp;omega) | (simp [j3,ir,oH,oE];omega) | (simp_all;omega)) s7
     refine(bA) oT eO.range<|?_;refine WP .r (PV.fa vQ rfl)<|(bO) aZ eO.range<|(cW) VN (EB (x:=ab[i].asks[k]) (n:=ab[i].asks[k].JX) (hr.ext c7) cX) ?_;rintro _ w8 ⟨rfl,s8⟩;have c8:=c7.trans s8;have bM:=bM.ext s8;have eO:=eO.ext s8;refine(dW) (fun uQ=>?_) (fun uQ=>?_)
     ·
      exact(dq) (by unfold gV;simp at j3 ir oH oE uQ;first | (simp [j3,ir,oH,oE,uQ];done) | (exfalso;simp_all;done) | (simp_all;done) | (simp [j3,ir,oH,oE,uQ];rw [Bool.eq_iff_iff];simp;done) | (simp [j3,ir,oH,oE,uQ];rw [Bool.eq_iff_iff];simp;omega) | (simp [j3,ir,oH,oE,uQ];omega) | (simp_all;omega)) (s7.trans s8)
     refine WP .r (PV.fa vP rfl)<|(bO) fH eO.range<|(dW) (fun BI=>?_) (fun BI=>?_)
     ·
      refine WP .r (PV.fa vQ rfl)<|(bO) aZ eO.range<|?_;exact(dq) (by unfold gV;simp at j3 ir oH oE uQ BI;first | (simp [j3,ir,oH,oE,uQ,BI];done) | (exfalso;simp_all;done) | (simp_all;done) | (simp [j3,ir,oH,oE,uQ,BI];rw [Bool.eq_iff_iff];simp;done) | (simp [j3,ir,oH,oE,uQ,BI];rw [Bool.eq_iff_iff];simp;omega) | (simp [j3,ir,oH,oE,uQ,BI];omega) | (simp_all;omega)) (s7.trans s8)
     exact(dq) (by unfold gV;simp at j3 ir oH oE uQ BI;first | (simp [j3,ir,oH,oE,uQ,BI];done) | (exfalso;simp_all;done) | (simp_all;done) | (simp [j3,ir,oH,oE,uQ,BI];rw [Bool.eq_iff_iff];simp;done) | (simp [j3,ir,oH,oE,uQ,BI];rw [Bool.eq_iff_iff];simp;omega) | (simp [j3,ir,oH,oE,uQ,BI];omega) | (simp_all;omega)) (s7.trans s8)
    refine bC ?_;refine jx ?_;refine WP .r (PV.fa vP rfl)<|(bO) fH eO.range<|(dW) (fun BI=>?_) (fun BI=>?_)
    ·
     refine WP .r (PV.fa vQ rfl)<|(bO) aZ eO.range<|?_;exact(dq) (by unfold gV;simp at j3 ir BI;first | (simp [j3,ir,BI];done) | (exfalso;simp_all;done) | (simp_all;done) | (simp [j3,ir,BI];rw [Bool.eq_iff_iff];simp;done) | (simp [j3,ir,BI];rw [Bool.eq_iff_iff];simp;omega) | (simp [j3,ir,BI];omega) | (simp_all;omega)) s7
    exact(dq) (by unfold gV;simp at j3 ir BI;first | (simp [j3,ir,BI];done) | (exfalso;simp_all;done) | (simp_all;done) | (simp [j3,ir,BI];rw [Bool.eq_iff_iff];simp;done) | (simp [j3,ir,BI];rw [Bool.eq_iff_iff];simp;omega) | (simp [j3,ir,BI];omega) | (simp_all;omega)) s7
   intro w7 s7;have c7:=c6.trans s7;have bM:=bM.ext s7;have eO:=eO.ext s7;refine(br) (fun g63=>?_) fun g63=>?_
   ·
    simp at g63
    refine bC ?_;refine(cj) ?_;exact⟨false,rfl,⟨fun h=>(by cases h),fun h=>absurd ((h.2 i _ (aq cX)).2.1 k _ (aq og)) (by simp [g63])⟩,c7⟩
   simp at g63
   refine gp ?_;refine EX.again (k+1) (Sub.k4 rfl rfl rfl rfl<|Sub.k4 rfl rfl rfl rfl<|Sub.lC rfl (by simp)<|Sub.nil) ⟨c7,bM,by omega,dJ og Uk g63⟩ (by omega)
  simp at g22
  have Uk:∀j x,ab[i].asks[j]?=some x→gV ab i ab[i].ring j x=true:=fun j x hx=>Uk j x (by have:=(List.getElem?_eq_some_iff.1 hx).1;omega) hx;refine jx ?_;refine WC.nD (t:=106) (v:=.bool (!jX ab[i])) (fun wx=>w4=wx) ?_ ?_
  ·
   refine nx ?_;refine WP .r (PV.fa nT rfl)<|(bO) fH bM.range<|(dW) (fun jF=>?_) (fun jF=>?_)
   ·
    refine WP .r (PV.fa uK rfl)<|(bO) aZ bM.range<|(dW) (fun nW=>?_) (fun nW=>?_)
    ·
     refine bC ?_;refine bC ?_;exact(dq) (by unfold jX;simp at jF nW;first | (simp [jF,nW];done) | (exfalso;simp_all;done) | (simp_all;done) | (simp [jF,nW];rw [Bool.eq_iff_iff];simp;done) | (simp [jF,nW];rw [Bool.eq_iff_iff];simp;omega) | (simp [jF,nW];omega) | (simp_all;omega)) rfl
    refine WP .r (PV.fa oV rfl)<|(bO) aZ bM.range<|(dW) (fun oG=>?_) (fun oG=>?_)
    ·
     refine bC ?_;refine bC ?_;exact(dq) (by unfold jX;simp at jF nW oG;first | (simp [jF,nW,oG];done) | (exfalso;simp_all;done) | (simp_all;done) | (simp [jF,nW,oG];rw [Bool.eq_iff_iff];simp;done) | (simp [jF,nW,oG];rw [Bool.eq_iff_iff];simp;omega) | (simp [jF,nW,oG];omega) | (simp_all;omega)) rfl
    refine WP .r (PV.fa oV rfl)<|(bO) aZ bM.range<|(dW) (fun pf=>?_) (fun pf=>?_)
    ·
     refine bC ?_;refine bC ?_;exact(dq) (by unfold jX;simp at jF nW oG pf;first | (simp [jF,nW,oG,pf];done) | (exfalso;simp_all;done) | (simp_all;done) | (simp [jF,nW,oG,pf];rw [Bool.eq_iff_iff];simp;done) | (simp [jF,nW,oG,pf];rw [Bool.eq_iff_iff];simp;omega) | (simp [jF,nW,oG,pf];omega) | (simp_all;omega)) rfl
    refine WP .r (PV.fa nT rfl)<|(bO) fH bM.range<|(dW) (fun mh=>?_) (fun mh=>?_)
    ·
     refine WP .r (PV.fa uK rfl)<|(bO) aZ bM.range<|(dW) (fun oY=>?_) (fun oY=>?_)
     ·
      refine bC ?_;exact(dq) (by unfold jX;simp at jF nW oG pf mh oY;first | (simp [jF,nW,oG,pf,mh,oY];done) | (exfalso;simp_all;done) | (simp_all;done) | (simp [jF,nW,oG,pf,mh,oY];rw [Bool.eq_iff_iff];simp;done) | (simp [jF,nW,oG,pf,mh,oY];rw [Bool.eq_iff_iff];simp;omega) | (simp [jF,nW,oG,pf,mh,oY];omega) | (simp_all;omega)) rfl
     refine WP .r (PV.fa uK rfl)<|(bO) aZ bM.range<|(dW) (fun tp=>?_) (fun tp=>?_)
     ·
      exact(dq) (by unfold jX;simp at jF nW oG pf mh oY tp;first | (simp [jF,nW,oG,pf,mh,oY,tp];done) | (exfalso;simp_all;done) | (simp_all;done) | (simp [jF,nW,oG,pf,mh,oY,tp];rw [Bool.eq_iff_iff];simp;done) | (simp [jF,nW,oG,pf,mh,oY,tp];rw [Bool.eq_iff_iff];simp;omega) | (simp [jF,nW,oG,pf,mh,oY,tp];omega) | (simp_all;omega)) rfl
     refine WP .r (PV.fa oV rfl)<|(bO) aZ bM.range<|(dW) (fun nX=>?_) (fun nX=>?_)
     ·
      exact(dq) (by unfold jX;simp at jF nW oG pf mh oY tp nX;first | (simp [jF,nW,oG,pf,mh,oY,tp,nX];done) | (exfalso;simp_all;done) | (simp_all;done) | (simp [jF,nW,oG,pf,mh,oY,tp,nX];rw [Bool.eq_iff_iff];simp;done) | (simp [jF,nW,oG,pf,mh,oY,tp,nX];rw [Bool.eq_iff_iff];simp;omega) | (simp [jF,nW,oG,pf,mh,oY,tp,nX];omega) | (simp_all;omega)) rfl
     refine WP .r (PV.fa oV rfl)<|(bO) aZ bM.range<|?_;exact(dq) (by unfold jX;simp at jF nW oG pf mh oY tp nX;first | (simp [jF,nW,oG,pf,mh,oY,tp,nX];done) | (exfalso;simp_all;done) | (simp_all;done) | (simp [jF,nW,oG,pf,mh,oY,tp,nX];rw [Bool.eq_iff_iff];simp;done) | (simp [jF,nW,oG,pf,mh,oY,tp,nX];rw [Bool.eq_iff_iff];simp;omega) | (simp [jF,nW,oG,pf,mh,oY,tp,nX];omega) | (simp_all;omega)) rfl
    refine bC ?_;exact(dq) (by unfold jX;simp at jF nW oG pf mh;first | (simp [jF,nW,oG,pf,mh];done) | (exfalso;simp_all;done) | (simp_all;done) | (simp [jF,nW,oG,pf,mh];rw [Bool.eq_iff_iff];simp;done) | (simp [jF,nW,oG,pf,mh];rw [Bool.eq_iff_iff];simp;omega) | (simp [jF,nW,oG,pf,mh];omega) | (simp_all;omega)) rfl
   refine bC ?_;refine dy ?_;refine WP .r (PV.fa nT rfl)<|(bO) fH bM.range<|(dW) (fun mh=>?_) (fun mh=>?_)
   ·
    refine WP .r (PV.fa uK rfl)<|(bO) aZ bM.range<|(dW) (fun oY=>?_) (fun oY=>?_)
    ·
     refine bC ?_;exact(dq) (by unfold jX;simp at jF mh oY;first | (simp [jF,mh,oY];done) | (exfalso;simp_all;done) | (simp_all;done) | (simp [jF,mh,oY];rw [Bool.eq_iff_iff];simp;done) | (simp [jF,mh,oY];rw [Bool.eq_iff_iff];simp;omega) | (simp [jF,mh,oY];omega) | (simp_all;omega)) rfl
    refine WP .r (PV.fa uK rfl)<|(bO) aZ bM.range<|(dW) (fun tp=>?_) (fun tp=>?_)
    ·
     exact(dq) (by unfold jX;simp at jF mh oY tp;first | (simp [jF,mh,oY,tp];done) | (exfalso;simp_all;done) | (simp_all;done) | (simp [jF,mh,oY,tp];rw [Bool.eq_iff_iff];simp;done) | (simp [jF,mh,oY,tp];rw [Bool.eq_iff_iff];simp;omega) | (simp [jF,mh,oY,tp];omega) | (simp_all;omega)) rfl
    refine WP .r (PV.fa oV rfl)<|(bO) aZ bM.range<|(dW) (fun nX=>?_) (fun nX=>?_)
    ·
     exact(dq) (by unfold jX;simp at jF mh oY tp nX;first | (simp [jF,mh,oY,tp,nX];done) | (exfalso;simp_all;done) | (simp_all;done) | (simp [jF,mh,oY,tp,nX];rw [Bool.eq_iff_iff];simp;done) | (simp [jF,mh,oY,tp,nX];rw [Bool.eq_iff_iff];simp;omega) | (simp [jF,mh,oY,tp,nX];omega) | (simp_all;omega)) rfl
    refine WP .r (PV.fa oV rfl)<|(bO) aZ bM.range<|?_;exact(dq) (by unfold jX;simp at jF mh oY tp nX;first | (simp [jF,mh,oY,tp,nX];done) | (exfalso;simp_all;done) | (simp_all;done) | (simp [jF,mh,oY,tp,nX];rw [Bool.eq_iff_iff];simp;done) | (simp [jF,mh,oY,tp,nX];rw [Bool.eq_iff_iff];simp;omega) | (simp [jF,mh,oY,tp,nX];omega) | (simp_all;omega)) rfl
   refine bC ?_;exact(dq) (by unfold jX;simp at jF mh;first | (simp [jF,mh];done) | (exfalso;simp_all;done) | (simp_all;done) | (simp [jF,mh];rw [Bool.eq_iff_iff];simp;done) | (simp [jF,mh];rw [Bool.eq_iff_iff];simp;omega) | (simp [jF,mh];omega) | (simp_all;omega)) rfl
  rintro _ rfl;refine(br) (fun QJ=>?_) fun QJ=>?_
  ·
   simp at QJ
   refine(cj) ?_;exact⟨false,rfl,⟨fun h=>(by cases h),fun h=>absurd (h.2 i _ (aq cX)).2.2 (by simp [QJ])⟩,c4⟩
  simp at QJ
  refine gp ?_;refine EX.again (i+1) (Sub.k2 rfl rfl<|Sub.cons rfl<|Sub.lC rfl (by simp)<|Sub.nil) ⟨c4,by omega,dJ cX eL ⟨by omega,Uk,QJ⟩⟩ (by omega)
 simp at g10
 have cx:∀j x,ab[j]?=some x→qa ab j x:=fun j x hx=>eL j x (by have:=(List.getElem?_eq_some_iff.1 hx).1;omega) hx;refine kE ?_;refine WP .r (PV.j9 lS rfl)<|(cj) ?_;exact⟨_,rfl,⟨fun h=>⟨by simp at h;omega,cx⟩,fun h=>by have:=h.1;simp;omega⟩,c1⟩
set_option maxHeartbeats 400000
theorem Ir :CR prog 5 #[.slice a n c] w (.bool (decide (n≤400))):=by
 refine enter func5 rfl ntmps5 rfl<|?_;have c0:bm [] w w:=bm.refl _ _;refine kE ?_;refine WP .r (PV.j9 KT rfl)<|(cj) ?_;exact⟨by congr 2;exact decide_eq_decide.2 (by omega),c0⟩
theorem K6{l:List Int}(hl:Ints A w a n c l) (h4:n≤400):Calls prog 7 #[.slice a n c] w fun e w'=>∃d,e=.returned (.pointer (some ⟨d,0,none⟩))∧w.heap.size≤d∧J3 A w' 74 d∧bm [] w w':=by
 refine enter func7 rfl ntmps7 rfl<|?_;have c0:bm [] w w:=bm.refl _ _;refine kE ?_;refine WP .r (PV.cD (us:=[.slice a n c,.int .i64 0]) ajM rfl rfl rfl)<|?_;refine WL.go rfl (OX.box rfl rfl rfl fun b5 w1 mM gz=>?_);have s1:=mM.ext;have uN:=mM.kK c0;have c1:=c0.trans s1;refine(cj) ?_;exact⟨_,rfl,uN,⟨l,a,n,c,0,gz,SR.ext hl c1,h4,by omega⟩,c1⟩
theorem K7{m:Int}{d:Nat}(hd:J3 A w 74 d) (hA:¬A d) (hm:m≤4611686018427387904):Calls prog 11 #[.pointer (some ⟨d,0,none⟩),.int .i64 m] w fun e w'=>∃z:Int,e=.returned (.int .i64 z)∧0≤z∧(1≤m→z<m)∧bm [d] w w'∧J3 A w' 74 d:=by
 obtain⟨l,a,n,c,t,hb,hl,h4,ht4⟩:=hd;have hlen:=SR.len hl;refine enter func11 rfl ntmps11 rfl<|?_;have c0:bm [d] w w:=bm.refl _ _;refine gp ?_;refine WC.drawn (m:=9) (C:=bm [] w) (T:=fun _=>bm []) (E:=dx []) (bS (trivial)) mixed (by kernel_rfl) (bm.drew _ _)<|cV ?_;refine DP .r (fun _ hC=>PV.fa FL rfl)<|DP .r (fun _ hC=>PV.ld1 aZ (hb.ext hC).range rfl rfl)<|cV ?_;refine DP .r (fun _ hC=>PV.fa Qv rfl)<|DP .r (fun _ hC=>PV.ld1 VC (hb.ext hC).range rfl rfl)<|DP .r (fun _ hC=>PV.j9 KT rfl)<|(eu)<|?_;rintro w1 s1 _;have c1:=c0.trans s1.nil;have hb:=hb.ext s1;refine(br) (fun g14=>?_) fun g14=>?_
 ·
  skip
  refine(cj) ?_;exact⟨0,rfl,by omega,fun h=>by omega,c1,l,a,n,c,t,hb,SR.cT hl c1 (by simpa using hA) (fun _ _ h=>h),h4,ht4⟩
 simp at g14
 obtain⟨Uh,Ui,Uj,oX,_,K8,jH,hAb⟩:=SR.at hl (aq (show t<l.length by omega));subst K8;refine jx ?_;refine WP .r (PV.fa FL rfl)<|(bO) aZ hb.range<|cV ?_;refine WP .r (PV.fa FL rfl)<|?_;refine WL.go rfl (OX.st Sf hb rfl rfl (by first | (simp [nth];done) | exact nns rfl) rfl rfl fun w2 s2 _ hb=>?_);have c2:=c1.trans s2;refine dy ?_;have jH:=bG jH c2 (by simp;rintro rfl;exact hA hAb);refine WC.drawn (m:=12) (C:=bm [] w2) (T:=fun _=>bm []) (E:=dx []) (bS (trivial)) mixed (by kernel_rfl) (bm.drew _ _)<|cV ?_;refine DP .r (fun _ hC=>PV.fa Qv rfl)<|DP .r (fun _ hC=>PV.ld1 VC (hb.ext hC).range rfl rfl)<|cV ?_;refine DP .r (fun _ hC=>PV.fa FL rfl)<|DP .r (fun _ hC=>PV.ld1 aZ (hb.ext hC).range rfl rfl)<|nx ?_;refine DP .r (fun _ hC=>PV.LQ KT (t) oX rfl rfl (by omega) (by omega))<|DP .r (fun _ hC=>PV.pT aZ (bG jH hC (by simp)) rfl rfl)<|(eu) ?_;rintro w3 s3 _;have c3:=c2.trans s3.nil;have hb:=hb.ext s3;refine(cW) adO (N9 (n:=l[t]) (m:=m) (by omega)) ?_;rintro _ w4 ⟨rfl,s4⟩;have c4:=c3.trans s4.nil;have hb:=hb.ext s4;refine(cj) ?_;refine⟨_,rfl,?_,?_,c4,l,a,n,c,t+1,?_,SR.cT hl c4 (by simpa using hA) (fun _ _ h=>h),h4,by omega⟩
 ·
  split
  ·
   omega
  exact Int.emod_nonneg _ (by omega)
 ·
  intro h;rw [if_neg (by omega)];exact Int.emod_lt_of_pos _ (by omega)
 exact hb
def words:List ByteArray:=[⟨#[48]⟩,⟨#[49]⟩,⟨#[50]⟩,⟨#[51]⟩,⟨#[55]⟩,⟨#[49,48,48]⟩,⟨#[]⟩,⟨#[120]⟩,⟨#[49,54]⟩,⟨#[49]⟩]
theorem QK:∀s∈words,s.size≤100:=by decide
end Go.Rc

