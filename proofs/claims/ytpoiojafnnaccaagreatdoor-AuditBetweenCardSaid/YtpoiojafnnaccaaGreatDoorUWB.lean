/- Walks over the program, part WB. Conditions: as each theorem says. -/
import Derived.Test.YtpoiojafnnaccaaGreatDoorUFacts
import Derived.Test.YtpoiojafnnaccaaGreatDoorUBb
import Derived.Test.YtpoiojafnnaccaaGreatDoorUBe
import Derived.Test.YtpoiojafnnaccaaGreatDoorShelf
import Derived.Lib.UnsafeStr
set_option linter.all false
namespace Go.Rc
open Go Go.Proofs Go.Proofs.Tryz
variable {n:Int}{w:World}{ab:List aJ}{A:Nat→Prop}{a:Option Addr}{r c:Nat}{k:Key}
set_option maxHeartbeats 400000
theorem Eb{m:Int}(h4:m≤4611686018427387904):CR prog 23 #[.int .i64 n,.int .i64 m] w (.int .i64 (if m<1 then 0 else n % m)):=by
 refine enter func23 rfl ntmps23 rfl<|?_;have c0:bj [] w w:=bj.refl _ _;refine(bp) (fun g6=>?_) fun g6=>?_
 ·
  simp at g6
  refine(cm) ?_;exact⟨by rw [if_pos (by omega)],c0⟩
 simp at g6
 have k1:=Int.tmod_lt_of_pos n (show 0<m by omega);have k2:=Int.lt_tmod_of_pos n (show 0<m by omega);refine jo ?_;refine WP .r (PV.rem rfl rfl (by omega))<|dw ?_;refine WP .r (PV.rem rfl rfl (by omega))<|(cm) ?_;refine⟨?_,c0⟩;rw [if_neg (by omega)]
 congr 2
 rw [Int.tmod_eq_emod_of_nonneg (by omega),Int.add_emod_right,MN]
theorem yn(hr:iW A w a r c ab):CR prog 64 #[.slice a r c,.int .i64 n] w (.tuple #[.int .i64 (block ab n).1,.int .i64 (block ab n).2]):=by
 have hle:=hr.le;have hlen:=hr.len;refine enter func64 rfl ntmps64 rfl<|?_;have c0:bj [] w w:=bj.refl _ _;refine kJ ?_;refine WC.nb (t:=15) (v:=.bool (decide (n<0) || decide ((r:Int)≤n))) (fun wx=>w=wx) ?_ ?_
 ·
  refine(dT) (fun g10=>?_) (fun g10=>?_)
  ·
   exact(dx) (by simp only [g10];first | done | rfl | simp) rfl
  refine db ?_;refine WP .r (PV.j0 lO rfl)<|?_;exact(dx) (by simp only [g10];first | done | rfl | simp) rfl
 rintro _ rfl;refine(bp) (fun g15=>?_) fun g15=>?_
 ·
  have hb:=Dt ab n (by simp at g15;omega);refine(GH) ?_;exact⟨by rw [hb],c0⟩
 obtain⟨nn,rfl⟩:∃i:Nat,n=i:=⟨n.toNat,by simp at g15;omega⟩
 have l3:nn<ab.length:=by simp at g15;omega
 have LF:block ab nn=if aI ab nn then ((cz ab nn:Int),(fw ab (nn+1):Int)) else ((nn:Int),(nn:Int)+1):=by
  unfold block;rw [if_neg (by omega)];rfl
 refine bC ?_;refine nx ?_;refine WC.loop (σ:=Nat) (eI:=fun k=>[(0,.slice a r c),(1,.int .i64 (nn:Int)),(6,.int .i64 (k:Int)),(7,.int .i64 ((nn:Int)+1))]) (I:=fun k w'=>bj [] w w'∧k≤nn∧cz ab k=cz ab nn∧(aI ab nn=false→k=nn)) (μ:=fun k=>k) nn Sub.t ⟨c0,Nat.le_refl _,rfl,fun _=>rfl⟩ ?_;rintro k w1 ⟨c1,hk,Jo,hnr⟩;refine db ?_;obtain⟨b1,o1,r1,oK,_,⟨q1,q2,q3,rfl,_⟩,jG,_⟩:=(hr.ext c1).at (aq l3);refine WC.nb (t:=35) (v:=.bool (ab[nn].ring && (decide ((0:Int)<k) && aI ab (k - 1)))) (fun wx=>w1=wx) ?_ ?_
 ·
  refine dw ?_;refine WP .r (PV.fm lO oK rfl rfl (by omega))<|WP .r (PV.fa nG rfl)<|(bN) fG jG<|(dT) (fun g24=>?_) (fun g24=>?_)
  ·
   refine(dT) (fun iU=>?_) (fun iU=>?_)
   ·
    obtain⟨b2,o2,r2,Co,_,⟨q4,q5,q6,rfl,_⟩,zd,_⟩:=(hr.ext c1).at (aq (show k - 1<ab.length by omega))
    simp at iU
    have tD:ab[k-1].ring=aI ab (k-1):=(da (by omega)).symm;refine dw ?_;refine WP .r (PV.Ls lO (k - 1) Co rfl rfl (by omega) (by omega))<|WP .r (PV.fa nG rfl)<|(bN) fG zd<|?_;exact(dx) (by simp [*]) rfl
   simp at iU
   have Og:¬(0<k):=by omega
   exact(dx) (by simp [*]) rfl
  exact(dx) (by simp [*]) rfl
 rintro _ rfl;refine(bp) (fun NN=>?_) fun NN=>?_
 ·
  simp at NN
  obtain⟨g1,g2,g3⟩:=NN;obtain⟨j,rfl⟩:∃j,k=j+1:=⟨k - 1,by omega⟩;refine qC ?_;refine EX.again j (Sub.k2 rfl rfl<|Sub.lz rfl (by omega)<|Sub.cons rfl<|Sub.nil) ⟨c1,by omega,by rw [← Jo,ve (by simpa using g3)],fun h=>absurd (da l3) (by simp [h,g1])⟩ (by omega)
 simp at NN
 have YM:(block ab nn).1=k:=by
  rw [LF]
  by_cases jG:aI ab nn=true
  ·
   rw [if_pos jG]
   show(cz ab nn:Int)=k
   rw [← Jo,xO]
   by_cases h0:k=0
   ·
    exact .inl h0
   exact .inr (NN (by rw [← da l3];exact jG) (by omega))
  rw [if_neg jG,hnr (by simpa using jG)]
 refine gp ?_;refine WC.loop (σ:=Nat) (eI:=fun m=>[(0,.slice a r c),(1,.int .i64 (nn:Int)),(6,.int .i64 (k:Int)),(7,.int .i64 (m:Int))]) (I:=fun m w'=>bj [] w w'∧nn+1≤m∧m≤r∧fw ab m=fw ab (nn+1)∧(aI ab nn=false→m=nn+1)) (μ:=fun m=>r - m) (nn+1) Sub.t ⟨c1,Nat.le_refl _,by omega,rfl,fun _=>rfl⟩ ?_;rintro m w2 ⟨c2,Cp,jg,Xf,akk⟩;refine db ?_;obtain⟨b1,o1,r1,oK,_,⟨q1,q2,q3,rfl,_⟩,jG,_⟩:=(hr.ext c2).at (aq l3);refine WC.nb (t:=55) (v:=.bool (ab[nn].ring && (decide ((m:Int)<r) && aI ab m))) (fun wx=>w2=wx) ?_ ?_
 ·
  refine dw ?_;refine WP .r (PV.fm lO oK rfl rfl (by omega))<|WP .r (PV.fa nG rfl)<|(bN) fG jG<|(dT) (fun oh=>?_) (fun oh=>?_)
  ·
   refine db ?_;refine WP .r (PV.j0 lO rfl)<|(dT) (fun wC=>?_) (fun wC=>?_)
   ·
    simp at wC
    obtain⟨b2,o2,r2,Co,_,⟨q4,q5,q6,rfl,_⟩,zd,_⟩:=(hr.ext c2).at (aq (show m<ab.length by omega));have tD:ab[m].ring=aI ab m:=(da (by omega)).symm
    have NQ:decide ((m:Int)<r)=true:=by simp;omega
    refine db ?_;refine WP .r (PV.fm lO Co rfl rfl (by omega))<|WP .r (PV.fa nG rfl)<|(bN) fG zd<|?_;exact(dx) (by first | (rw [tD,oh,NQ];rfl) | simp [*]) rfl
   simp at wC
   have Og:¬(m<ab.length):=by omega
   exact(dx) (by first | (rw [tD,oh,NQ];rfl) | simp [*]) rfl
  refine bC ?_;exact(dx) (by first | (rw [tD,oh,NQ];rfl) | simp [*]) rfl
 rintro _ rfl;refine(bp) (fun Be=>?_) fun Be=>?_
 ·
  simp at Be
  obtain⟨g1,g2,g3⟩:=Be;refine qC ?_;refine EX.again (m+1) (Sub.k2 rfl rfl<|Sub.cons rfl<|Sub.lz rfl (by omega)<|Sub.nil) ⟨c2,by omega,by omega,by rw [← Xf,← xN g3],fun h=>absurd (da l3) (by simp [h,g1])⟩ (by omega)
 simp at Be
 have YN:(block ab nn).2=m:=by
  rw [LF]
  by_cases jG:aI ab nn=true
  ·
   rw [if_pos jG]
   show(fw ab (nn+1):Int)=m
   rw [← Xf,zO]
   rcases Nat.lt_or_ge m r with h0 | h0
   ·
    exact Be (by rw [← da l3];exact jG) (by omega)
   exact pQ (by omega)
  rw [if_neg jG,akk (by simpa using jG)];rfl
 refine bC ?_;refine(GH) ?_;exact⟨by rw [YM,YN],c2⟩
theorem Qo(w:World) (k:Nat) (os:Array Obj):bj [] w (Sort.grow (w.drewN k) os):=⟨rfl,rfl,rfl,by simp [Sort.grow],Nat.le_add_right _ _,fun i hi _=>Sort.heap_grow_old (w.drewN k) os (k:=i) hi⟩
theorem Ec(w:World) (e:TypeId) (s:ByteArray):bj [] w (Lib.bytesWorld w e s):=bj.Hj (Lib.bytesWorld_below _ _ _) (by
 unfold Lib.bytesWorld
 rw [vi];exact Nat.le_succ _)
theorem Bf(i:Nat):itoa (i:Int)=⟨(Lib.decDigits i).toArray⟩:=by
 unfold itoa Lib.itoa
 rw [if_neg (by omega),Int.toNat_natCast]
theorem lP(h0:0≤n) (h1:n≤99) (w:World):CR prog 57 #[.int .i64 n] w (.string (itoa n)):=by
 obtain⟨i,rfl⟩:∃i:Nat,n=i:=⟨n.toNat,by omega⟩
 exact(strconv_Itoa_small i (by omega) w).mono fun e w' ⟨he,hw⟩=>⟨by rw [he,Bf],by rw [hw];exact bj.refl _ _⟩
theorem qm(ht:oy prog A w) (h0:-9223372036854775808≤n) (h1:n≤9223372036854775807):CR prog 57 #[.int .i64 n] w (.string (itoa n)):=
 (strconv_Itoa n h0 h1 w (by obtain⟨⟨b,_,_,h⟩,_⟩:=ht;exact h w rfl)).mono fun e w' ⟨he,k,os,hw⟩=>⟨he,by rw [hw];exact Qo _ _ _⟩
theorem tH(s t:ByteArray) (w:World):CR prog 68 #[.string s,.string t] w (.int .i64 (Lib.compareBytes s.data.toList t.data.toList)):=
 (strings_Compare s t w).mono fun e w' ⟨he,hw⟩=>⟨he,by rw [hw];exact bj.refl _ _⟩
theorem Ed{d acc:Nat}(hd:d<10) (ha:acc<100000000000000000):Lib.parseUint10 acc [UInt8.ofNat (48+d)]=.ok (acc*10+d):=by
 have h:(UInt8.ofNat (48+d)).toNat=48+d:=by
  rw [UInt8.toNat_ofNat']
  omega
 simp only [Lib.parseUint10,h];rw [if_pos (by omega),if_neg (by omega),if_neg (by omega)]
 congr 1
 omega
theorem Bg(b:UInt8):∀(l:List UInt8) (acc u:Nat),Lib.parseUint10 acc l=.ok u→Lib.parseUint10 acc (l++[b])=Lib.parseUint10 u [b]
 | [],acc,u,h=>by
  simp only [Lib.parseUint10] at h
  injection h with h
  subst h
  rfl
 | c::r,acc,u,h=>by
  have ih:=fun a=>Bg b r a u
  generalize Lib.parseUint10 u [b]=X at ih ⊢
  simp only [List.cons_append,Lib.parseUint10] at h ⊢
  split at h
  ·
   rename_i h1
   rw [if_pos h1]
   split at h
   ·
    cases h
   rename_i h2
   rw [if_neg h2]
   split at h
   ·
    cases h
   rename_i h3
   rw [if_neg h3];exact ih _ h
  cases h
theorem Ee(n:Nat) (hn:n≤99999):Lib.parseUint10 0 (Lib.decDigits n)=.ok n:=by
 by_cases h:n<10
 ·
  rw [Lib.decDigits,dif_pos h];have h1:=Ed (acc:=0) h (by omega);rw [Nat.zero_mul,Nat.zero_add] at h1;exact h1
 rw [Lib.decDigits,dif_neg h,Bg _ _ _ _ (Ee (n / 10) (by omega)),Ed (by omega) (by omega)]
 congr 1
 omega
termination_by n
decreasing_by omega
theorem H3(n:Nat):∃b r,Lib.decDigits n=b::r∧48≤b.toNat:=by
 by_cases h:n<10
 ·
  refine⟨UInt8.ofNat (48+n),[],by rw [Lib.decDigits,dif_pos h],?_⟩;rw [UInt8.toNat_ofNat']
  omega
 obtain⟨b,r,h1,h2⟩:=H3 (n / 10);exact⟨b,r++[UInt8.ofNat (48+n % 10)],by rw [Lib.decDigits,dif_neg h,h1,List.cons_append],h2⟩
termination_by n
decreasing_by omega
theorem Mo(n:Nat):(Lib.decDigits n).length≤n+1:=by
 by_cases h:n<10
 ·
  rw [Lib.decDigits,dif_pos h,List.length_singleton]
  omega
 have h1:=Mo (n / 10);rw [Lib.decDigits,dif_neg h,List.length_append,List.length_singleton]
 omega
termination_by n
decreasing_by omega
theorem Qp{n:Nat}(hn:n≤99999):Lib.atoiAll (Lib.decDigits n)=.ok (n:Int):=by
 obtain⟨b,r,h1,h2⟩:=H3 n;have h3:=Ee n hn;rw [h1] at h3 ⊢;rw [Lib.atoiAll_plain b r (by omega) (by omega)]
 unfold Lib.parseMag
 rw [if_neg (by simp),h3]
 show(if 9223372036854775808≤n then Lib.NumEnd.range else .ok (n:Int))=.ok (n:Int)
 rw [if_neg (by omega)]
theorem H4{n:Nat}(h:n≤99999) (w:World):CR prog 171 #[.string (itoa n)] w (.tuple #[.int .i64 (n:Int),.nilIface]):=by
 have hs:(itoa (n:Int)).data.toList=Lib.decDigits n:=(congrArg (fun x:ByteArray=>x.data.toList) (Bf n)).trans rfl
 refine(strconv_Atoi_ok (itoa n) ?_ n (by rw [hs];exact Qp h) w).mono fun e w' ⟨he,hw⟩=>⟨he,?_⟩
 ·
  have h1:=Mo n;rw [Bf]
  show(Lib.decDigits n).toArray.size≤9223372036854775806
  rw [List.size_toArray]
  omega
 rcases hw with rfl | ⟨t,rfl⟩
 ·
  exact bj.refl _ _
 exact Ec _ _ _
theorem KD{n:Nat}(h:n≤99) (w:World):CR prog 171 #[.string (itoa n)] w (.tuple #[.int .i64 (n:Int),.nilIface]):=H4 (by omega) w
set_option maxHeartbeats 400000
theorem H5 :CR prog 78 #[.int .i64 n] w (.bool (pR n)):=by
 refine enter func78 rfl ntmps78 rfl<|?_;have c0:bj [] w w:=bj.refl _ _;refine jo ?_;refine WC.o8 (t:=2) (v:=.bool (pR n)) (fun wx=>w=wx) ?_ ?_
 ·
  refine(dT) (fun g5=>?_) (fun g5=>?_)
  ·
   refine bC ?_;exact(iw) (by unfold pR;simp only [g5];first | rfl | simp) rfl
  refine(dT) (fun g9=>?_) (fun g9=>?_)
  ·
   exact(iw) (by unfold pR;simp only [g5,g9];first | rfl | simp) rfl
  refine(dT) (fun g13=>?_) (fun g13=>?_)
  ·
   exact(iw) (by unfold pR;simp only [g5,g9,g13];first | rfl | simp) rfl
  exact(iw) (by unfold pR;simp only [g5,g9,g13];first | rfl | simp) rfl
 rintro _ rfl;refine(cm) ?_;exact⟨rfl,c0⟩
theorem fM :CR prog 31 #[k.val] w (.bool (aB k)):=by
 refine enter func31 rfl ntmps31 rfl<|?_;have c0:bj [] w w:=bj.refl _ _;refine db ?_;refine WL.go rfl (OX.box rfl rfl rfl fun b1 w1 pK dQ=>?_);have s1:=pK.ext;have uC:=pK.kI c0;have c1:=c0.trans s1;refine dF ?_;refine WC.o8 (t:=2) (v:=.bool (aB k)) (fun wx=>w1=wx) ?_ ?_
 ·
  refine nx ?_;refine WP .r (PV.fa fh rfl)<|(bN) aX dQ.range<|(dT) (fun g6=>?_) (fun g6=>?_)
  ·
   exact(iw) (by unfold aB;simp only [g6];first | rfl | simp) rfl
  refine WP .r (PV.fa fh rfl)<|(bN) aX dQ.range<|(dT) (fun g11=>?_) (fun g11=>?_)
  ·
   exact(iw) (by unfold aB;simp only [g6,g11];first | rfl | simp) rfl
  refine WP .r (PV.fa fh rfl)<|(bN) aX dQ.range<|?_;exact(iw) (by unfold aB;simp only [g6,g11];first | rfl | simp) rfl
 rintro _ rfl;refine(cm) ?_;exact⟨rfl,c1⟩
theorem qn :CR prog 69 #[.int .i64 n] w ((eL n).val):=by
 refine enter func69 rfl ntmps69 rfl<|?_;have c0:bj [] w w:=bj.refl _ _;refine db ?_;refine WL.go rfl (OX.alloc Kx rfl fun b2 w1 lB eZ=>?_);have s1:=lB.ext;have rZ:=lB.kI c0;have c1:=c0.trans s1;refine dF ?_;refine WC.nb (t:=8) (v:=.bool (decide (n<0) || decide (99<n))) (fun wx=>w1=wx) ?_ ?_
 ·
  refine(dT) (fun g5=>?_) (fun g5=>?_)
  ·
   exact(dx) (by simp only [g5];first | rfl | simp) rfl
  exact(dx) (by simp only [g5];first | rfl | simp) rfl
 rintro _ rfl;refine(bp) (fun g8=>?_) fun g8=>?_
 ·
  have hk:eL n=fW:=by unfold eL;rw [if_pos (by simp at g8;omega)]
  refine db ?_;refine WP .r (PV.cD (us:=[.int .i64 0,.string ⟨#[]⟩]) HW rfl rfl rfl)<|?_;refine WL.go rfl (OX.qx jH eZ rfl rfl rfl rfl rfl fun w2 s2 _ eZ=>?_);have c2:=c1.own s2 rZ;refine(mI) av eZ.range<|?_;rw [hk];exact⟨rfl,c2⟩
 simp at g8
 have hk:eL n=⟨30,itoa n⟩:=by unfold eL;rw [if_neg (by omega)]
 refine(df) TQ (lP (n:=n) (by omega) (by omega) w1) ?_;rintro _ w2 ⟨rfl,s2⟩;have c2:=c1.trans s2;have eZ:=eZ.ext s2;refine WP .r (PV.cD (us:=[.int .i64 30,.string (itoa n)]) HW rfl rfl rfl)<|?_;refine WL.go rfl (OX.qx jH eZ rfl rfl rfl rfl rfl fun w3 s3 _ eZ=>?_);have c3:=c2.own s3 rZ;refine(mI) av eZ.range<|?_;rw [hk];exact⟨rfl,c3⟩
theorem l8(hr:iW A w a r c ab):CR prog 25 #[.slice a r c,.int .i64 n] w ((aQ ab n).val):=by
 have hle:=hr.le;have hlen:=hr.len;refine enter func25 rfl ntmps25 rfl<|?_;have c0:bj [] w w:=bj.refl _ _;refine db ?_;refine WL.go rfl (OX.alloc Kx rfl fun b4 w1 jS bL=>?_);have s1:=jS.ext;have iR:=jS.kI c0;have c1:=c0.trans s1;refine dF ?_;refine WC.nb (t:=17) (v:=.bool (decide (n<0) || (decide ((r:Int)≤n) || decide (99<n)))) (fun wx=>w1=wx) ?_ ?_
 ·
  refine(dT) (fun g8=>?_) (fun g8=>?_)
  ·
   exact(dx) (by simp only [g8];first | rfl | simp) rfl
  refine db ?_;refine WP .r (PV.j0 lO rfl)<|(dT) (fun g14=>?_) (fun g14=>?_)
  ·
   exact(dx) (by simp only [g8,g14];first | rfl | simp) rfl
  exact(dx) (by simp only [g8,g14];first | rfl | simp) rfl
 rintro _ rfl;refine(bp) (fun g17=>?_) fun g17=>?_
 ·
  have hk:aQ ab n=fW:=by unfold aQ;rw [if_pos (by simp at g17;omega)]
  refine db ?_;refine WP .r (PV.cD (us:=[.int .i64 0,.string ⟨#[]⟩]) HW rfl rfl rfl)<|?_;refine WL.go rfl (OX.qx jH bL rfl rfl rfl rfl rfl fun w2 s2 _ bL=>?_);have c2:=c1.own s2 iR;refine(mI) av bL.range<|?_;rw [hk];exact⟨rfl,c2⟩
 simp at g17
 obtain⟨i,rfl⟩:∃i:Nat,n=i:=⟨n.toNat,by omega⟩
 have hi:i<ab.length:=by omega
 have hk:aQ ab i=⟨if aI ab i then 32 else 31,itoa i⟩:=by unfold aQ;rw [if_neg (by omega)];rfl
 have lL:=da hi;refine(df) TQ (lP (n:=(i:Int)) (by omega) (by omega) w1) ?_;rintro _ w2 ⟨rfl,s2⟩;have c2:=c1.trans s2;have bL:=bL.ext s2;refine WP .r (PV.cD (us:=[.int .i64 31,.string (itoa i)]) HW rfl rfl rfl)<|?_;refine WL.go rfl (OX.alloc Kx rfl fun b5 w3 nH gI=>?_);have s3:=nH.ext;have uD:=nH.kI c2;have nI:b4≠b5:=nH.ne bL.lt;have uE:b5≠b4:=Ne.symm nI;have c3:=c2.trans s3;have bL:=bL.ext s3;refine WL.go rfl (OX.qx jH gI rfl rfl rfl rfl rfl fun w4 s4 _ gI=>?_);have c4:=c3.own s4 uD;have bL:=bL.cX s4 (by simp [nI]);refine dF ?_;obtain⟨b1,o1,r1,oK,_,⟨q1,q2,q3,rfl,_⟩,jG,_⟩:=(hr.ext c4).at (aq hi);refine dw ?_;refine WP .r (PV.fm lO oK rfl rfl (by omega))<|WP .r (PV.fa nG rfl)<|(bN) fG jG<|(bp) (fun kX=>?_) fun kX=>?_
 ·
  have nQ:aQ ab i=⟨32,itoa i⟩:=by rw [hk,lL,kX];rfl
  refine nx ?_;refine WP .r (PV.fa fh rfl)<|?_;refine WL.go rfl (OX.st RW gI rfl rfl (by first | (simp [nth];done) | exact nns rfl) rfl rfl fun w5 s5 _ gI=>?_);have c5:=c4.own s5 uD;have bL:=bL.cX s5 (by simp [nI]);refine(bz) av gI.range<|?_;refine WL.go rfl (OX.qx jH bL rfl rfl rfl rfl rfl fun w6 s6 _ bL=>?_);have c6:=c5.own s6 iR;have gI:=gI.cX s6 (by simp [uE]);refine(mI) av bL.range<|?_;rw [nQ];exact⟨rfl,c6⟩
 have nQ:aQ ab i=⟨31,itoa i⟩:=by rw [hk,lL,kX];rfl
 refine(bz) av gI.range<|?_;refine WL.go rfl (OX.qx jH bL rfl rfl rfl rfl rfl fun w5 s5 _ bL=>?_);have c5:=c4.own s5 iR;have gI:=gI.cX s5 (by simp [uE]);refine(mI) av bL.range<|?_;rw [nQ];exact⟨rfl,c5⟩
theorem sX{l:List Key}(hl:zI A w a r c l):CR prog 21 #[.slice a r c,k.val] w (.bool (decide (k∈l))):=by
 have hle:=hl.le;have hlen:=hl.len;refine enter func21 rfl ntmps21 rfl<|?_;have c0:bj [] w w:=bj.refl _ _;refine db ?_;refine WL.go rfl (OX.box rfl rfl rfl fun b3 w1 ic dA=>?_);have s1:=ic.ext;have r5:=ic.kI c0;have c1:=c0.trans s1;refine gp ?_;refine WP .r (PV.j0 fL rfl)<|dF ?_;refine WC.loop (σ:=Nat × World) (eI:=fun s=>[(3,.pointer (some ⟨b3,0,none⟩)),(7,.slice a r c),(8,.int .i64 (r:Int)),(9,.int .i64 (s.1:Int))]) (I:=fun s w'=>bj [] w w'∧cJ w' b3 58 [.int .i64 k.kind,.string k.text]∧s.1≤r∧k∉l.take s.1) (μ:=fun s=>r - s.1) (0,w) Sub.t ⟨c1,dA,by omega,by simp⟩ ?_;rintro⟨i,_⟩ w2 ⟨c2,dA,hi,gh⟩;refine(bp) (fun g10=>?_) fun g10=>?_
 ·
  simp at g10
  have cV:i<l.length:=by omega
  refine eA ?_;obtain⟨b1,o1,r1,oK,_,rfl,jG,_⟩:=(hl.ext c2).at (aq cV);refine nx ?_;refine WP .r (PV.fm fL oK rfl rfl (by omega))<|(bz) av jG<|?_;refine WL.go rfl (OX.alloc Kx rfl fun b6 w3 mV eM=>?_);have s3:=mV.ext;have gO:=mV.kI c2;have gD:b3≠b6:=mV.ne dA.lt;have uF:b6≠b3:=Ne.symm gD;have c3:=c2.trans s3;have dA:=dA.ext s3;refine WL.go rfl (OX.qx jH eM rfl rfl rfl rfl rfl fun w4 s4 _ eM=>?_);have c4:=c3.own s4 gO;have dA:=dA.cX s4 (by simp [gD]);refine(bz) av eM.range<|(bz) av dA.range<|?_;refine WP .r (PV.G3 gB (p:=l[i]) (q:=k) rfl rfl)<|(bp) (fun g15=>?_) fun g15=>?_
  ·
   simp at g15
   refine(cm) ?_;exact⟨by rw [decide_eq_true (g15 ▸ List.getElem_mem cV)],c4⟩
  simp at g15
  refine gp ?_;refine EX.again (i+1,w) (Sub.k2 rfl rfl<|Sub.cons rfl<|Sub.lz rfl (by simp)<|Sub.nil) ⟨c4,dA,by omega,by have h:=List.take_succ_eq_append_getElem cV;simp only [h,List.mem_append,List.mem_singleton,not_or];exact⟨gh,fun e=>g15 e.symm⟩⟩ (by simp;omega)
 simp at g10
 have cy:k∉l:=by rw [← List.take_of_length_le (show l.length≤i by omega)];exact gh
 refine(cm) ?_;exact⟨by rw [decide_eq_false cy],c2⟩
theorem tI{s:ByteArray} :CR prog 110 #[.string s] w (.int .i64 (fA s)):=by
 have he:=Du s;have hz:=zP s;refine enter func110 rfl ntmps110 rfl<|?_;have c0:bj [] w w:=bj.refl _ _;refine gp ?_;refine WC.nb (t:=20) (v:=.bool (pS s)) (fun wx=>w=wx) ?_ ?_
 ·
  refine(dT) (fun g7=>?_) (fun g7=>?_)
  ·
   refine bC ?_;exact(dx) (by unfold pS;first | (simp only [g7,Qq];done) | (simp only [g7,Qq];rfl) | (simp only [g7];rfl)) rfl
  skip
  refine nx ?_;refine WP .r (PV.zz xo rfl)<|(dT) (fun g12=>?_) (fun g12=>?_)
  ·
   exact(dx) (by unfold pS;first | (simp only [g7,g12,Qq];done) | (simp only [g7,g12,Qq];rfl) | (simp only [g7,g12];rfl)) rfl
  have h7:=of_decide_eq_false g7;rw [he] at h7;obtain⟨b0,Nx,Qq⟩:=G9 s (by omega);refine nx ?_;refine WP .r (PV.Si xo (i:=0) rfl rfl Nx)<|(dT) (fun g16=>?_) (fun g16=>?_)
  ·
   exact(dx) (by unfold pS;first | (simp only [g7,g12,g16,Qq];done) | (simp only [g7,g12,g16,Qq];rfl) | (simp only [g7,g12,g16];rfl)) rfl
  exact(dx) (by unfold pS;first | (simp only [g7,g12,g16,Qq];done) | (simp only [g7,g12,g16,Qq];rfl) | (simp only [g7,g12,g16];rfl)) rfl
 rintro _ rfl;refine(bp) (fun g20=>?_) fun g20=>?_
 ·
  have hd:fA s = -1:=by rw [xP];rw [if_pos g20]
  refine(cm) ?_;rw [hd];exact⟨rfl,c0⟩
 have hd:fA s=decFrom s.data.toList 0:=by rw [xP,g20];rfl
 have hs9:=MO g20;refine bC ?_;refine db ?_;refine WC.loop (σ:=Nat × Nat) (eI:=fun p=>[(0,.string s),(3,.int .i64 (p.2:Int)),(4,.int .i64 (p.1:Int))]) (I:=fun p w'=>bj [] w w'∧p.1≤s.size∧p.2<10 ^ p.1∧decFrom s.data.toList 0=decFrom (s.data.toList.drop p.1) p.2) (μ:=fun p=>s.size - p.1) (0,0) Sub.t ⟨c0,by simp,by simp,by simp⟩ ?_;rintro⟨i,n⟩ w1 ⟨c1,hi,hn,hdf⟩;simp only at hi hn hdf;have hn9:n<10 ^ 9:=Nat.lt_of_lt_of_le hn (Nat.pow_le_pow_right (by omega) (by omega));refine eA ?_;refine WP .r (PV.zz xo rfl)<|(bp) (fun g24=>?_) fun g24=>?_
 ·
  simp at g24
  obtain⟨b0,Nx,Ef⟩:=EG s (n:=(n:Int)) g24;refine jo ?_;refine WC.nb (t:=36) (v:=.bool (decide ((b0.toNat:Int)<48) || decide (57<(b0.toNat:Int)))) (fun wx=>w1=wx) ?_ ?_
  ·
   refine dw ?_;refine WP .r (PV.Si xo (i:=i) rfl rfl Nx)<|(dT) (fun px=>?_) (fun px=>?_)
   ·
    exact(dx) (by simp only [px];first | rfl | simp) rfl
   refine db ?_;refine WP .r (PV.Si xo (i:=i) rfl rfl Nx)<|?_;exact(dx) (by simp only [px];first | rfl | simp) rfl
  rintro _ rfl;refine(bp) (fun ir=>?_) fun ir=>?_
  ·
   have RF:fA s = -1:=by rw [hd,hdf,Ef,if_pos (by simp at ir;omega)]
   refine(cm) ?_;rw [RF];exact⟨rfl,c1⟩
  simp at ir
  rw [if_neg (by omega)] at Ef;have arJ:10 ^ (i+1)=10*10 ^ i:=Nat.pow_succ';refine dF ?_;refine WP .r (PV.mul rfl rfl (by omega) (by omega))<|db ?_;refine WP .r (PV.Si xo (i:=i) rfl rfl Nx)<|WP .r (PV.abS rfl rfl (by omega) (by omega))<|WP .r (PV.conv ⟨_,ajr⟩ ajq rfl (by omega) (by omega))<|nj ?_;refine EX.again (i+1,10*n+(b0.toNat - 48)) (Sub.cons rfl<|Sub.lz rfl (by simp;omega)<|Sub.lz rfl (by simp)<|Sub.nil) ⟨c1,by simp;omega,by simp only;omega,by simp only;rw [hdf,Ef];congr 1;omega⟩ (by simp only;omega)
 simp at g24
 have RF:fA s=n:=by rw [hd,hdf,List.drop_eq_nil_of_le (by rw [Array.length_toList];exact g24)];rfl
 refine(cm) ?_;rw [RF];exact⟨rfl,c1⟩
theorem mN :CR prog 66 #[k.val] w (.int .i64 (number k)):=by
 refine enter func66 rfl ntmps66 rfl<|?_;have c0:bj [] w w:=bj.refl _ _;refine db ?_;refine WL.go rfl (OX.box rfl rfl rfl fun b1 w1 pK dQ=>?_);have s1:=pK.ext;have uC:=pK.kI c0;have c1:=c0.trans s1;refine jo ?_;refine WP .r (PV.fa uw rfl)<|(bN) iq dQ.range<|(df) Vw (tI (s:=k.text)) ?_;rintro _ w2 ⟨rfl,s2⟩;have c2:=c1.trans s2;have dQ:=dQ.ext s2;refine dF ?_;refine WC.nb (t:=18) (v:=.bool (decide (30≤k.kind) && (decide (k.kind≤32) && decide (fA k.text≤99)))) (fun wx=>w2=wx) ?_ ?_
 ·
  refine nx ?_;refine WP .r (PV.fa fh rfl)<|(bN) aX dQ.range<|(dT) (fun g10=>?_) (fun g10=>?_)
  ·
   refine WP .r (PV.fa fh rfl)<|(bN) aX dQ.range<|(dT) (fun g15=>?_) (fun g15=>?_)
   ·
    exact(dx) (by simp only [g10,g15];first | rfl | simp) rfl
   exact(dx) (by simp only [g10,g15];first | rfl | simp) rfl
  exact(dx) (by simp only [g10];first | rfl | simp) rfl
 rintro _ rfl;refine(bp) (fun g18=>?_) fun g18=>?_
 ·
  simp at g18
  have hn:number k=fA k.text:=by unfold number;rw [if_pos g18]
  refine(cm) ?_;rw [hn];exact⟨rfl,c2⟩
 simp at g18
 have hn:number k = -1:=by unfold number;rw [if_neg (by intro h;have:=g18 h.1 h.2.1;omega)]
 refine(cm) ?_;rw [hn];exact⟨rfl,c2⟩
theorem kY :CR prog 30 #[k.val] w (.bool (ik k)):=by
 refine enter func30 rfl ntmps30 rfl<|?_;have c0:bj [] w w:=bj.refl _ _;refine db ?_;refine WL.go rfl (OX.box rfl rfl rfl fun b1 w1 pK dQ=>?_);have s1:=pK.ext;have uC:=pK.kI c0;have c1:=c0.trans s1;refine eA ?_;refine WC.nb (t:=10) (v:=.bool (decide (30≤k.kind) && decide (k.kind≤32))) (fun wx=>w1=wx) ?_ ?_
 ·
  refine nx ?_;refine WP .r (PV.fa fh rfl)<|(bN) aX dQ.range<|(dT) (fun g6=>?_) (fun g6=>?_)
  ·
   refine WP .r (PV.fa fh rfl)<|(bN) aX dQ.range<|?_;exact(dx) (by simp only [g6];first | rfl | simp) rfl
  exact(dx) (by simp only [g6];first | rfl | simp) rfl
 rintro _ rfl;refine(bp) (fun g10=>?_) fun g10=>?_
 ·
  simp at g10
  refine(bz) av dQ.range<|(df) TT (mN (k:=k)) ?_;rintro _ w2 ⟨rfl,s2⟩;have c2:=c1.trans s2;have dQ:=dQ.ext s2;refine(cm) ?_;exact⟨by unfold ik;rw [if_pos (by omega)],c2⟩
 simp at g10
 have hv:=Ha k (by omega);refine dw ?_;refine WC.o8 (t:=2) (v:=.bool (ik k)) (fun wx=>w1=wx) ?_ ?_
 ·
  refine nx ?_;refine WP .r (PV.fa fh rfl)<|(bN) aX dQ.range<|(dT) (fun g17=>?_) (fun g17=>?_)
  ·
   refine WP .r (PV.fa fh rfl)<|(bN) aX dQ.range<|(dT) (fun g22=>?_) (fun g22=>?_)
   ·
    refine WP .r (PV.fa uw rfl)<|(bN) iq dQ.range<|?_;refine WP .r (PV.zz xo rfl)<|(dT) (fun iU=>?_) (fun iU=>?_)
    ·
     refine WP .r (PV.fa uw rfl)<|(bN) iq dQ.range<|(dT) (fun uV=>?_) (fun uV=>?_)
     ·
      exact(iw) (by rw [hv];simp only [g17,g22,iU,uV];first | rfl | simp) rfl
     refine WP .r (PV.fa fh rfl)<|(bN) aX dQ.range<|(dT) (fun ir=>?_) (fun ir=>?_)
     ·
      refine WP .r (PV.fa fh rfl)<|(bN) aX dQ.range<|?_;exact(iw) (by rw [hv];simp only [g17,g22,iU,uV,ir];first | rfl | simp) rfl
     exact(iw) (by rw [hv];simp only [g17,g22,iU,uV,ir];first | rfl | simp) rfl
    refine bC ?_;exact(iw) (by rw [hv];simp only [g17,g22,iU];first | rfl | simp) rfl
   refine bC ?_;exact(iw) (by rw [hv];simp only [g17,g22];first | rfl | simp) rfl
  refine bC ?_;refine bC ?_;exact(iw) (by rw [hv];simp only [g17];first | rfl | simp) rfl
 rintro _ rfl;refine(cm) ?_;exact⟨rfl,c1⟩
theorem eB :CR prog 41 #[k.val] w (.bool (aA k)):=by
 refine enter func41 rfl ntmps41 rfl<|?_;have c0:bj [] w w:=bj.refl _ _;refine db ?_;refine WL.go rfl (OX.box rfl rfl rfl fun b1 w1 pK dQ=>?_);have s1:=pK.ext;have uC:=pK.kI c0;have c1:=c0.trans s1;refine dF ?_;refine WC.o8 (t:=2) (v:=.bool (aA k)) (bj [] w1) ?_<|?_
 ·
  refine nx ?_;refine WP .r (PV.fa fh rfl)<|(bN) aX dQ.range<|(dT) (fun g6=>?_) (fun g6=>?_)
  ·
   refine bC ?_;exact(iw) (by unfold aA;simp only [g6];first | rfl | simp) (bj.refl _ _)
  refine WP .r (PV.fa fh rfl)<|(bN) aX dQ.range<|(dT) (fun g10=>?_) (fun g10=>?_)
  ·
   refine WP .r (PV.fa fh rfl)<|(bN) aX dQ.range<|(dT) (fun g15=>?_) (fun g15=>?_)
   ·
    refine WP .r (PV.fa fh rfl)<|(bN) aX dQ.range<|(df) aj0 (H5 (n:=k.kind)) ?_;rintro _ w2 ⟨rfl,s2⟩;have c2:=c1.trans s2;have dQ:=dQ.ext s2;exact(iw) (by unfold aA;simp only [g6,g10,g15];first | rfl | simp) s2
   exact(iw) (by unfold aA;simp only [g6,g10,g15];first | rfl | simp) (bj.refl _ _)
  exact(iw) (by unfold aA;simp only [g6,g10];first | rfl | simp) (bj.refl _ _)
 intro w2 s2;have c2:=c1.trans s2;have dQ:=dQ.ext s2;refine(cm) ?_;exact⟨rfl,c2⟩
theorem mW{q:Key} :CR prog 33 #[k.val,q.val] w (.int .i64 (cE k q)):=by
 refine enter func33 rfl ntmps33 rfl<|?_;have c0:bj [] w w:=bj.refl _ _;refine db ?_;refine WL.go rfl (OX.box rfl rfl rfl fun b2 w1 lB eZ=>?_);have s1:=lB.ext;have rZ:=lB.kI c0;have c1:=c0.trans s1;refine WL.go rfl (OX.box rfl rfl rfl fun b3 w2 ic dA=>?_);have s2:=ic.ext;have r5:=ic.kI c1;have iS:b2≠b3:=ic.ne eZ.lt;have qo:b3≠b2:=Ne.symm iS;have c2:=c1.trans s2;have eZ:=eZ.ext s2;refine gp ?_;refine WP .r (PV.fa fh rfl)<|(bN) aX eZ.range<|?_;refine WP .r (PV.fa fh rfl)<|(bN) aX dA.range<|(bp) (fun g5=>?_) fun g5=>?_
 ·
  simp at g5
  refine(cm) ?_;exact⟨by unfold cE;rw [if_pos g5],c2⟩
 simp at g5
 refine db ?_;refine WP .r (PV.fa fh rfl)<|(bN) aX eZ.range<|?_;refine WP .r (PV.fa fh rfl)<|(bN) aX dA.range<|(bp) (fun g11=>?_) fun g11=>?_
 ·
  simp at g11
  refine(cm) ?_;exact⟨by unfold cE;rw [if_neg (by omega),if_pos g11],c2⟩
 simp at g11
 refine eA ?_;refine WP .r (PV.fa uw rfl)<|(bN) iq eZ.range<|?_;refine WP .r (PV.fa uw rfl)<|(bN) iq dA.range<|(df) adK (tH k.text q.text w2) ?_;rintro _ w3 ⟨rfl,s3⟩;have c3:=c2.trans s3;have eZ:=eZ.ext s3;have dA:=dA.ext s3;refine(cm) ?_;exact⟨by unfold cE;rw [if_neg (by omega),if_neg (by omega)],c3⟩
end Go.Rc

