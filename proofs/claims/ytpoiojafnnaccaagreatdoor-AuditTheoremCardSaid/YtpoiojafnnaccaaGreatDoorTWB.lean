/- Walks over the program, part WB. Conditions: as each theorem says. -/
import Derived.Test.YtpoiojafnnaccaaGreatDoorTFacts
import Derived.Test.YtpoiojafnnaccaaGreatDoorTBb
import Derived.Test.YtpoiojafnnaccaaGreatDoorTBe
import Derived.Test.YtpoiojafnnaccaaGreatDoorShelf
import Derived.Lib.UnsafeStr
set_option linter.all false
namespace Go.Rc
open Go Go.Proofs Go.Proofs.Tryz
variable {n:Int}{w:World}{ab:List aJ}{A:Nat→Prop}{a:Option Addr}{r c:Nat}{k:Key}
set_option maxHeartbeats 400000
theorem N9{m:Int}(h4:m≤4611686018427387904):CR prog 23 #[.int .i64 n,.int .i64 m] w (.int .i64 (if m<1 then 0 else n % m)):=by
 refine enter func23 rfl ntmps23 rfl<|?_;have c0:bm [] w w:=bm.refl _ _;refine(br) (fun g6=>?_) fun g6=>?_
 ·
  simp at g6
  refine(cj) ?_;exact⟨by rw [if_pos (by omega)],c0⟩
 simp at g6
 have k1:=Int.tmod_lt_of_pos n (show 0<m by omega);have k2:=Int.lt_tmod_of_pos n (show 0<m by omega);refine jx ?_;refine WP .r (PV.rem rfl rfl (by omega))<|dy ?_;refine WP .r (PV.rem rfl rfl (by omega))<|(cj) ?_;refine⟨?_,c0⟩;rw [if_neg (by omega)]
 congr 2
 rw [Int.tmod_eq_emod_of_nonneg (by omega),Int.add_emod_right,Nd]
theorem yE(hr:iB A w a r c ab):CR prog 64 #[.slice a r c,.int .i64 n] w (.tuple #[.int .i64 (block ab n).1,.int .i64 (block ab n).2]):=by
 have hle:=hr.le;have hlen:=hr.len;refine enter func64 rfl ntmps64 rfl<|?_;have c0:bm [] w w:=bm.refl _ _;refine kE ?_;refine WC.nD (t:=15) (v:=.bool (decide (n<0) || decide ((r:Int)≤n))) (fun wx=>w=wx) ?_ ?_
 ·
  refine(dW) (fun g10=>?_) (fun g10=>?_)
  ·
   exact(dq) (by simp only [g10];first | done | rfl | simp) rfl
  refine cV ?_;refine WP .r (PV.j9 lS rfl)<|?_;exact(dq) (by simp only [g10];first | done | rfl | simp) rfl
 rintro _ rfl;refine(br) (fun g15=>?_) fun g15=>?_
 ·
  have hb:=DO ab n (by simp at g15;omega);refine(CH) ?_;exact⟨by rw [hb],c0⟩
 obtain⟨nn,rfl⟩:∃i:Nat,n=i:=⟨n.toNat,by simp at g15;omega⟩
 have l8:nn<ab.length:=by simp at g15;omega
 have LZ:block ab nn=if aI ab nn then ((cz ab nn:Int),(fq ab (nn+1):Int)) else ((nn:Int),(nn:Int)+1):=by
  unfold block;rw [if_neg (by omega)];rfl
 refine bC ?_;refine nx ?_;refine WC.loop (σ:=Nat) (eI:=fun k=>[(0,.slice a r c),(1,.int .i64 (nn:Int)),(6,.int .i64 (k:Int)),(7,.int .i64 ((nn:Int)+1))]) (I:=fun k w'=>bm [] w w'∧k≤nn∧cz ab k=cz ab nn∧(aI ab nn=false→k=nn)) (μ:=fun k=>k) nn Sub.t ⟨c0,Nat.le_refl _,rfl,fun _=>rfl⟩ ?_;rintro k w1 ⟨c1,hk,JF,hnr⟩;refine cV ?_;obtain⟨b1,o1,r1,oX,_,⟨q1,q2,q3,rfl,_⟩,jH,_⟩:=(hr.ext c1).at (aq l8);refine WC.nD (t:=35) (v:=.bool (ab[nn].ring && (decide ((0:Int)<k) && aI ab (k - 1)))) (fun wx=>w1=wx) ?_ ?_
 ·
  refine dy ?_;refine WP .r (PV.fC lS oX rfl rfl (by omega))<|WP .r (PV.fa nT rfl)<|(bO) fH jH<|(dW) (fun g24=>?_) (fun g24=>?_)
  ·
   refine(dW) (fun iG=>?_) (fun iG=>?_)
   ·
    obtain⟨b2,o2,r2,CJ,_,⟨q4,q5,q6,rfl,_⟩,zC,_⟩:=(hr.ext c1).at (aq (show k - 1<ab.length by omega))
    simp at iG
    have tL:ab[k-1].ring=aI ab (k-1):=(da (by omega)).symm;refine dy ?_;refine WP .r (PV.LQ lS (k - 1) CJ rfl rfl (by omega) (by omega))<|WP .r (PV.fa nT rfl)<|(bO) fH zC<|?_;exact(dq) (by simp [*]) rfl
   simp at iG
   have OH:¬(0<k):=by omega
   exact(dq) (by simp [*]) rfl
  exact(dq) (by simp [*]) rfl
 rintro _ rfl;refine(br) (fun Oa=>?_) fun Oa=>?_
 ·
  simp at Oa
  obtain⟨g1,g2,g3⟩:=Oa;obtain⟨j,rfl⟩:∃j,k=j+1:=⟨k - 1,by omega⟩;refine pQ ?_;refine EX.again j (Sub.k2 rfl rfl<|Sub.lC rfl (by omega)<|Sub.cons rfl<|Sub.nil) ⟨c1,by omega,by rw [← JF,vl (by simpa using g3)],fun h=>absurd (da l8) (by simp [h,g1])⟩ (by omega)
 simp at Oa
 have YZ:(block ab nn).1=k:=by
  rw [LZ]
  by_cases jH:aI ab nn=true
  ·
   rw [if_pos jH]
   show(cz ab nn:Int)=k
   rw [← JF,yb]
   by_cases h0:k=0
   ·
    exact .inl h0
   exact .inr (Oa (by rw [← da l8];exact jH) (by omega))
  rw [if_neg jH,hnr (by simpa using jH)]
 refine gp ?_;refine WC.loop (σ:=Nat) (eI:=fun m=>[(0,.slice a r c),(1,.int .i64 (nn:Int)),(6,.int .i64 (k:Int)),(7,.int .i64 (m:Int))]) (I:=fun m w'=>bm [] w w'∧nn+1≤m∧m≤r∧fq ab m=fq ab (nn+1)∧(aI ab nn=false→m=nn+1)) (μ:=fun m=>r - m) (nn+1) Sub.t ⟨c1,Nat.le_refl _,by omega,rfl,fun _=>rfl⟩ ?_;rintro m w2 ⟨c2,CK,jf,Xr,akM⟩;refine cV ?_;obtain⟨b1,o1,r1,oX,_,⟨q1,q2,q3,rfl,_⟩,jH,_⟩:=(hr.ext c2).at (aq l8);refine WC.nD (t:=55) (v:=.bool (ab[nn].ring && (decide ((m:Int)<r) && aI ab m))) (fun wx=>w2=wx) ?_ ?_
 ·
  refine dy ?_;refine WP .r (PV.fC lS oX rfl rfl (by omega))<|WP .r (PV.fa nT rfl)<|(bO) fH jH<|(dW) (fun oE=>?_) (fun oE=>?_)
  ·
   refine cV ?_;refine WP .r (PV.j9 lS rfl)<|(dW) (fun wQ=>?_) (fun wQ=>?_)
   ·
    simp at wQ
    obtain⟨b2,o2,r2,CJ,_,⟨q4,q5,q6,rfl,_⟩,zC,_⟩:=(hr.ext c2).at (aq (show m<ab.length by omega));have tL:ab[m].ring=aI ab m:=(da (by omega)).symm
    have Ob:decide ((m:Int)<r)=true:=by simp;omega
    refine cV ?_;refine WP .r (PV.fC lS CJ rfl rfl (by omega))<|WP .r (PV.fa nT rfl)<|(bO) fH zC<|?_;exact(dq) (by first | (rw [tL,oE,Ob];rfl) | simp [*]) rfl
   simp at wQ
   have OH:¬(m<ab.length):=by omega
   exact(dq) (by first | (rw [tL,oE,Ob];rfl) | simp [*]) rfl
  refine bC ?_;exact(dq) (by first | (rw [tL,oE,Ob];rfl) | simp [*]) rfl
 rintro _ rfl;refine(br) (fun Bx=>?_) fun Bx=>?_
 ·
  simp at Bx
  obtain⟨g1,g2,g3⟩:=Bx;refine pQ ?_;refine EX.again (m+1) (Sub.k2 rfl rfl<|Sub.cons rfl<|Sub.lC rfl (by omega)<|Sub.nil) ⟨c2,by omega,by omega,by rw [← Xr,← ya g3],fun h=>absurd (da l8) (by simp [h,g1])⟩ (by omega)
 simp at Bx
 have Y0:(block ab nn).2=m:=by
  rw [LZ]
  by_cases jH:aI ab nn=true
  ·
   rw [if_pos jH]
   show(fq ab (nn+1):Int)=m
   rw [← Xr,Ah]
   rcases Nat.lt_or_ge m r with h0 | h0
   ·
    exact Bx (by rw [← da l8];exact jH) (by omega)
   exact pX (by omega)
  rw [if_neg jH,akM (by simpa using jH)];rfl
 refine bC ?_;refine(CH) ?_;exact⟨by rw [YZ,Y0],c2⟩
theorem QF(w:World) (k:Nat) (os:Array Obj):bm [] w (Sort.grow (w.drewN k) os):=⟨rfl,rfl,rfl,by simp [Sort.grow],Nat.le_add_right _ _,fun i hi _=>Sort.heap_grow_old (w.drewN k) os (k:=i) hi⟩
theorem Ew(w:World) (e:TypeId) (s:ByteArray):bm [] w (Lib.bytesWorld w e s):=bm.Hv (Lib.bytesWorld_below _ _ _) (by
 unfold Lib.bytesWorld
 rw [vq];exact Nat.le_succ _)
theorem Bz(i:Nat):itoa (i:Int)=⟨(Lib.decDigits i).toArray⟩:=by
 unfold itoa Lib.itoa
 rw [if_neg (by omega),Int.toNat_natCast]
theorem lT(h0:0≤n) (h1:n≤99) (w:World):CR prog 57 #[.int .i64 n] w (.string (itoa n)):=by
 obtain⟨i,rfl⟩:∃i:Nat,n=i:=⟨n.toNat,by omega⟩
 exact(strconv_Itoa_small i (by omega) w).mono fun e w' ⟨he,hw⟩=>⟨by rw [he,Bz],by rw [hw];exact bm.refl _ _⟩
theorem qv(ht:oj prog A w) (h0:-9223372036854775808≤n) (h1:n≤9223372036854775807):CR prog 57 #[.int .i64 n] w (.string (itoa n)):=
 (strconv_Itoa n h0 h1 w (by obtain⟨⟨b,_,_,h⟩,_⟩:=ht;exact h w rfl)).mono fun e w' ⟨he,k,os,hw⟩=>⟨he,by rw [hw];exact QF _ _ _⟩
theorem tP(s t:ByteArray) (w:World):CR prog 68 #[.string s,.string t] w (.int .i64 (Lib.compareBytes s.data.toList t.data.toList)):=
 (strings_Compare s t w).mono fun e w' ⟨he,hw⟩=>⟨he,by rw [hw];exact bm.refl _ _⟩
theorem Ex{d acc:Nat}(hd:d<10) (ha:acc<100000000000000000):Lib.parseUint10 acc [UInt8.ofNat (48+d)]=.ok (acc*10+d):=by
 have h:(UInt8.ofNat (48+d)).toNat=48+d:=by
  rw [UInt8.toNat_ofNat']
  omega
 simp only [Lib.parseUint10,h];rw [if_pos (by omega),if_neg (by omega),if_neg (by omega)]
 congr 1
 omega
theorem BA(b:UInt8):∀(l:List UInt8) (acc u:Nat),Lib.parseUint10 acc l=.ok u→Lib.parseUint10 acc (l++[b])=Lib.parseUint10 u [b]
 | [],acc,u,h=>by
  simp only [Lib.parseUint10] at h
  injection h with h
  subst h
  rfl
 | c::r,acc,u,h=>by
  have ih:=fun a=>BA b r a u
  generalize Lib.parseUint10 u [b]=X at ih ⊢
  simp only [List.cons_append,Lib.parseUint10] at h ⊢
  split at h
  ·
   rename_i h1
   rw [if_pos h1]
   split at h
   ·
    cases h
   rename_i h2
   rw [if_neg h2]
   split at h
   ·
    cases h
   rename_i h3
   rw [if_neg h3];exact ih _ h
  cases h
theorem Ey(n:Nat) (hn:n≤99999):Lib.parseUint10 0 (Lib.decDigits n)=.ok n:=by
 by_cases h:n<10
 ·
  rw [Lib.decDigits,dif_pos h];have h1:=Ex (acc:=0) h (by omega);rw [Nat.zero_mul,Nat.zero_add] at h1;exact h1
 rw [Lib.decDigits,dif_neg h,BA _ _ _ _ (Ey (n / 10) (by omega)),Ex (by omega) (by omega)]
 congr 1
 omega
termination_by n
decreasing_by omega
theorem Ik(n:Nat):∃b r,Lib.decDigits n=b::r∧48≤b.toNat:=by
 by_cases h:n<10
 ·
  refine⟨UInt8.ofNat (48+n),[],by rw [Lib.decDigits,dif_pos h],?_⟩;rw [UInt8.toNat_ofNat']
  omega
 obtain⟨b,r,h1,h2⟩:=Ik (n / 10);exact⟨b,r++[UInt8.ofNat (48+n % 10)],by rw [Lib.decDigits,dif_neg h,h1,List.cons_append],h2⟩
termination_by n
decreasing_by omega
theorem MF(n:Nat):(Lib.decDigits n).length≤n+1:=by
 by_cases h:n<10
 ·
  rw [Lib.decDigits,dif_pos h,List.length_singleton]
  omega
 have h1:=MF (n / 10);rw [Lib.decDigits,dif_neg h,List.length_append,List.length_singleton]
 omega
termination_by n
decreasing_by omega
theorem QG{n:Nat}(hn:n≤99999):Lib.atoiAll (Lib.decDigits n)=.ok (n:Int):=by
 obtain⟨b,r,h1,h2⟩:=Ik n;have h3:=Ey n hn;rw [h1] at h3 ⊢;rw [Lib.atoiAll_plain b r (by omega) (by omega)]
 unfold Lib.parseMag
 rw [if_neg (by simp),h3]
 show(if 9223372036854775808≤n then Lib.NumEnd.range else .ok (n:Int))=.ok (n:Int)
 rw [if_neg (by omega)]
theorem Il{n:Nat}(h:n≤99999) (w:World):CR prog 171 #[.string (itoa n)] w (.tuple #[.int .i64 (n:Int),.nilIface]):=by
 have hs:(itoa (n:Int)).data.toList=Lib.decDigits n:=(congrArg (fun x:ByteArray=>x.data.toList) (Bz n)).trans rfl
 refine(strconv_Atoi_ok (itoa n) ?_ n (by rw [hs];exact QG h) w).mono fun e w' ⟨he,hw⟩=>⟨he,?_⟩
 ·
  have h1:=MF n;rw [Bz]
  show(Lib.decDigits n).toArray.size≤9223372036854775806
  rw [List.size_toArray]
  omega
 rcases hw with rfl | ⟨t,rfl⟩
 ·
  exact bm.refl _ _
 exact Ew _ _ _
theorem K3{n:Nat}(h:n≤99) (w:World):CR prog 171 #[.string (itoa n)] w (.tuple #[.int .i64 (n:Int),.nilIface]):=Il (by omega) w
set_option maxHeartbeats 400000
theorem Im :CR prog 78 #[.int .i64 n] w (.bool (pY n)):=by
 refine enter func78 rfl ntmps78 rfl<|?_;have c0:bm [] w w:=bm.refl _ _;refine jx ?_;refine WC.po (t:=2) (v:=.bool (pY n)) (fun wx=>w=wx) ?_ ?_
 ·
  refine(dW) (fun g5=>?_) (fun g5=>?_)
  ·
   refine bC ?_;exact(iu) (by unfold pY;simp only [g5];first | rfl | simp) rfl
  refine(dW) (fun g9=>?_) (fun g9=>?_)
  ·
   exact(iu) (by unfold pY;simp only [g5,g9];first | rfl | simp) rfl
  refine(dW) (fun g13=>?_) (fun g13=>?_)
  ·
   exact(iu) (by unfold pY;simp only [g5,g9,g13];first | rfl | simp) rfl
  exact(iu) (by unfold pY;simp only [g5,g9,g13];first | rfl | simp) rfl
 rintro _ rfl;refine(cj) ?_;exact⟨rfl,c0⟩
theorem fM :CR prog 31 #[k.val] w (.bool (aB k)):=by
 refine enter func31 rfl ntmps31 rfl<|?_;have c0:bm [] w w:=bm.refl _ _;refine cV ?_;refine WL.go rfl (OX.box rfl rfl rfl fun b1 w1 pR dO=>?_);have s1:=pR.ext;have uM:=pR.kK c0;have c1:=c0.trans s1;refine dC ?_;refine WC.po (t:=2) (v:=.bool (aB k)) (fun wx=>w1=wx) ?_ ?_
 ·
  refine nx ?_;refine WP .r (PV.fa fk rfl)<|(bO) aZ dO.range<|(dW) (fun g6=>?_) (fun g6=>?_)
  ·
   exact(iu) (by unfold aB;simp only [g6];first | rfl | simp) rfl
  refine WP .r (PV.fa fk rfl)<|(bO) aZ dO.range<|(dW) (fun g11=>?_) (fun g11=>?_)
  ·
   exact(iu) (by unfold aB;simp only [g6,g11];first | rfl | simp) rfl
  refine WP .r (PV.fa fk rfl)<|(bO) aZ dO.range<|?_;exact(iu) (by unfold aB;simp only [g6,g11];first | rfl | simp) rfl
 rintro _ rfl;refine(cj) ?_;exact⟨rfl,c1⟩
theorem qw :CR prog 69 #[.int .i64 n] w ((dQ n).val):=by
 refine enter func69 rfl ntmps69 rfl<|?_;have c0:bm [] w w:=bm.refl _ _;refine cV ?_;refine WL.go rfl (OX.alloc KW rfl fun b2 w1 lA eZ=>?_);have s1:=lA.ext;have sk:=lA.kK c0;have c1:=c0.trans s1;refine dC ?_;refine WC.nD (t:=8) (v:=.bool (decide (n<0) || decide (99<n))) (fun wx=>w1=wx) ?_ ?_
 ·
  refine(dW) (fun g5=>?_) (fun g5=>?_)
  ·
   exact(dq) (by simp only [g5];first | rfl | simp) rfl
  exact(dq) (by simp only [g5];first | rfl | simp) rfl
 rintro _ rfl;refine(br) (fun g8=>?_) fun g8=>?_
 ·
  have hk:dQ n=fW:=by unfold dQ;rw [if_pos (by simp at g8;omega)]
  refine cV ?_;refine WP .r (PV.cD (us:=[.int .i64 0,.string ⟨#[]⟩]) Ic rfl rfl rfl)<|?_;refine WL.go rfl (OX.qJ jT eZ rfl rfl rfl rfl rfl fun w2 s2 _ eZ=>?_);have c2:=c1.own s2 sk;refine(mU) av eZ.range<|?_;rw [hk];exact⟨rfl,c2⟩
 simp at g8
 have hk:dQ n=⟨30,itoa n⟩:=by unfold dQ;rw [if_neg (by omega)]
 refine(cW) Ud (lT (n:=n) (by omega) (by omega) w1) ?_;rintro _ w2 ⟨rfl,s2⟩;have c2:=c1.trans s2;have eZ:=eZ.ext s2;refine WP .r (PV.cD (us:=[.int .i64 30,.string (itoa n)]) Ic rfl rfl rfl)<|?_;refine WL.go rfl (OX.qJ jT eZ rfl rfl rfl rfl rfl fun w3 s3 _ eZ=>?_);have c3:=c2.own s3 sk;refine(mU) av eZ.range<|?_;rw [hk];exact⟨rfl,c3⟩
theorem mc(hr:iB A w a r c ab):CR prog 25 #[.slice a r c,.int .i64 n] w ((aS ab n).val):=by
 have hle:=hr.le;have hlen:=hr.len;refine enter func25 rfl ntmps25 rfl<|?_;have c0:bm [] w w:=bm.refl _ _;refine cV ?_;refine WL.go rfl (OX.alloc KW rfl fun b4 w1 jE bM=>?_);have s1:=jE.ext;have iS:=jE.kK c0;have c1:=c0.trans s1;refine dC ?_;refine WC.nD (t:=17) (v:=.bool (decide (n<0) || (decide ((r:Int)≤n) || decide (99<n)))) (fun wx=>w1=wx) ?_ ?_
 ·
  refine(dW) (fun g8=>?_) (fun g8=>?_)
  ·
   exact(dq) (by simp only [g8];first | rfl | simp) rfl
  refine cV ?_;refine WP .r (PV.j9 lS rfl)<|(dW) (fun g14=>?_) (fun g14=>?_)
  ·
   exact(dq) (by simp only [g8,g14];first | rfl | simp) rfl
  exact(dq) (by simp only [g8,g14];first | rfl | simp) rfl
 rintro _ rfl;refine(br) (fun g17=>?_) fun g17=>?_
 ·
  have hk:aS ab n=fW:=by unfold aS;rw [if_pos (by simp at g17;omega)]
  refine cV ?_;refine WP .r (PV.cD (us:=[.int .i64 0,.string ⟨#[]⟩]) Ic rfl rfl rfl)<|?_;refine WL.go rfl (OX.qJ jT bM rfl rfl rfl rfl rfl fun w2 s2 _ bM=>?_);have c2:=c1.own s2 iS;refine(mU) av bM.range<|?_;rw [hk];exact⟨rfl,c2⟩
 simp at g17
 obtain⟨i,rfl⟩:∃i:Nat,n=i:=⟨n.toNat,by omega⟩
 have hi:i<ab.length:=by omega
 have hk:aS ab i=⟨if aI ab i then 32 else 31,itoa i⟩:=by unfold aS;rw [if_neg (by omega)];rfl
 have lP:=da hi;refine(cW) Ud (lT (n:=(i:Int)) (by omega) (by omega) w1) ?_;rintro _ w2 ⟨rfl,s2⟩;have c2:=c1.trans s2;have bM:=bM.ext s2;refine WP .r (PV.cD (us:=[.int .i64 31,.string (itoa i)]) Ic rfl rfl rfl)<|?_;refine WL.go rfl (OX.alloc KW rfl fun b5 w3 mM gz=>?_);have s3:=mM.ext;have uN:=mM.kK c2;have nU:b4≠b5:=mM.ne bM.lt;have uO:b5≠b4:=Ne.symm nU;have c3:=c2.trans s3;have bM:=bM.ext s3;refine WL.go rfl (OX.qJ jT gz rfl rfl rfl rfl rfl fun w4 s4 _ gz=>?_);have c4:=c3.own s4 uN;have bM:=bM.cT s4 (by simp [nU]);refine dC ?_;obtain⟨b1,o1,r1,oX,_,⟨q1,q2,q3,rfl,_⟩,jH,_⟩:=(hr.ext c4).at (aq hi);refine dy ?_;refine WP .r (PV.fC lS oX rfl rfl (by omega))<|WP .r (PV.fa nT rfl)<|(bO) fH jH<|(br) (fun kX=>?_) fun kX=>?_
 ·
  have og:aS ab i=⟨32,itoa i⟩:=by rw [hk,lP,kX];rfl
  refine nx ?_;refine WP .r (PV.fa fk rfl)<|?_;refine WL.go rfl (OX.st Sf gz rfl rfl (by first | (simp [nth];done) | exact nns rfl) rfl rfl fun w5 s5 _ gz=>?_);have c5:=c4.own s5 uN;have bM:=bM.cT s5 (by simp [nU]);refine(bA) av gz.range<|?_;refine WL.go rfl (OX.qJ jT bM rfl rfl rfl rfl rfl fun w6 s6 _ bM=>?_);have c6:=c5.own s6 iS;have gz:=gz.cT s6 (by simp [uO]);refine(mU) av bM.range<|?_;rw [og];exact⟨rfl,c6⟩
 have og:aS ab i=⟨31,itoa i⟩:=by rw [hk,lP,kX];rfl
 refine(bA) av gz.range<|?_;refine WL.go rfl (OX.qJ jT bM rfl rfl rfl rfl rfl fun w5 s5 _ bM=>?_);have c5:=c4.own s5 iS;have gz:=gz.cT s5 (by simp [uO]);refine(mU) av bM.range<|?_;rw [og];exact⟨rfl,c5⟩
theorem xL{l:List Key}(hl:Ab A w a r c l):CR prog 21 #[.slice a r c,k.val] w (.bool (decide (k∈l))):=by
 have hle:=hl.le;have hlen:=hl.len;refine enter func21 rfl ntmps21 rfl<|?_;have c0:bm [] w w:=bm.refl _ _;refine cV ?_;refine WL.go rfl (OX.box rfl rfl rfl fun b3 w1 gO dB=>?_);have s1:=gO.ext;have sn:=gO.kK c0;have c1:=c0.trans s1;refine gp ?_;refine WP .r (PV.j9 fP rfl)<|dC ?_;refine WC.loop (σ:=Nat × World) (eI:=fun s=>[(3,.pointer (some ⟨b3,0,none⟩)),(7,.slice a r c),(8,.int .i64 (r:Int)),(9,.int .i64 (s.1:Int))]) (I:=fun s w'=>bm [] w w'∧cI w' b3 58 [.int .i64 k.kind,.string k.text]∧s.1≤r∧k∉l.take s.1) (μ:=fun s=>r - s.1) (0,w) Sub.t ⟨c1,dB,by omega,by simp⟩ ?_;rintro⟨i,_⟩ w2 ⟨c2,dB,hi,gh⟩;refine(br) (fun g10=>?_) fun g10=>?_
 ·
  simp at g10
  have cX:i<l.length:=by omega
  refine ew ?_;obtain⟨b1,o1,r1,oX,_,rfl,jH,_⟩:=(hl.ext c2).at (aq cX);refine nx ?_;refine WP .r (PV.fC fP oX rfl rfl (by omega))<|(bA) av jH<|?_;refine WL.go rfl (OX.alloc KW rfl fun b6 w3 mY eO=>?_);have s3:=mY.ext;have gP:=mY.kK c2;have gE:b3≠b6:=mY.ne dB.lt;have uP:b6≠b3:=Ne.symm gE;have c3:=c2.trans s3;have dB:=dB.ext s3;refine WL.go rfl (OX.qJ jT eO rfl rfl rfl rfl rfl fun w4 s4 _ eO=>?_);have c4:=c3.own s4 gP;have dB:=dB.cT s4 (by simp [gE]);refine(bA) av eO.range<|(bA) av dB.range<|?_;refine WP .r (PV.JD im (p:=l[i]) (q:=k) rfl rfl)<|(br) (fun g15=>?_) fun g15=>?_
  ·
   simp at g15
   refine(cj) ?_;exact⟨by rw [decide_eq_true (g15 ▸ List.getElem_mem cX)],c4⟩
  simp at g15
  refine gp ?_;refine EX.again (i+1,w) (Sub.k2 rfl rfl<|Sub.cons rfl<|Sub.lC rfl (by simp)<|Sub.nil) ⟨c4,dB,by omega,by have h:=List.take_succ_eq_append_getElem cX;simp only [h,List.mem_append,List.mem_singleton,not_or];exact⟨gh,fun e=>g15 e.symm⟩⟩ (by simp;omega)
 simp at g10
 have cx:k∉l:=by rw [← List.take_of_length_le (show l.length≤i by omega)];exact gh
 refine(cj) ?_;exact⟨by rw [decide_eq_false cx],c2⟩
theorem tQ{s:ByteArray} :CR prog 110 #[.string s] w (.int .i64 (fw s)):=by
 have he:=DR s;have hz:=Ai s;refine enter func110 rfl ntmps110 rfl<|?_;have c0:bm [] w w:=bm.refl _ _;refine gp ?_;refine WC.nD (t:=20) (v:=.bool (pZ s)) (fun wx=>w=wx) ?_ ?_
 ·
  refine(dW) (fun g7=>?_) (fun g7=>?_)
  ·
   refine bC ?_;exact(dq) (by unfold pZ;first | (simp only [g7,QH];done) | (simp only [g7,QH];rfl) | (simp only [g7];rfl)) rfl
  skip
  refine nx ?_;refine WP .r (PV.zS xG rfl)<|(dW) (fun g12=>?_) (fun g12=>?_)
  ·
   exact(dq) (by unfold pZ;first | (simp only [g7,g12,QH];done) | (simp only [g7,g12,QH];rfl) | (simp only [g7,g12];rfl)) rfl
  have h7:=of_decide_eq_false g7;rw [he] at h7;obtain⟨b0,NT,QH⟩:=Hl s (by omega);refine nx ?_;refine WP .r (PV.SC xG (i:=0) rfl rfl NT)<|(dW) (fun g16=>?_) (fun g16=>?_)
  ·
   exact(dq) (by unfold pZ;first | (simp only [g7,g12,g16,QH];done) | (simp only [g7,g12,g16,QH];rfl) | (simp only [g7,g12,g16];rfl)) rfl
  exact(dq) (by unfold pZ;first | (simp only [g7,g12,g16,QH];done) | (simp only [g7,g12,g16,QH];rfl) | (simp only [g7,g12,g16];rfl)) rfl
 rintro _ rfl;refine(br) (fun g20=>?_) fun g20=>?_
 ·
  have hd:fw s = -1:=by rw [yd];rw [if_pos g20]
  refine(cj) ?_;rw [hd];exact⟨rfl,c0⟩
 have hd:fw s=decFrom s.data.toList 0:=by rw [yd,g20];rfl
 have hs9:=Nf g20;refine bC ?_;refine cV ?_;refine WC.loop (σ:=Nat × Nat) (eI:=fun p=>[(0,.string s),(3,.int .i64 (p.2:Int)),(4,.int .i64 (p.1:Int))]) (I:=fun p w'=>bm [] w w'∧p.1≤s.size∧p.2<10 ^ p.1∧decFrom s.data.toList 0=decFrom (s.data.toList.drop p.1) p.2) (μ:=fun p=>s.size - p.1) (0,0) Sub.t ⟨c0,by simp,by simp,by simp⟩ ?_;rintro⟨i,n⟩ w1 ⟨c1,hi,hn,hdf⟩;simp only at hi hn hdf;have hn9:n<10 ^ 9:=Nat.lt_of_lt_of_le hn (Nat.pow_le_pow_right (by omega) (by omega));refine ew ?_;refine WP .r (PV.zS xG rfl)<|(br) (fun g24=>?_) fun g24=>?_
 ·
  simp at g24
  obtain⟨b0,NT,Ez⟩:=E0 s (n:=(n:Int)) g24;refine jx ?_;refine WC.nD (t:=36) (v:=.bool (decide ((b0.toNat:Int)<48) || decide (57<(b0.toNat:Int)))) (fun wx=>w1=wx) ?_ ?_
  ·
   refine dy ?_;refine WP .r (PV.SC xG (i:=i) rfl rfl NT)<|(dW) (fun pF=>?_) (fun pF=>?_)
   ·
    exact(dq) (by simp only [pF];first | rfl | simp) rfl
   refine cV ?_;refine WP .r (PV.SC xG (i:=i) rfl rfl NT)<|?_;exact(dq) (by simp only [pF];first | rfl | simp) rfl
  rintro _ rfl;refine(br) (fun ir=>?_) fun ir=>?_
  ·
   have R1:fw s = -1:=by rw [hd,hdf,Ez,if_pos (by simp at ir;omega)]
   refine(cj) ?_;rw [R1];exact⟨rfl,c1⟩
  simp at ir
  rw [if_neg (by omega)] at Ez;have asa:10 ^ (i+1)=10*10 ^ i:=Nat.pow_succ';refine dC ?_;refine WP .r (PV.mul rfl rfl (by omega) (by omega))<|cV ?_;refine WP .r (PV.SC xG (i:=i) rfl rfl NT)<|WP .r (PV.ab4 rfl rfl (by omega) (by omega))<|WP .r (PV.conv ⟨_,ajX⟩ ajW rfl (by omega) (by omega))<|mT ?_;refine EX.again (i+1,10*n+(b0.toNat - 48)) (Sub.cons rfl<|Sub.lC rfl (by simp;omega)<|Sub.lC rfl (by simp)<|Sub.nil) ⟨c1,by simp;omega,by simp only;omega,by simp only;rw [hdf,Ez];congr 1;omega⟩ (by simp only;omega)
 simp at g24
 have R1:fw s=n:=by rw [hd,hdf,List.drop_eq_nil_of_le (by rw [Array.length_toList];exact g24)];rfl
 refine(cj) ?_;rw [R1];exact⟨rfl,c1⟩
theorem mZ :CR prog 66 #[k.val] w (.int .i64 (number k)):=by
 refine enter func66 rfl ntmps66 rfl<|?_;have c0:bm [] w w:=bm.refl _ _;refine cV ?_;refine WL.go rfl (OX.box rfl rfl rfl fun b1 w1 pR dO=>?_);have s1:=pR.ext;have uM:=pR.kK c0;have c1:=c0.trans s1;refine jx ?_;refine WP .r (PV.fa uH rfl)<|(bO) iq dO.range<|(cW) VM (tQ (s:=k.text)) ?_;rintro _ w2 ⟨rfl,s2⟩;have c2:=c1.trans s2;have dO:=dO.ext s2;refine dC ?_;refine WC.nD (t:=18) (v:=.bool (decide (30≤k.kind) && (decide (k.kind≤32) && decide (fw k.text≤99)))) (fun wx=>w2=wx) ?_ ?_
 ·
  refine nx ?_;refine WP .r (PV.fa fk rfl)<|(bO) aZ dO.range<|(dW) (fun g10=>?_) (fun g10=>?_)
  ·
   refine WP .r (PV.fa fk rfl)<|(bO) aZ dO.range<|(dW) (fun g15=>?_) (fun g15=>?_)
   ·
    exact(dq) (by simp only [g10,g15];first | rfl | simp) rfl
   exact(dq) (by simp only [g10,g15];first | rfl | simp) rfl
  exact(dq) (by simp only [g10];first | rfl | simp) rfl
 rintro _ rfl;refine(br) (fun g18=>?_) fun g18=>?_
 ·
  simp at g18
  have hn:number k=fw k.text:=by unfold number;rw [if_pos g18]
  refine(cj) ?_;rw [hn];exact⟨rfl,c2⟩
 simp at g18
 have hn:number k = -1:=by unfold number;rw [if_neg (by intro h;have:=g18 h.1 h.2.1;omega)]
 refine(cj) ?_;rw [hn];exact⟨rfl,c2⟩
theorem kY :CR prog 30 #[k.val] w (.bool (ig k)):=by
 refine enter func30 rfl ntmps30 rfl<|?_;have c0:bm [] w w:=bm.refl _ _;refine cV ?_;refine WL.go rfl (OX.box rfl rfl rfl fun b1 w1 pR dO=>?_);have s1:=pR.ext;have uM:=pR.kK c0;have c1:=c0.trans s1;refine ew ?_;refine WC.nD (t:=10) (v:=.bool (decide (30≤k.kind) && decide (k.kind≤32))) (fun wx=>w1=wx) ?_ ?_
 ·
  refine nx ?_;refine WP .r (PV.fa fk rfl)<|(bO) aZ dO.range<|(dW) (fun g6=>?_) (fun g6=>?_)
  ·
   refine WP .r (PV.fa fk rfl)<|(bO) aZ dO.range<|?_;exact(dq) (by simp only [g6];first | rfl | simp) rfl
  exact(dq) (by simp only [g6];first | rfl | simp) rfl
 rintro _ rfl;refine(br) (fun g10=>?_) fun g10=>?_
 ·
  simp at g10
  refine(bA) av dO.range<|(cW) Ue (mZ (k:=k)) ?_;rintro _ w2 ⟨rfl,s2⟩;have c2:=c1.trans s2;have dO:=dO.ext s2;refine(cj) ?_;exact⟨by unfold ig;rw [if_pos (by omega)],c2⟩
 simp at g10
 have hv:=Hm k (by omega);refine dy ?_;refine WC.po (t:=2) (v:=.bool (ig k)) (fun wx=>w1=wx) ?_ ?_
 ·
  refine nx ?_;refine WP .r (PV.fa fk rfl)<|(bO) aZ dO.range<|(dW) (fun g17=>?_) (fun g17=>?_)
  ·
   refine WP .r (PV.fa fk rfl)<|(bO) aZ dO.range<|(dW) (fun g22=>?_) (fun g22=>?_)
   ·
    refine WP .r (PV.fa uH rfl)<|(bO) iq dO.range<|?_;refine WP .r (PV.zS xG rfl)<|(dW) (fun iG=>?_) (fun iG=>?_)
    ·
     refine WP .r (PV.fa uH rfl)<|(bO) iq dO.range<|(dW) (fun u9=>?_) (fun u9=>?_)
     ·
      exact(iu) (by rw [hv];simp only [g17,g22,iG,u9];first | rfl | simp) rfl
     refine WP .r (PV.fa fk rfl)<|(bO) aZ dO.range<|(dW) (fun ir=>?_) (fun ir=>?_)
     ·
      refine WP .r (PV.fa fk rfl)<|(bO) aZ dO.range<|?_;exact(iu) (by rw [hv];simp only [g17,g22,iG,u9,ir];first | rfl | simp) rfl
     exact(iu) (by rw [hv];simp only [g17,g22,iG,u9,ir];first | rfl | simp) rfl
    refine bC ?_;exact(iu) (by rw [hv];simp only [g17,g22,iG];first | rfl | simp) rfl
   refine bC ?_;exact(iu) (by rw [hv];simp only [g17,g22];first | rfl | simp) rfl
  refine bC ?_;refine bC ?_;exact(iu) (by rw [hv];simp only [g17];first | rfl | simp) rfl
 rintro _ rfl;refine(cj) ?_;exact⟨rfl,c1⟩
theorem eA :CR prog 41 #[k.val] w (.bool (aC k)):=by
 refine enter func41 rfl ntmps41 rfl<|?_;have c0:bm [] w w:=bm.refl _ _;refine cV ?_;refine WL.go rfl (OX.box rfl rfl rfl fun b1 w1 pR dO=>?_);have s1:=pR.ext;have uM:=pR.kK c0;have c1:=c0.trans s1;refine dC ?_;refine WC.po (t:=2) (v:=.bool (aC k)) (bm [] w1) ?_<|?_
 ·
  refine nx ?_;refine WP .r (PV.fa fk rfl)<|(bO) aZ dO.range<|(dW) (fun g6=>?_) (fun g6=>?_)
  ·
   refine bC ?_;exact(iu) (by unfold aC;simp only [g6];first | rfl | simp) (bm.refl _ _)
  refine WP .r (PV.fa fk rfl)<|(bO) aZ dO.range<|(dW) (fun g10=>?_) (fun g10=>?_)
  ·
   refine WP .r (PV.fa fk rfl)<|(bO) aZ dO.range<|(dW) (fun g15=>?_) (fun g15=>?_)
   ·
    refine WP .r (PV.fa fk rfl)<|(bO) aZ dO.range<|(cW) aks (Im (n:=k.kind)) ?_;rintro _ w2 ⟨rfl,s2⟩;have c2:=c1.trans s2;have dO:=dO.ext s2;exact(iu) (by unfold aC;simp only [g6,g10,g15];first | rfl | simp) s2
   exact(iu) (by unfold aC;simp only [g6,g10,g15];first | rfl | simp) (bm.refl _ _)
  exact(iu) (by unfold aC;simp only [g6,g10];first | rfl | simp) (bm.refl _ _)
 intro w2 s2;have c2:=c1.trans s2;have dO:=dO.ext s2;refine(cj) ?_;exact⟨rfl,c2⟩
theorem ny{q:Key} :CR prog 33 #[k.val,q.val] w (.int .i64 (cE k q)):=by
 refine enter func33 rfl ntmps33 rfl<|?_;have c0:bm [] w w:=bm.refl _ _;refine cV ?_;refine WL.go rfl (OX.box rfl rfl rfl fun b2 w1 lA eZ=>?_);have s1:=lA.ext;have sk:=lA.kK c0;have c1:=c0.trans s1;refine WL.go rfl (OX.box rfl rfl rfl fun b3 w2 gO dB=>?_);have s2:=gO.ext;have sn:=gO.kK c1;have iT:b2≠b3:=gO.ne eZ.lt;have qx:b3≠b2:=Ne.symm iT;have c2:=c1.trans s2;have eZ:=eZ.ext s2;refine gp ?_;refine WP .r (PV.fa fk rfl)<|(bO) aZ eZ.range<|?_;refine WP .r (PV.fa fk rfl)<|(bO) aZ dB.range<|(br) (fun g5=>?_) fun g5=>?_
 ·
  simp at g5
  refine(cj) ?_;exact⟨by unfold cE;rw [if_pos g5],c2⟩
 simp at g5
 refine cV ?_;refine WP .r (PV.fa fk rfl)<|(bO) aZ eZ.range<|?_;refine WP .r (PV.fa fk rfl)<|(bO) aZ dB.range<|(br) (fun g11=>?_) fun g11=>?_
 ·
  simp at g11
  refine(cj) ?_;exact⟨by unfold cE;rw [if_neg (by omega),if_pos g11],c2⟩
 simp at g11
 refine ew ?_;refine WP .r (PV.fa uH rfl)<|(bO) iq eZ.range<|?_;refine WP .r (PV.fa uH rfl)<|(bO) iq dB.range<|(cW) ad1 (tP k.text q.text w2) ?_;rintro _ w3 ⟨rfl,s3⟩;have c3:=c2.trans s3;have eZ:=eZ.ext s3;have dB:=dB.ext s3;refine(cj) ?_;exact⟨by unfold cE;rw [if_neg (by omega),if_neg (by omega)],c3⟩
end Go.Rc

