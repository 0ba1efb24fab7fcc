/- Walks over the program, part WB. Conditions: as each theorem says. -/
import Derived.Test.YtjpagoacbadijaaGreatDoorVFacts
import Derived.Test.YtjpagoacbadijaaGreatDoorVBb
import Derived.Test.YtjpagoacbadijaaGreatDoorVBe
import Derived.Test.YtjpagoacbadijaaGreatDoorShelf
import Derived.Lib.UnsafeStr
set_option linter.all false
namespace Go.Rc
open Go Go.Proofs Go.Proofs.Tryz
variable {n:Int}{w:World}{ab:List aG}{A:Nat→Prop}{a:Option Addr}{r c:Nat}{k:Key}
set_option maxHeartbeats 400000
theorem ME{m:Int}(h4:m≤4611686018427387904):CR prog 67 #[.int .i64 n,.int .i64 m] w (.int .i64 (if m<1 then 0 else n % m)):=by
 refine enter func67 rfl ntmps67 rfl<|?_;have c0:aV [] w w:=aV.refl _ _;refine(aZ) (fun g6=>?_) fun g6=>?_
 ·
  simp at g6
  refine(cy) ?_;exact⟨by rw [if_pos (by omega)],c0⟩
 simp at g6
 have k1:=Int.tmod_lt_of_pos n (show 0<m by omega);have k2:=Int.lt_tmod_of_pos n (show 0<m by omega);refine jo ?_;refine WP .r (PV.rem rfl rfl (by omega))<|dA ?_;refine WP .r (PV.rem rfl rfl (by omega))<|(cy) ?_;refine⟨?_,c0⟩;rw [if_neg (by omega)]
 congr 2
 rw [Int.tmod_eq_emod_of_nonneg (by omega),Int.add_emod_right,LH]
theorem xj(hr:ik A w a r c ab):CR prog 41 #[.slice a r c,.int .i64 n] w (.tuple #[.int .i64 (block ab n).1,.int .i64 (block ab n).2]):=by
 have hle:=hr.le;have hlen:=hr.len;refine enter func41 rfl ntmps41 rfl<|?_;have c0:aV [] w w:=aV.refl _ _;refine kP ?_;refine WC.mI (t:=15) (v:=.bool (decide (n<0) || decide ((r:Int)≤n))) (fun wx=>w=wx) ?_ ?_
 ·
  refine(ed) (fun g10=>?_) (fun g10=>?_)
  ·
   exact(dp) (by simp only [g10];first | done | rfl | simp) rfl
  refine cS ?_;refine WP .r (PV.jH ll rfl)<|?_;exact(dp) (by simp only [g10];first | done | rfl | simp) rfl
 rintro _ rfl;refine(aZ) (fun g15=>?_) fun g15=>?_
 ·
  have hb:=Cl ab n (by simp at g15;omega);refine(Fy) ?_;exact⟨by rw [hb],c0⟩
 obtain⟨nn,rfl⟩:∃i:Nat,n=i:=⟨n.toNat,by simp at g15;omega⟩
 have l4:nn<ab.length:=by simp at g15;omega
 have Nk:block ab nn=if aD ab nn then ((bY ab nn:Int),(eW ab (nn+1):Int)) else ((nn:Int),(nn:Int)+1):=by
  unfold block;rw [if_neg (by omega)];rfl
 refine bf ?_;refine nx ?_;refine WC.loop (σ:=Nat) (eP:=fun k=>[(0,.slice a r c),(1,.int .i64 (nn:Int)),(6,.int .i64 (k:Int)),(7,.int .i64 ((nn:Int)+1))]) (I:=fun k w'=>aV [] w w'∧k≤nn∧bY ab k=bY ab nn∧(aD ab nn=false→k=nn)) (μ:=fun k=>k) nn Sub.t ⟨c0,Nat.le_refl _,rfl,fun _=>rfl⟩ ?_;rintro k w1 ⟨c1,hk,H4,hnr⟩;refine cS ?_;obtain⟨b1,o1,r1,nY,_,⟨q1,q2,q3,rfl,_⟩,jr,_⟩:=(hr.ext c1).at (ao l4);refine WC.mI (t:=35) (v:=.bool (ab[nn].ring && (decide ((0:Int)<k) && aD ab (k - 1)))) (fun wx=>w1=wx) ?_ ?_
 ·
  refine dA ?_;refine WP .r (PV.fO ll nY rfl rfl (by omega))<|WP .r (PV.fa mU rfl)<|(bM) fq jr<|(ed) (fun g24=>?_) (fun g24=>?_)
  ·
   refine(ed) (fun iN=>?_) (fun iN=>?_)
   ·
    obtain⟨b2,o2,r2,Bj,_,⟨q4,q5,q6,rfl,_⟩,yj,_⟩:=(hr.ext c1).at (ao (show k - 1<ab.length by omega))
    simp at iN
    have sk:ab[k-1].ring=aD ab (k-1):=(cM (by omega)).symm;refine dA ?_;refine WP .r (PV.Kk ll (k - 1) Bj rfl rfl (by omega) (by omega))<|WP .r (PV.fa mU rfl)<|(bM) fq yj<|?_;exact(dp) (by simp [*]) rfl
   simp at iN
   have QN:¬(0<k):=by omega
   exact(dp) (by simp [*]) rfl
  exact(dp) (by simp [*]) rfl
 rintro _ rfl;refine(aZ) (fun H9=>?_) fun H9=>?_
 ·
  simp at H9
  obtain⟨g1,g2,g3⟩:=H9;obtain⟨j,rfl⟩:∃j,k=j+1:=⟨k - 1,by omega⟩;refine qd ?_;refine EX.again j (Sub.k2 rfl rfl<|Sub.kN rfl (by omega)<|Sub.cons rfl<|Sub.nil) ⟨c1,by omega,by rw [← H4,ue (by simpa using g3)],fun h=>absurd (cM l4) (by simp [h,g1])⟩ (by omega)
 simp at H9
 have XG:(block ab nn).1=k:=by
  rw [Nk]
  by_cases jr:aD ab nn=true
  ·
   rw [if_pos jr]
   show(bY ab nn:Int)=k
   rw [← H4,wK]
   by_cases h0:k=0
   ·
    exact .inl h0
   exact .inr (H9 (by rw [← cM l4];exact jr) (by omega))
  rw [if_neg jr,hnr (by simpa using jr)]
 refine gM ?_;refine WC.loop (σ:=Nat) (eP:=fun m=>[(0,.slice a r c),(1,.int .i64 (nn:Int)),(6,.int .i64 (k:Int)),(7,.int .i64 (m:Int))]) (I:=fun m w'=>aV [] w w'∧nn+1≤m∧m≤r∧eW ab m=eW ab (nn+1)∧(aD ab nn=false→m=nn+1)) (μ:=fun m=>r - m) (nn+1) Sub.t ⟨c1,Nat.le_refl _,by omega,rfl,fun _=>rfl⟩ ?_;rintro m w2 ⟨c2,Bk,kI,VV,ajf⟩;refine cS ?_;obtain⟨b1,o1,r1,nY,_,⟨q1,q2,q3,rfl,_⟩,jr,_⟩:=(hr.ext c2).at (ao l4);refine WC.mI (t:=55) (v:=.bool (ab[nn].ring && (decide ((m:Int)<r) && aD ab m))) (fun wx=>w2=wx) ?_ ?_
 ·
  refine dA ?_;refine WP .r (PV.fO ll nY rfl rfl (by omega))<|WP .r (PV.fa mU rfl)<|(bM) fq jr<|(ed) (fun nI=>?_) (fun nI=>?_)
  ·
   refine cS ?_;refine WP .r (PV.jH ll rfl)<|(ed) (fun vm=>?_) (fun vm=>?_)
   ·
    simp at vm
    obtain⟨b2,o2,r2,Bj,_,⟨q4,q5,q6,rfl,_⟩,yj,_⟩:=(hr.ext c2).at (ao (show m<ab.length by omega));have sk:ab[m].ring=aD ab m:=(cM (by omega)).symm
    have MF:decide ((m:Int)<r)=true:=by simp;omega
    refine cS ?_;refine WP .r (PV.fO ll Bj rfl rfl (by omega))<|WP .r (PV.fa mU rfl)<|(bM) fq yj<|?_;exact(dp) (by first | (rw [sk,nI,MF];rfl) | simp [*]) rfl
   simp at vm
   have QN:¬(m<ab.length):=by omega
   exact(dp) (by first | (rw [sk,nI,MF];rfl) | simp [*]) rfl
  refine bf ?_;exact(dp) (by first | (rw [sk,nI,MF];rfl) | simp [*]) rfl
 rintro _ rfl;refine(aZ) (fun zX=>?_) fun zX=>?_
 ·
  simp at zX
  obtain⟨g1,g2,g3⟩:=zX;refine qd ?_;refine EX.again (m+1) (Sub.k2 rfl rfl<|Sub.cons rfl<|Sub.kN rfl (by omega)<|Sub.nil) ⟨c2,by omega,by omega,by rw [← VV,← wJ g3],fun h=>absurd (cM l4) (by simp [h,g1])⟩ (by omega)
 simp at zX
 have XH:(block ab nn).2=m:=by
  rw [Nk]
  by_cases jr:aD ab nn=true
  ·
   rw [if_pos jr]
   show(eW ab (nn+1):Int)=m
   rw [← VV,yK]
   rcases Nat.lt_or_ge m r with h0 | h0
   ·
    exact zX (by rw [← cM l4];exact jr) (by omega)
   exact oX (by omega)
  rw [if_neg jr,ajf (by simpa using jr)];rfl
 refine bf ?_;refine(Fy) ?_;exact⟨by rw [XG,XH],c2⟩
theorem Pq(w:World) (k:Nat) (os:Array Obj):aV [] w (Sort.grow (w.drewN k) os):=⟨rfl,rfl,rfl,by simp [Sort.grow],Nat.le_add_right _ _,fun i hi _=>Sort.heap_grow_old (w.drewN k) os (k:=i) hi⟩
theorem C4(w:World) (e:TypeId) (s:ByteArray):aV [] w (Lib.bytesWorld w e s):=aV.Gh (Lib.bytesWorld_below _ _ _) (by
 unfold Lib.bytesWorld
 rw [uk];exact Nat.le_succ _)
theorem zY(i:Nat):itoa (i:Int)=⟨(Lib.decDigits i).toArray⟩:=by
 unfold itoa Lib.itoa
 rw [if_neg (by omega),Int.toNat_natCast]
theorem lq(h0:0≤n) (h1:n≤99) (w:World):CR prog 29 #[.int .i64 n] w (.string (itoa n)):=by
 obtain⟨i,rfl⟩:∃i:Nat,n=i:=⟨n.toNat,by omega⟩
 exact(strconv_Itoa_small i (by omega) w).mono fun e w' ⟨he,hw⟩=>⟨by rw [he,zY],by rw [hw];exact aV.refl _ _⟩
theorem pn(ht:nO prog A w) (h0:-9223372036854775808≤n) (h1:n≤9223372036854775807):CR prog 29 #[.int .i64 n] w (.string (itoa n)):=
 (strconv_Itoa n h0 h1 w (by obtain⟨⟨b,_,_,h⟩,_⟩:=ht;exact h w rfl)).mono fun e w' ⟨he,k,os,hw⟩=>⟨he,by rw [hw];exact Pq _ _ _⟩
theorem sy(s t:ByteArray) (w:World):CR prog 72 #[.string s,.string t] w (.int .i64 (Lib.compareBytes s.data.toList t.data.toList)):=
 (strings_Compare s t w).mono fun e w' ⟨he,hw⟩=>⟨he,by rw [hw];exact aV.refl _ _⟩
theorem C5{d acc:Nat}(hd:d<10) (ha:acc<100000000000000000):Lib.parseUint10 acc [UInt8.ofNat (48+d)]=.ok (acc*10+d):=by
 have h:(UInt8.ofNat (48+d)).toNat=48+d:=by
  rw [UInt8.toNat_ofNat']
  omega
 simp only [Lib.parseUint10,h];rw [if_pos (by omega),if_neg (by omega),if_neg (by omega)]
 congr 1
 omega
theorem zZ(b:UInt8):∀(l:List UInt8) (acc u:Nat),Lib.parseUint10 acc l=.ok u→Lib.parseUint10 acc (l++[b])=Lib.parseUint10 u [b]
 | [],acc,u,h=>by
  simp only [Lib.parseUint10] at h
  injection h with h
  subst h
  rfl
 | c::r,acc,u,h=>by
  have ih:=fun a=>zZ b r a u
  generalize Lib.parseUint10 u [b]=X at ih ⊢
  simp only [List.cons_append,Lib.parseUint10] at h ⊢
  split at h
  ·
   rename_i h1
   rw [if_pos h1]
   split at h
   ·
    cases h
   rename_i h2
   rw [if_neg h2]
   split at h
   ·
    cases h
   rename_i h3
   rw [if_neg h3];exact ih _ h
  cases h
theorem C6(n:Nat) (hn:n≤99999):Lib.parseUint10 0 (Lib.decDigits n)=.ok n:=by
 by_cases h:n<10
 ·
  rw [Lib.decDigits,dif_pos h];have h1:=C5 (acc:=0) h (by omega);rw [Nat.zero_mul,Nat.zero_add] at h1;exact h1
 rw [Lib.decDigits,dif_neg h,zZ _ _ _ _ (C6 (n / 10) (by omega)),C5 (by omega) (by omega)]
 congr 1
 omega
termination_by n
decreasing_by omega
theorem GX(n:Nat):∃b r,Lib.decDigits n=b::r∧48≤b.toNat:=by
 by_cases h:n<10
 ·
  refine⟨UInt8.ofNat (48+n),[],by rw [Lib.decDigits,dif_pos h],?_⟩;rw [UInt8.toNat_ofNat']
  omega
 obtain⟨b,r,h1,h2⟩:=GX (n / 10);exact⟨b,r++[UInt8.ofNat (48+n % 10)],by rw [Lib.decDigits,dif_neg h,h1,List.cons_append],h2⟩
termination_by n
decreasing_by omega
theorem Lf(n:Nat):(Lib.decDigits n).length≤n+1:=by
 by_cases h:n<10
 ·
  rw [Lib.decDigits,dif_pos h,List.length_singleton]
  omega
 have h1:=Lf (n / 10);rw [Lib.decDigits,dif_neg h,List.length_append,List.length_singleton]
 omega
termination_by n
decreasing_by omega
theorem Pr{n:Nat}(hn:n≤99999):Lib.atoiAll (Lib.decDigits n)=.ok (n:Int):=by
 obtain⟨b,r,h1,h2⟩:=GX n;have h3:=C6 n hn;rw [h1] at h3 ⊢;rw [Lib.atoiAll_plain b r (by omega) (by omega)]
 unfold Lib.parseMag
 rw [if_neg (by simp),h3]
 show(if 9223372036854775808≤n then Lib.NumEnd.range else .ok (n:Int))=.ok (n:Int)
 rw [if_neg (by omega)]
theorem GY{n:Nat}(h:n≤99999) (w:World):CR prog 154 #[.string (itoa n)] w (.tuple #[.int .i64 (n:Int),.nilIface]):=by
 have hs:(itoa (n:Int)).data.toList=Lib.decDigits n:=(congrArg (fun x:ByteArray=>x.data.toList) (zY n)).trans rfl
 refine(strconv_Atoi_ok (itoa n) ?_ n (by rw [hs];exact Pr h) w).mono fun e w' ⟨he,hw⟩=>⟨he,?_⟩
 ·
  have h1:=Lf n;rw [zY]
  show(Lib.decDigits n).toArray.size≤9223372036854775806
  rw [List.size_toArray]
  omega
 rcases hw with rfl | ⟨t,rfl⟩
 ·
  exact aV.refl _ _
 exact C4 _ _ _
theorem Jx{n:Nat}(h:n≤99) (w:World):CR prog 154 #[.string (itoa n)] w (.tuple #[.int .i64 (n:Int),.nilIface]):=GY (by omega) w
set_option maxHeartbeats 400000
theorem GZ :CR prog 96 #[.int .i64 n] w (.bool (oY n)):=by
 refine enter func96 rfl ntmps96 rfl<|?_;have c0:aV [] w w:=aV.refl _ _;refine jo ?_;refine WC.ou (t:=2) (v:=.bool (oY n)) (fun wx=>w=wx) ?_ ?_
 ·
  refine(ed) (fun g5=>?_) (fun g5=>?_)
  ·
   refine bf ?_;exact(iH) (by unfold oY;simp only [g5];first | rfl | simp) rfl
  refine(ed) (fun g9=>?_) (fun g9=>?_)
  ·
   exact(iH) (by unfold oY;simp only [g5,g9];first | rfl | simp) rfl
  refine(ed) (fun g13=>?_) (fun g13=>?_)
  ·
   exact(iH) (by unfold oY;simp only [g5,g9,g13];first | rfl | simp) rfl
  exact(iH) (by unfold oY;simp only [g5,g9,g13];first | rfl | simp) rfl
 rintro _ rfl;refine(cy) ?_;exact⟨rfl,c0⟩
theorem fD :CR prog 44 #[k.val] w (.bool (az k)):=by
 refine enter func44 rfl ntmps44 rfl<|?_;have c0:aV [] w w:=aV.refl _ _;refine cS ?_;refine WL.go rfl (OX.box rfl rfl rfl fun b1 w1 oU dK=>?_);have s1:=oU.ext;have tD:=oU.j9 c0;have c1:=c0.trans s1;refine dV ?_;refine WC.ou (t:=2) (v:=.bool (az k)) (fun wx=>w1=wx) ?_ ?_
 ·
  refine nx ?_;refine WP .r (PV.fa eT rfl)<|(bM) aU dK.range<|(ed) (fun g6=>?_) (fun g6=>?_)
  ·
   exact(iH) (by unfold az;simp only [g6];first | rfl | simp) rfl
  refine WP .r (PV.fa eT rfl)<|(bM) aU dK.range<|(ed) (fun g11=>?_) (fun g11=>?_)
  ·
   exact(iH) (by unfold az;simp only [g6,g11];first | rfl | simp) rfl
  refine WP .r (PV.fa eT rfl)<|(bM) aU dK.range<|?_;exact(iH) (by unfold az;simp only [g6,g11];first | rfl | simp) rfl
 rintro _ rfl;refine(cy) ?_;exact⟨rfl,c1⟩
theorem jU :CR prog 19 #[.int .i64 n] w ((dx n).val):=by
 refine enter func19 rfl ntmps19 rfl<|?_;have c0:aV [] w w:=aV.refl _ _;refine cS ?_;refine WL.go rfl (OX.alloc Jr rfl fun b2 w1 nv fl=>?_);have s1:=nv.ext;have qK:=nv.j9 c0;have c1:=c0.trans s1;refine dV ?_;refine WC.mI (t:=8) (v:=.bool (decide (n<0) || decide (99<n))) (fun wx=>w1=wx) ?_ ?_
 ·
  refine(ed) (fun g5=>?_) (fun g5=>?_)
  ·
   exact(dp) (by simp only [g5];first | rfl | simp) rfl
  exact(dp) (by simp only [g5];first | rfl | simp) rfl
 rintro _ rfl;refine(aZ) (fun g8=>?_) fun g8=>?_
 ·
  have hk:dx n=dn:=by unfold dx;rw [if_pos (by simp at g8;omega)]
  refine cS ?_;refine WP .r (PV.bU (us:=[.int .i64 0,.string ⟨#[]⟩]) D4 rfl rfl rfl)<|?_;refine WL.go rfl (OX.pB jz fl rfl rfl rfl rfl rfl fun w2 s2 _ fl=>?_);have c2:=c1.own s2 qK;refine(my) aq fl.range<|?_;rw [hk];exact⟨rfl,c2⟩
 simp at g8
 have hk:dx n=⟨30,itoa n⟩:=by unfold dx;rw [if_neg (by omega)]
 refine(dh) SS (lq (n:=n) (by omega) (by omega) w1) ?_;rintro _ w2 ⟨rfl,s2⟩;have c2:=c1.trans s2;have fl:=fl.ext s2;refine WP .r (PV.bU (us:=[.int .i64 30,.string (itoa n)]) D4 rfl rfl rfl)<|?_;refine WL.go rfl (OX.pB jz fl rfl rfl rfl rfl rfl fun w3 s3 _ fl=>?_);have c3:=c2.own s3 qK;refine(my) aq fl.range<|?_;rw [hk];exact⟨rfl,c3⟩
theorem gZ(hr:ik A w a r c ab):CR prog 11 #[.slice a r c,.int .i64 n] w ((aL ab n).val):=by
 have hle:=hr.le;have hlen:=hr.len;refine enter func11 rfl ntmps11 rfl<|?_;have c0:aV [] w w:=aV.refl _ _;refine cS ?_;refine WL.go rfl (OX.alloc Jr rfl fun b4 w1 jG bE=>?_);have s1:=jG.ext;have iw:=jG.j9 c0;have c1:=c0.trans s1;refine dV ?_;refine WC.mI (t:=17) (v:=.bool (decide (n<0) || (decide ((r:Int)≤n) || decide (99<n)))) (fun wx=>w1=wx) ?_ ?_
 ·
  refine(ed) (fun g8=>?_) (fun g8=>?_)
  ·
   exact(dp) (by simp only [g8];first | rfl | simp) rfl
  refine cS ?_;refine WP .r (PV.jH ll rfl)<|(ed) (fun g14=>?_) (fun g14=>?_)
  ·
   exact(dp) (by simp only [g8,g14];first | rfl | simp) rfl
  exact(dp) (by simp only [g8,g14];first | rfl | simp) rfl
 rintro _ rfl;refine(aZ) (fun g17=>?_) fun g17=>?_
 ·
  have hk:aL ab n=dn:=by unfold aL;rw [if_pos (by simp at g17;omega)]
  refine cS ?_;refine WP .r (PV.bU (us:=[.int .i64 0,.string ⟨#[]⟩]) D4 rfl rfl rfl)<|?_;refine WL.go rfl (OX.pB jz bE rfl rfl rfl rfl rfl fun w2 s2 _ bE=>?_);have c2:=c1.own s2 iw;refine(my) aq bE.range<|?_;rw [hk];exact⟨rfl,c2⟩
 simp at g17
 obtain⟨i,rfl⟩:∃i:Nat,n=i:=⟨n.toNat,by omega⟩
 have hi:i<ab.length:=by omega
 have hk:aL ab i=⟨if aD ab i then 32 else 31,itoa i⟩:=by unfold aL;rw [if_neg (by omega)];rfl
 have lC:=cM hi;refine(dh) SS (lq (n:=(i:Int)) (by omega) (by omega) w1) ?_;rintro _ w2 ⟨rfl,s2⟩;have c2:=c1.trans s2;have bE:=bE.ext s2;refine WP .r (PV.bU (us:=[.int .i64 31,.string (itoa i)]) D4 rfl rfl rfl)<|?_;refine WL.go rfl (OX.alloc Jr rfl fun b5 w3 nh gw=>?_);have s3:=nh.ext;have tE:=nh.j9 c2;have mV:b4≠b5:=nh.ne bE.lt;have tF:b5≠b4:=Ne.symm mV;have c3:=c2.trans s3;have bE:=bE.ext s3;refine WL.go rfl (OX.pB jz gw rfl rfl rfl rfl rfl fun w4 s4 _ gw=>?_);have c4:=c3.own s4 tE;have bE:=bE.cW s4 (by simp [mV]);refine dV ?_;obtain⟨b1,o1,r1,nY,_,⟨q1,q2,q3,rfl,_⟩,jr,_⟩:=(hr.ext c4).at (ao hi);refine dA ?_;refine WP .r (PV.fO ll nY rfl rfl (by omega))<|WP .r (PV.fa mU rfl)<|(bM) fq jr<|(aZ) (fun kq=>?_) fun kq=>?_
 ·
  have nc:aL ab i=⟨32,itoa i⟩:=by rw [hk,lC,kq];rfl
  refine nx ?_;refine WP .r (PV.fa eT rfl)<|?_;refine WL.go rfl (OX.st QT gw rfl rfl (by first | (simp [nth];done) | exact nns rfl) rfl rfl fun w5 s5 _ gw=>?_);have c5:=c4.own s5 tE;have bE:=bE.cW s5 (by simp [mV]);refine(bA) aq gw.range<|?_;refine WL.go rfl (OX.pB jz bE rfl rfl rfl rfl rfl fun w6 s6 _ bE=>?_);have c6:=c5.own s6 iw;have gw:=gw.cW s6 (by simp [tF]);refine(my) aq bE.range<|?_;rw [nc];exact⟨rfl,c6⟩
 have nc:aL ab i=⟨31,itoa i⟩:=by rw [hk,lC,kq];rfl
 refine(bA) aq gw.range<|?_;refine WL.go rfl (OX.pB jz bE rfl rfl rfl rfl rfl fun w5 s5 _ bE=>?_);have c5:=c4.own s5 iw;have gw:=gw.cW s5 (by simp [tF]);refine(my) aq bE.range<|?_;rw [nc];exact⟨rfl,c5⟩
theorem oJ{l:List Key}(hl:Dq A w a r c l):CR prog 15 #[.slice a r c,k.val] w (.bool (decide (k∈l))):=by
 have hle:=hl.le;have hlen:=hl.len;refine enter func15 rfl ntmps15 rfl<|?_;have c0:aV [] w w:=aV.refl _ _;refine cS ?_;refine WL.go rfl (OX.box rfl rfl rfl fun b3 w1 iO dJ=>?_);have s1:=iO.ext;have qL:=iO.j9 c0;have c1:=c0.trans s1;refine gM ?_;refine WP .r (PV.jH fV rfl)<|dV ?_;refine WC.loop (σ:=Nat × World) (eP:=fun s=>[(3,.pointer (some ⟨b3,0,none⟩)),(7,.slice a r c),(8,.int .i64 (r:Int)),(9,.int .i64 (s.1:Int))]) (I:=fun s w'=>aV [] w w'∧cV w' b3 39 [.int .i64 k.kind,.string k.text]∧s.1≤r∧k∉l.take s.1) (μ:=fun s=>r - s.1) (0,w) Sub.t ⟨c1,dJ,by omega,by simp⟩ ?_;rintro⟨i,_⟩ w2 ⟨c2,dJ,hi,gR⟩;refine(aZ) (fun g10=>?_) fun g10=>?_
 ·
  simp at g10
  have cT:i<l.length:=by omega
  refine eC ?_;obtain⟨b1,o1,r1,nY,_,rfl,jr,_⟩:=(hl.ext c2).at (ao cT);refine nx ?_;refine WP .r (PV.fO fV nY rfl rfl (by omega))<|(bA) aq jr<|?_;refine WL.go rfl (OX.alloc Jr rfl fun b6 w3 mC eE=>?_);have s3:=mC.ext;have gz:=mC.j9 c2;have gj:b3≠b6:=mC.ne dJ.lt;have tH:b6≠b3:=Ne.symm gj;have c3:=c2.trans s3;have dJ:=dJ.ext s3;refine WL.go rfl (OX.pB jz eE rfl rfl rfl rfl rfl fun w4 s4 _ eE=>?_);have c4:=c3.own s4 gz;have dJ:=dJ.cW s4 (by simp [gj]);refine(bA) aq eE.range<|(bA) aq dJ.range<|?_;refine WP .r (PV.Kl gY (p:=l[i]) (q:=k) rfl rfl)<|(aZ) (fun g15=>?_) fun g15=>?_
  ·
   simp at g15
   refine(cy) ?_;exact⟨by rw [decide_eq_true (g15 ▸ List.getElem_mem cT)],c4⟩
  simp at g15
  refine gM ?_;refine EX.again (i+1,w) (Sub.k2 rfl rfl<|Sub.cons rfl<|Sub.kN rfl (by simp)<|Sub.nil) ⟨c4,dJ,by omega,by have h:=List.take_succ_eq_append_getElem cT;simp only [h,List.mem_append,List.mem_singleton,not_or];exact⟨gR,fun e=>g15 e.symm⟩⟩ (by simp;omega)
 simp at g10
 have cY:k∉l:=by rw [← List.take_of_length_le (show l.length≤i by omega)];exact gR
 refine(cy) ?_;exact⟨by rw [decide_eq_false cY],c2⟩
theorem sA{s:ByteArray} :CR prog 105 #[.string s] w (.int .i64 (fb s)):=by
 have he:=Cm s;have hz:=yL s;refine enter func105 rfl ntmps105 rfl<|?_;have c0:aV [] w w:=aV.refl _ _;refine gM ?_;refine WC.mI (t:=20) (v:=.bool (oZ s)) (fun wx=>w=wx) ?_ ?_
 ·
  refine(ed) (fun g7=>?_) (fun g7=>?_)
  ·
   refine bf ?_;exact(dp) (by unfold oZ;first | (simp only [g7,Pu];done) | (simp only [g7,Pu];rfl) | (simp only [g7];rfl)) rfl
  skip
  refine nx ?_;refine WP .r (PV.yx vT rfl)<|(ed) (fun g12=>?_) (fun g12=>?_)
  ·
   exact(dp) (by unfold oZ;first | (simp only [g7,g12,Pu];done) | (simp only [g7,g12,Pu];rfl) | (simp only [g7,g12];rfl)) rfl
  have h7:=of_decide_eq_false g7;rw [he] at h7;obtain⟨b0,Mm,Pu⟩:=F7 s (by omega);refine nx ?_;refine WP .r (PV.Rg vT (i:=0) rfl rfl Mm)<|(ed) (fun g16=>?_) (fun g16=>?_)
  ·
   exact(dp) (by unfold oZ;first | (simp only [g7,g12,g16,Pu];done) | (simp only [g7,g12,g16,Pu];rfl) | (simp only [g7,g12,g16];rfl)) rfl
  exact(dp) (by unfold oZ;first | (simp only [g7,g12,g16,Pu];done) | (simp only [g7,g12,g16,Pu];rfl) | (simp only [g7,g12,g16];rfl)) rfl
 rintro _ rfl;refine(aZ) (fun g20=>?_) fun g20=>?_
 ·
  have hd:fb s = -1:=by rw [wL];rw [if_pos g20]
  refine(cy) ?_;rw [hd];exact⟨rfl,c0⟩
 have hd:fb s=decFrom s.data.toList 0:=by rw [wL,g20];rfl
 have hs9:=LI g20;refine bf ?_;refine cS ?_;refine WC.loop (σ:=Nat × Nat) (eP:=fun p=>[(0,.string s),(3,.int .i64 (p.2:Int)),(4,.int .i64 (p.1:Int))]) (I:=fun p w'=>aV [] w w'∧p.1≤s.size∧p.2<10 ^ p.1∧decFrom s.data.toList 0=decFrom (s.data.toList.drop p.1) p.2) (μ:=fun p=>s.size - p.1) (0,0) Sub.t ⟨c0,by simp,by simp,by simp⟩ ?_;rintro⟨i,n⟩ w1 ⟨c1,hi,hn,Ub⟩;simp only at hi hn Ub;have hn9:n<10 ^ 9:=Nat.lt_of_lt_of_le hn (Nat.pow_le_pow_right (by omega) (by omega));refine eC ?_;refine WP .r (PV.yx vT rfl)<|(aZ) (fun g24=>?_) fun g24=>?_
 ·
  simp at g24
  obtain⟨b0,Mm,C7⟩:=Dw s (n:=(n:Int)) g24;refine jo ?_;refine WC.mI (t:=36) (v:=.bool (decide ((b0.toNat:Int)<48) || decide (57<(b0.toNat:Int)))) (fun wx=>w1=wx) ?_ ?_
  ·
   refine dA ?_;refine WP .r (PV.Rg vT (i:=i) rfl rfl Mm)<|(ed) (fun rV=>?_) (fun rV=>?_)
   ·
    exact(dp) (by simp only [rV];first | rfl | simp) rfl
   refine cS ?_;refine WP .r (PV.Rg vT (i:=i) rfl rfl Mm)<|?_;exact(dp) (by simp only [rV];first | rfl | simp) rfl
  rintro _ rfl;refine(aZ) (fun gQ=>?_) fun gQ=>?_
  ·
   have QH:fb s = -1:=by rw [hd,Ub,C7,if_pos (by simp at gQ;omega)]
   refine(cy) ?_;rw [QH];exact⟨rfl,c1⟩
  simp at gQ
  rw [if_neg (by omega)] at C7;have aqK:10 ^ (i+1)=10*10 ^ i:=Nat.pow_succ';refine dV ?_;refine WP .r (PV.mul rfl rfl (by omega) (by omega))<|cS ?_;refine WP .r (PV.Rg vT (i:=i) rfl rfl Mm)<|WP .r (PV.aaV rfl rfl (by omega) (by omega))<|WP .r (PV.conv ⟨_,ail⟩ aik rfl (by omega) (by omega))<|oC ?_;refine EX.again (i+1,10*n+(b0.toNat - 48)) (Sub.cons rfl<|Sub.kN rfl (by simp;omega)<|Sub.kN rfl (by simp)<|Sub.nil) ⟨c1,by simp;omega,by simp only;omega,by simp only;rw [Ub,C7];congr 1;omega⟩ (by simp only;omega)
 simp at g24
 have QH:fb s=n:=by rw [hd,Ub,List.drop_eq_nil_of_le (by rw [Array.length_toList];exact g24)];rfl
 refine(cy) ?_;rw [QH];exact⟨rfl,c1⟩
theorem mq :CR prog 70 #[k.val] w (.int .i64 (number k)):=by
 refine enter func70 rfl ntmps70 rfl<|?_;have c0:aV [] w w:=aV.refl _ _;refine cS ?_;refine WL.go rfl (OX.box rfl rfl rfl fun b1 w1 oU dK=>?_);have s1:=oU.ext;have tD:=oU.j9 c0;have c1:=c0.trans s1;refine jo ?_;refine WP .r (PV.fa tw rfl)<|(bM) iF dK.range<|(dh) Uu (sA (s:=k.text)) ?_;rintro _ w2 ⟨rfl,s2⟩;have c2:=c1.trans s2;have dK:=dK.ext s2;refine dV ?_;refine WC.mI (t:=18) (v:=.bool (decide (30≤k.kind) && (decide (k.kind≤32) && decide (fb k.text≤99)))) (fun wx=>w2=wx) ?_ ?_
 ·
  refine nx ?_;refine WP .r (PV.fa eT rfl)<|(bM) aU dK.range<|(ed) (fun g10=>?_) (fun g10=>?_)
  ·
   refine WP .r (PV.fa eT rfl)<|(bM) aU dK.range<|(ed) (fun g15=>?_) (fun g15=>?_)
   ·
    exact(dp) (by simp only [g10,g15];first | rfl | simp) rfl
   exact(dp) (by simp only [g10,g15];first | rfl | simp) rfl
  exact(dp) (by simp only [g10];first | rfl | simp) rfl
 rintro _ rfl;refine(aZ) (fun g18=>?_) fun g18=>?_
 ·
  simp at g18
  have hn:number k=fb k.text:=by unfold number;rw [if_pos g18]
  refine(cy) ?_;rw [hn];exact⟨rfl,c2⟩
 simp at g18
 have hn:number k = -1:=by unfold number;rw [if_neg (by intro h;have:=g18 h.1 h.2.1;omega)]
 refine(cy) ?_;rw [hn];exact⟨rfl,c2⟩
theorem ks :CR prog 43 #[k.val] w (.bool (gN k)):=by
 refine enter func43 rfl ntmps43 rfl<|?_;have c0:aV [] w w:=aV.refl _ _;refine cS ?_;refine WL.go rfl (OX.box rfl rfl rfl fun b1 w1 oU dK=>?_);have s1:=oU.ext;have tD:=oU.j9 c0;have c1:=c0.trans s1;refine eC ?_;refine WC.mI (t:=10) (v:=.bool (decide (30≤k.kind) && decide (k.kind≤32))) (fun wx=>w1=wx) ?_ ?_
 ·
  refine nx ?_;refine WP .r (PV.fa eT rfl)<|(bM) aU dK.range<|(ed) (fun g6=>?_) (fun g6=>?_)
  ·
   refine WP .r (PV.fa eT rfl)<|(bM) aU dK.range<|?_;exact(dp) (by simp only [g6];first | rfl | simp) rfl
  exact(dp) (by simp only [g6];first | rfl | simp) rfl
 rintro _ rfl;refine(aZ) (fun g10=>?_) fun g10=>?_
 ·
  simp at g10
  refine(bA) aq dK.range<|(dh) SY (mq (k:=k)) ?_;rintro _ w2 ⟨rfl,s2⟩;have c2:=c1.trans s2;have dK:=dK.ext s2;refine(cy) ?_;exact⟨by unfold gN;rw [if_pos (by omega)],c2⟩
 simp at g10
 have hv:=F8 k (by omega);refine dA ?_;refine WC.ou (t:=2) (v:=.bool (gN k)) (fun wx=>w1=wx) ?_ ?_
 ·
  refine nx ?_;refine WP .r (PV.fa eT rfl)<|(bM) aU dK.range<|(ed) (fun g17=>?_) (fun g17=>?_)
  ·
   refine WP .r (PV.fa eT rfl)<|(bM) aU dK.range<|(ed) (fun g22=>?_) (fun g22=>?_)
   ·
    refine WP .r (PV.fa tw rfl)<|(bM) iF dK.range<|?_;refine WP .r (PV.yx vT rfl)<|(ed) (fun iN=>?_) (fun iN=>?_)
    ·
     refine WP .r (PV.fa tw rfl)<|(bM) iF dK.range<|(ed) (fun rH=>?_) (fun rH=>?_)
     ·
      exact(iH) (by rw [hv];simp only [g17,g22,iN,rH];first | rfl | simp) rfl
     refine WP .r (PV.fa eT rfl)<|(bM) aU dK.range<|(ed) (fun gQ=>?_) (fun gQ=>?_)
     ·
      refine WP .r (PV.fa eT rfl)<|(bM) aU dK.range<|?_;exact(iH) (by rw [hv];simp only [g17,g22,iN,rH,gQ];first | rfl | simp) rfl
     exact(iH) (by rw [hv];simp only [g17,g22,iN,rH,gQ];first | rfl | simp) rfl
    refine bf ?_;exact(iH) (by rw [hv];simp only [g17,g22,iN];first | rfl | simp) rfl
   refine bf ?_;exact(iH) (by rw [hv];simp only [g17,g22];first | rfl | simp) rfl
  refine bf ?_;refine bf ?_;exact(iH) (by rw [hv];simp only [g17];first | rfl | simp) rfl
 rintro _ rfl;refine(cy) ?_;exact⟨rfl,c1⟩
theorem ee :CR prog 64 #[k.val] w (.bool (aA k)):=by
 refine enter func64 rfl ntmps64 rfl<|?_;have c0:aV [] w w:=aV.refl _ _;refine cS ?_;refine WL.go rfl (OX.box rfl rfl rfl fun b1 w1 oU dK=>?_);have s1:=oU.ext;have tD:=oU.j9 c0;have c1:=c0.trans s1;refine dV ?_;refine WC.ou (t:=2) (v:=.bool (aA k)) (aV [] w1) ?_<|?_
 ·
  refine nx ?_;refine WP .r (PV.fa eT rfl)<|(bM) aU dK.range<|(ed) (fun g6=>?_) (fun g6=>?_)
  ·
   refine bf ?_;exact(iH) (by unfold aA;simp only [g6];first | rfl | simp) (aV.refl _ _)
  refine WP .r (PV.fa eT rfl)<|(bM) aU dK.range<|(ed) (fun g10=>?_) (fun g10=>?_)
  ·
   refine WP .r (PV.fa eT rfl)<|(bM) aU dK.range<|(ed) (fun g15=>?_) (fun g15=>?_)
   ·
    refine WP .r (PV.fa eT rfl)<|(bM) aU dK.range<|(dh) ai9 (GZ (n:=k.kind)) ?_;rintro _ w2 ⟨rfl,s2⟩;have c2:=c1.trans s2;have dK:=dK.ext s2;exact(iH) (by unfold aA;simp only [g6,g10,g15];first | rfl | simp) s2
   exact(iH) (by unfold aA;simp only [g6,g10,g15];first | rfl | simp) (aV.refl _ _)
  exact(iH) (by unfold aA;simp only [g6,g10];first | rfl | simp) (aV.refl _ _)
 intro w2 s2;have c2:=c1.trans s2;have dK:=dK.ext s2;refine(cy) ?_;exact⟨rfl,c2⟩
theorem mD{q:Key} :CR prog 46 #[k.val,q.val] w (.int .i64 (cv k q)):=by
 refine enter func46 rfl ntmps46 rfl<|?_;have c0:aV [] w w:=aV.refl _ _;refine cS ?_;refine WL.go rfl (OX.box rfl rfl rfl fun b2 w1 nv fl=>?_);have s1:=nv.ext;have qK:=nv.j9 c0;have c1:=c0.trans s1;refine WL.go rfl (OX.box rfl rfl rfl fun b3 w2 iO dJ=>?_);have s2:=iO.ext;have qL:=iO.j9 c1;have iy:b2≠b3:=iO.ne fl.lt;have po:b3≠b2:=Ne.symm iy;have c2:=c1.trans s2;have fl:=fl.ext s2;refine gM ?_;refine WP .r (PV.fa eT rfl)<|(bM) aU fl.range<|?_;refine WP .r (PV.fa eT rfl)<|(bM) aU dJ.range<|(aZ) (fun g5=>?_) fun g5=>?_
 ·
  simp at g5
  refine(cy) ?_;exact⟨by unfold cv;rw [if_pos g5],c2⟩
 simp at g5
 refine cS ?_;refine WP .r (PV.fa eT rfl)<|(bM) aU fl.range<|?_;refine WP .r (PV.fa eT rfl)<|(bM) aU dJ.range<|(aZ) (fun g11=>?_) fun g11=>?_
 ·
  simp at g11
  refine(cy) ?_;exact⟨by unfold cv;rw [if_neg (by omega),if_pos g11],c2⟩
 simp at g11
 refine eC ?_;refine WP .r (PV.fa tw rfl)<|(bM) iF fl.range<|?_;refine WP .r (PV.fa tw rfl)<|(bM) iF dJ.range<|(dh) acE (sy k.text q.text w2) ?_;rintro _ w3 ⟨rfl,s3⟩;have c3:=c2.trans s3;have fl:=fl.ext s3;have dJ:=dJ.ext s3;refine(cy) ?_;exact⟨by unfold cv;rw [if_neg (by omega),if_neg (by omega)],c3⟩
end Go.Rc

