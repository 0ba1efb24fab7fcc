/- Walks over the program, part WB. Conditions: as each theorem says. -/
import Derived.Test.YtjpagoacbadijaaGreatDoorNFacts
import Derived.Test.YtjpagoacbadijaaGreatDoorNBb
import Derived.Test.YtjpagoacbadijaaGreatDoorNBe
import Derived.Test.YtjpagoacbadijaaGreatDoorShelf
import Derived.Lib.UnsafeStr
set_option linter.all false
namespace Go.Rc
open Go Go.Proofs Go.Proofs.Tryz
variable {n:Int}{w:World}{ab:List aG}{A:Nat→Prop}{a:Option Addr}{r c:Nat}{k:Key}
set_option maxHeartbeats 400000
theorem MI{m:Int}(h4:m≤4611686018427387904):CR prog 67 #[.int .i64 n,.int .i64 m] w (.int .i64 (if m<1 then 0 else n % m)):=by
 refine enter func67 rfl ntmps67 rfl<|?_;have c0:aV [] w w:=aV.refl _ _;refine(aZ) (fun g6=>?_) fun g6=>?_
 ·
  simp at g6
  refine(cA) ?_;exact⟨by rw [if_pos (by omega)],c0⟩
 simp at g6
 have k1:=Int.tmod_lt_of_pos n (show 0<m by omega);have k2:=Int.lt_tmod_of_pos n (show 0<m by omega);refine ji ?_;refine WP .r (PV.rem rfl rfl (by omega))<|dE ?_;refine WP .r (PV.rem rfl rfl (by omega))<|(cA) ?_;refine⟨?_,c0⟩;rw [if_neg (by omega)]
 congr 2
 rw [Int.tmod_eq_emod_of_nonneg (by omega),Int.add_emod_right,LI]
theorem xw(hr:il A w a r c ab):CR prog 41 #[.slice a r c,.int .i64 n] w (.tuple #[.int .i64 (block ab n).1,.int .i64 (block ab n).2]):=by
 have hle:=hr.le;have hlen:=hr.len;refine enter func41 rfl ntmps41 rfl<|?_;have c0:aV [] w w:=aV.refl _ _;refine kQ ?_;refine WC.mJ (t:=15) (v:=.bool (decide (n<0) || decide ((r:Int)≤n))) (fun wx=>w=wx) ?_ ?_
 ·
  refine(dY) (fun g10=>?_) (fun g10=>?_)
  ·
   exact(dt) (by simp only [g10];first | done | rfl | simp) rfl
  refine cS ?_;refine WP .r (PV.jM lq rfl)<|?_;exact(dt) (by simp only [g10];first | done | rfl | simp) rfl
 rintro _ rfl;refine(aZ) (fun g15=>?_) fun g15=>?_
 ·
  have hb:=Cu ab n (by simp at g15;omega);refine(FL) ?_;exact⟨by rw [hb],c0⟩
 obtain⟨nn,rfl⟩:∃i:Nat,n=i:=⟨n.toNat,by simp at g15;omega⟩
 have l4:nn<ab.length:=by simp at g15;omega
 have Nr:block ab nn=if aD ab nn then ((cj ab nn:Int),(eY ab (nn+1):Int)) else ((nn:Int),(nn:Int)+1):=by
  unfold block;rw [if_neg (by omega)];rfl
 refine bf ?_;refine nx ?_;refine WC.loop (σ:=Nat) (eJ:=fun k=>[(0,.slice a r c),(1,.int .i64 (nn:Int)),(6,.int .i64 (k:Int)),(7,.int .i64 ((nn:Int)+1))]) (I:=fun k w'=>aV [] w w'∧k≤nn∧cj ab k=cj ab nn∧(aD ab nn=false→k=nn)) (μ:=fun k=>k) nn Sub.t ⟨c0,Nat.le_refl _,rfl,fun _=>rfl⟩ ?_;rintro k w1 ⟨c1,hk,Ib,hnr⟩;refine cS ?_;obtain⟨b1,o1,r1,oa,_,⟨q1,q2,q3,rfl,_⟩,js,_⟩:=(hr.ext c1).at (ao l4);refine WC.mJ (t:=35) (v:=.bool (ab[nn].ring && (decide ((0:Int)<k) && aD ab (k - 1)))) (fun wx=>w1=wx) ?_ ?_
 ·
  refine dE ?_;refine WP .r (PV.fI lq oa rfl rfl (by omega))<|WP .r (PV.fa mX rfl)<|(bL) ft js<|(dY) (fun g24=>?_) (fun g24=>?_)
  ·
   refine(dY) (fun iP=>?_) (fun iP=>?_)
   ·
    obtain⟨b2,o2,r2,Bt,_,⟨q4,q5,q6,rfl,_⟩,yt,_⟩:=(hr.ext c1).at (ao (show k - 1<ab.length by omega))
    simp at iP
    have sn:ab[k-1].ring=aD ab (k-1):=(cQ (by omega)).symm;refine dE ?_;refine WP .r (PV.Ko lq (k - 1) Bt rfl rfl (by omega) (by omega))<|WP .r (PV.fa mX rfl)<|(bL) ft yt<|?_;exact(dt) (by simp [*]) rfl
   simp at iP
   have QT:¬(0<k):=by omega
   exact(dt) (by simp [*]) rfl
  exact(dt) (by simp [*]) rfl
 rintro _ rfl;refine(aZ) (fun MJ=>?_) fun MJ=>?_
 ·
  simp at MJ
  obtain⟨g1,g2,g3⟩:=MJ;obtain⟨j,rfl⟩:∃j,k=j+1:=⟨k - 1,by omega⟩;refine qi ?_;refine EX.again j (Sub.k2 rfl rfl<|Sub.kO rfl (by omega)<|Sub.cons rfl<|Sub.nil) ⟨c1,by omega,by rw [← Ib,uk (by simpa using g3)],fun h=>absurd (cQ l4) (by simp [h,g1])⟩ (by omega)
 simp at MJ
 have XV:(block ab nn).1=k:=by
  rw [Nr]
  by_cases js:aD ab nn=true
  ·
   rw [if_pos js]
   show(cj ab nn:Int)=k
   rw [← Ib,wQ]
   by_cases h0:k=0
   ·
    exact .inl h0
   exact .inr (MJ (by rw [← cQ l4];exact js) (by omega))
  rw [if_neg js,hnr (by simpa using js)]
 refine gN ?_;refine WC.loop (σ:=Nat) (eJ:=fun m=>[(0,.slice a r c),(1,.int .i64 (nn:Int)),(6,.int .i64 (k:Int)),(7,.int .i64 (m:Int))]) (I:=fun m w'=>aV [] w w'∧nn+1≤m∧m≤r∧eY ab m=eY ab (nn+1)∧(aD ab nn=false→m=nn+1)) (μ:=fun m=>r - m) (nn+1) Sub.t ⟨c1,Nat.le_refl _,by omega,rfl,fun _=>rfl⟩ ?_;rintro m w2 ⟨c2,Bu,kM,Wa,ajq⟩;refine cS ?_;obtain⟨b1,o1,r1,oa,_,⟨q1,q2,q3,rfl,_⟩,js,_⟩:=(hr.ext c2).at (ao l4);refine WC.mJ (t:=55) (v:=.bool (ab[nn].ring && (decide ((m:Int)<r) && aD ab m))) (fun wx=>w2=wx) ?_ ?_
 ·
  refine dE ?_;refine WP .r (PV.fI lq oa rfl rfl (by omega))<|WP .r (PV.fa mX rfl)<|(bL) ft js<|(dY) (fun nK=>?_) (fun nK=>?_)
  ·
   refine cS ?_;refine WP .r (PV.jM lq rfl)<|(dY) (fun vp=>?_) (fun vp=>?_)
   ·
    simp at vp
    obtain⟨b2,o2,r2,Bt,_,⟨q4,q5,q6,rfl,_⟩,yt,_⟩:=(hr.ext c2).at (ao (show m<ab.length by omega));have sn:ab[m].ring=aD ab m:=(cQ (by omega)).symm
    have MK:decide ((m:Int)<r)=true:=by simp;omega
    refine cS ?_;refine WP .r (PV.fI lq Bt rfl rfl (by omega))<|WP .r (PV.fa mX rfl)<|(bL) ft yt<|?_;exact(dt) (by first | (rw [sn,nK,MK];rfl) | simp [*]) rfl
   simp at vp
   have QT:¬(m<ab.length):=by omega
   exact(dt) (by first | (rw [sn,nK,MK];rfl) | simp [*]) rfl
  refine bf ?_;exact(dt) (by first | (rw [sn,nK,MK];rfl) | simp [*]) rfl
 rintro _ rfl;refine(aZ) (fun Ag=>?_) fun Ag=>?_
 ·
  simp at Ag
  obtain⟨g1,g2,g3⟩:=Ag;refine qi ?_;refine EX.again (m+1) (Sub.k2 rfl rfl<|Sub.cons rfl<|Sub.kO rfl (by omega)<|Sub.nil) ⟨c2,by omega,by omega,by rw [← Wa,← wP g3],fun h=>absurd (cQ l4) (by simp [h,g1])⟩ (by omega)
 simp at Ag
 have XW:(block ab nn).2=m:=by
  rw [Nr]
  by_cases js:aD ab nn=true
  ·
   rw [if_pos js]
   show(eY ab (nn+1):Int)=m
   rw [← Wa,yT]
   rcases Nat.lt_or_ge m r with h0 | h0
   ·
    exact Ag (by rw [← cQ l4];exact js) (by omega)
   exact o5 (by omega)
  rw [if_neg js,ajq (by simpa using js)];rfl
 refine bf ?_;refine(FL) ?_;exact⟨by rw [XV,XW],c2⟩
theorem Pw(w:World) (k:Nat) (os:Array Obj):aV [] w (Sort.grow (w.drewN k) os):=⟨rfl,rfl,rfl,by simp [Sort.grow],Nat.le_add_right _ _,fun i hi _=>Sort.heap_grow_old (w.drewN k) os (k:=i) hi⟩
theorem De(w:World) (e:TypeId) (s:ByteArray):aV [] w (Lib.bytesWorld w e s):=aV.Gp (Lib.bytesWorld_below _ _ _) (by
 unfold Lib.bytesWorld
 rw [uu];exact Nat.le_succ _)
theorem Ah(i:Nat):itoa (i:Int)=⟨(Lib.decDigits i).toArray⟩:=by
 unfold itoa Lib.itoa
 rw [if_neg (by omega),Int.toNat_natCast]
theorem lx(h0:0≤n) (h1:n≤99) (w:World):CR prog 29 #[.int .i64 n] w (.string (itoa n)):=by
 obtain⟨i,rfl⟩:∃i:Nat,n=i:=⟨n.toNat,by omega⟩
 exact(strconv_Itoa_small i (by omega) w).mono fun e w' ⟨he,hw⟩=>⟨by rw [he,Ah],by rw [hw];exact aV.refl _ _⟩
theorem pw(ht:nQ prog A w) (h0:-9223372036854775808≤n) (h1:n≤9223372036854775807):CR prog 29 #[.int .i64 n] w (.string (itoa n)):=
 (strconv_Itoa n h0 h1 w (by obtain⟨⟨b,_,_,h⟩,_⟩:=ht;exact h w rfl)).mono fun e w' ⟨he,k,os,hw⟩=>⟨he,by rw [hw];exact Pw _ _ _⟩
theorem sA(s t:ByteArray) (w:World):CR prog 72 #[.string s,.string t] w (.int .i64 (Lib.compareBytes s.data.toList t.data.toList)):=
 (strings_Compare s t w).mono fun e w' ⟨he,hw⟩=>⟨he,by rw [hw];exact aV.refl _ _⟩
theorem Df{d acc:Nat}(hd:d<10) (ha:acc<100000000000000000):Lib.parseUint10 acc [UInt8.ofNat (48+d)]=.ok (acc*10+d):=by
 have h:(UInt8.ofNat (48+d)).toNat=48+d:=by
  rw [UInt8.toNat_ofNat']
  omega
 simp only [Lib.parseUint10,h];rw [if_pos (by omega),if_neg (by omega),if_neg (by omega)]
 congr 1
 omega
theorem Ai(b:UInt8):∀(l:List UInt8) (acc u:Nat),Lib.parseUint10 acc l=.ok u→Lib.parseUint10 acc (l++[b])=Lib.parseUint10 u [b]
 | [],acc,u,h=>by
  simp only [Lib.parseUint10] at h
  injection h with h
  subst h
  rfl
 | c::r,acc,u,h=>by
  have ih:=fun a=>Ai b r a u
  generalize Lib.parseUint10 u [b]=X at ih ⊢
  simp only [List.cons_append,Lib.parseUint10] at h ⊢
  split at h
  ·
   rename_i h1
   rw [if_pos h1]
   split at h
   ·
    cases h
   rename_i h2
   rw [if_neg h2]
   split at h
   ·
    cases h
   rename_i h3
   rw [if_neg h3];exact ih _ h
  cases h
theorem Dg(n:Nat) (hn:n≤99999):Lib.parseUint10 0 (Lib.decDigits n)=.ok n:=by
 by_cases h:n<10
 ·
  rw [Lib.decDigits,dif_pos h];have h1:=Df (acc:=0) h (by omega);rw [Nat.zero_mul,Nat.zero_add] at h1;exact h1
 rw [Lib.decDigits,dif_neg h,Ai _ _ _ _ (Dg (n / 10) (by omega)),Df (by omega) (by omega)]
 congr 1
 omega
termination_by n
decreasing_by omega
theorem G4(n:Nat):∃b r,Lib.decDigits n=b::r∧48≤b.toNat:=by
 by_cases h:n<10
 ·
  refine⟨UInt8.ofNat (48+n),[],by rw [Lib.decDigits,dif_pos h],?_⟩;rw [UInt8.toNat_ofNat']
  omega
 obtain⟨b,r,h1,h2⟩:=G4 (n / 10);exact⟨b,r++[UInt8.ofNat (48+n % 10)],by rw [Lib.decDigits,dif_neg h,h1,List.cons_append],h2⟩
termination_by n
decreasing_by omega
theorem Lg(n:Nat):(Lib.decDigits n).length≤n+1:=by
 by_cases h:n<10
 ·
  rw [Lib.decDigits,dif_pos h,List.length_singleton]
  omega
 have h1:=Lg (n / 10);rw [Lib.decDigits,dif_neg h,List.length_append,List.length_singleton]
 omega
termination_by n
decreasing_by omega
theorem Px{n:Nat}(hn:n≤99999):Lib.atoiAll (Lib.decDigits n)=.ok (n:Int):=by
 obtain⟨b,r,h1,h2⟩:=G4 n;have h3:=Dg n hn;rw [h1] at h3 ⊢;rw [Lib.atoiAll_plain b r (by omega) (by omega)]
 unfold Lib.parseMag
 rw [if_neg (by simp),h3]
 show(if 9223372036854775808≤n then Lib.NumEnd.range else .ok (n:Int))=.ok (n:Int)
 rw [if_neg (by omega)]
theorem G5{n:Nat}(h:n≤99999) (w:World):CR prog 154 #[.string (itoa n)] w (.tuple #[.int .i64 (n:Int),.nilIface]):=by
 have hs:(itoa (n:Int)).data.toList=Lib.decDigits n:=(congrArg (fun x:ByteArray=>x.data.toList) (Ah n)).trans rfl
 refine(strconv_Atoi_ok (itoa n) ?_ n (by rw [hs];exact Px h) w).mono fun e w' ⟨he,hw⟩=>⟨he,?_⟩
 ·
  have h1:=Lg n;rw [Ah]
  show(Lib.decDigits n).toArray.size≤9223372036854775806
  rw [List.size_toArray]
  omega
 rcases hw with rfl | ⟨t,rfl⟩
 ·
  exact aV.refl _ _
 exact De _ _ _
theorem JC{n:Nat}(h:n≤99) (w:World):CR prog 154 #[.string (itoa n)] w (.tuple #[.int .i64 (n:Int),.nilIface]):=G5 (by omega) w
set_option maxHeartbeats 400000
theorem G6 :CR prog 96 #[.int .i64 n] w (.bool (nF n)):=by
 refine enter func96 rfl ntmps96 rfl<|?_;have c0:aV [] w w:=aV.refl _ _;refine ji ?_;refine WC.oA (t:=2) (v:=.bool (nF n)) (fun wx=>w=wx) ?_ ?_
 ·
  refine(dY) (fun g5=>?_) (fun g5=>?_)
  ·
   refine bf ?_;exact(iK) (by unfold nF;simp only [g5];first | rfl | simp) rfl
  refine(dY) (fun g9=>?_) (fun g9=>?_)
  ·
   exact(iK) (by unfold nF;simp only [g5,g9];first | rfl | simp) rfl
  refine(dY) (fun g13=>?_) (fun g13=>?_)
  ·
   exact(iK) (by unfold nF;simp only [g5,g9,g13];first | rfl | simp) rfl
  exact(iK) (by unfold nF;simp only [g5,g9,g13];first | rfl | simp) rfl
 rintro _ rfl;refine(cA) ?_;exact⟨rfl,c0⟩
theorem fD :CR prog 44 #[k.val] w (.bool (az k)):=by
 refine enter func44 rfl ntmps44 rfl<|?_;have c0:aV [] w w:=aV.refl _ _;refine cS ?_;refine WL.go rfl (OX.box rfl rfl rfl fun b1 w1 oY dN=>?_);have s1:=oY.ext;have tI:=oY.ki c0;have c1:=c0.trans s1;refine dW ?_;refine WC.oA (t:=2) (v:=.bool (az k)) (fun wx=>w1=wx) ?_ ?_
 ·
  refine nx ?_;refine WP .r (PV.fa eU rfl)<|(bL) aT dN.range<|(dY) (fun g6=>?_) (fun g6=>?_)
  ·
   exact(iK) (by unfold az;simp only [g6];first | rfl | simp) rfl
  refine WP .r (PV.fa eU rfl)<|(bL) aT dN.range<|(dY) (fun g11=>?_) (fun g11=>?_)
  ·
   exact(iK) (by unfold az;simp only [g6,g11];first | rfl | simp) rfl
  refine WP .r (PV.fa eU rfl)<|(bL) aT dN.range<|?_;exact(iK) (by unfold az;simp only [g6,g11];first | rfl | simp) rfl
 rintro _ rfl;refine(cA) ?_;exact⟨rfl,c1⟩
theorem je :CR prog 19 #[.int .i64 n] w ((du n).val):=by
 refine enter func19 rfl ntmps19 rfl<|?_;have c0:aV [] w w:=aV.refl _ _;refine cS ?_;refine WL.go rfl (OX.alloc Jv rfl fun b2 w1 nz fm=>?_);have s1:=nz.ext;have qM:=nz.ki c0;have c1:=c0.trans s1;refine dW ?_;refine WC.mJ (t:=8) (v:=.bool (decide (n<0) || decide (99<n))) (fun wx=>w1=wx) ?_ ?_
 ·
  refine(dY) (fun g5=>?_) (fun g5=>?_)
  ·
   exact(dt) (by simp only [g5];first | rfl | simp) rfl
  exact(dt) (by simp only [g5];first | rfl | simp) rfl
 rintro _ rfl;refine(aZ) (fun g8=>?_) fun g8=>?_
 ·
  have hk:du n=da:=by unfold du;rw [if_pos (by simp at g8;omega)]
  refine cS ?_;refine WP .r (PV.bW (us:=[.int .i64 0,.string ⟨#[]⟩]) Ed rfl rfl rfl)<|?_;refine WL.go rfl (OX.pG jx fm rfl rfl rfl rfl rfl fun w2 s2 _ fm=>?_);have c2:=c1.own s2 qM;refine(mz) aq fm.range<|?_;rw [hk];exact⟨rfl,c2⟩
 simp at g8
 have hk:du n=⟨30,itoa n⟩:=by unfold du;rw [if_neg (by omega)]
 refine(dj) S3 (lx (n:=n) (by omega) (by omega) w1) ?_;rintro _ w2 ⟨rfl,s2⟩;have c2:=c1.trans s2;have fm:=fm.ext s2;refine WP .r (PV.bW (us:=[.int .i64 30,.string (itoa n)]) Ed rfl rfl rfl)<|?_;refine WL.go rfl (OX.pG jx fm rfl rfl rfl rfl rfl fun w3 s3 _ fm=>?_);have c3:=c2.own s3 qM;refine(mz) aq fm.range<|?_;rw [hk];exact⟨rfl,c3⟩
theorem iI(hr:il A w a r c ab):CR prog 11 #[.slice a r c,.int .i64 n] w ((aN ab n).val):=by
 have hle:=hr.le;have hlen:=hr.len;refine enter func11 rfl ntmps11 rfl<|?_;have c0:aV [] w w:=aV.refl _ _;refine cS ?_;refine WL.go rfl (OX.alloc Jv rfl fun b4 w1 jK bG=>?_);have s1:=jK.ext;have iw:=jK.ki c0;have c1:=c0.trans s1;refine dW ?_;refine WC.mJ (t:=17) (v:=.bool (decide (n<0) || (decide ((r:Int)≤n) || decide (99<n)))) (fun wx=>w1=wx) ?_ ?_
 ·
  refine(dY) (fun g8=>?_) (fun g8=>?_)
  ·
   exact(dt) (by simp only [g8];first | rfl | simp) rfl
  refine cS ?_;refine WP .r (PV.jM lq rfl)<|(dY) (fun g14=>?_) (fun g14=>?_)
  ·
   exact(dt) (by simp only [g8,g14];first | rfl | simp) rfl
  exact(dt) (by simp only [g8,g14];first | rfl | simp) rfl
 rintro _ rfl;refine(aZ) (fun g17=>?_) fun g17=>?_
 ·
  have hk:aN ab n=da:=by unfold aN;rw [if_pos (by simp at g17;omega)]
  refine cS ?_;refine WP .r (PV.bW (us:=[.int .i64 0,.string ⟨#[]⟩]) Ed rfl rfl rfl)<|?_;refine WL.go rfl (OX.pG jx bG rfl rfl rfl rfl rfl fun w2 s2 _ bG=>?_);have c2:=c1.own s2 iw;refine(mz) aq bG.range<|?_;rw [hk];exact⟨rfl,c2⟩
 simp at g17
 obtain⟨i,rfl⟩:∃i:Nat,n=i:=⟨n.toNat,by omega⟩
 have hi:i<ab.length:=by omega
 have hk:aN ab i=⟨if aD ab i then 32 else 31,itoa i⟩:=by unfold aN;rw [if_neg (by omega)];rfl
 have lD:=cQ hi;refine(dj) S3 (lx (n:=(i:Int)) (by omega) (by omega) w1) ?_;rintro _ w2 ⟨rfl,s2⟩;have c2:=c1.trans s2;have bG:=bG.ext s2;refine WP .r (PV.bW (us:=[.int .i64 31,.string (itoa i)]) Ed rfl rfl rfl)<|?_;refine WL.go rfl (OX.alloc Jv rfl fun b5 w3 nq gy=>?_);have s3:=nq.ext;have tJ:=nq.ki c2;have mY:b4≠b5:=nq.ne bG.lt;have tK:b5≠b4:=Ne.symm mY;have c3:=c2.trans s3;have bG:=bG.ext s3;refine WL.go rfl (OX.pG jx gy rfl rfl rfl rfl rfl fun w4 s4 _ gy=>?_);have c4:=c3.own s4 tJ;have bG:=bG.cT s4 (by simp [mY]);refine dW ?_;obtain⟨b1,o1,r1,oa,_,⟨q1,q2,q3,rfl,_⟩,js,_⟩:=(hr.ext c4).at (ao hi);refine dE ?_;refine WP .r (PV.fI lq oa rfl rfl (by omega))<|WP .r (PV.fa mX rfl)<|(bL) ft js<|(aZ) (fun kz=>?_) fun kz=>?_
 ·
  have nj:aN ab i=⟨32,itoa i⟩:=by rw [hk,lD,kz];rfl
  refine nx ?_;refine WP .r (PV.fa eU rfl)<|?_;refine WL.go rfl (OX.st Q0 gy rfl rfl (by first | (simp [nth];done) | exact nns rfl) rfl rfl fun w5 s5 _ gy=>?_);have c5:=c4.own s5 tJ;have bG:=bG.cT s5 (by simp [mY]);refine(bz) aq gy.range<|?_;refine WL.go rfl (OX.pG jx bG rfl rfl rfl rfl rfl fun w6 s6 _ bG=>?_);have c6:=c5.own s6 iw;have gy:=gy.cT s6 (by simp [tK]);refine(mz) aq bG.range<|?_;rw [nj];exact⟨rfl,c6⟩
 have nj:aN ab i=⟨31,itoa i⟩:=by rw [hk,lD,kz];rfl
 refine(bz) aq gy.range<|?_;refine WL.go rfl (OX.pG jx bG rfl rfl rfl rfl rfl fun w5 s5 _ bG=>?_);have c5:=c4.own s5 iw;have gy:=gy.cT s5 (by simp [tK]);refine(mz) aq bG.range<|?_;rw [nj];exact⟨rfl,c5⟩
theorem wg{l:List Key}(hl:Dx A w a r c l):CR prog 15 #[.slice a r c,k.val] w (.bool (decide (k∈l))):=by
 have hle:=hl.le;have hlen:=hl.len;refine enter func15 rfl ntmps15 rfl<|?_;have c0:aV [] w w:=aV.refl _ _;refine cS ?_;refine WL.go rfl (OX.box rfl rfl rfl fun b3 w1 iR dL=>?_);have s1:=iR.ext;have qN:=iR.ki c0;have c1:=c0.trans s1;refine gN ?_;refine WP .r (PV.jM fP rfl)<|dW ?_;refine WC.loop (σ:=Nat × World) (eJ:=fun s=>[(3,.pointer (some ⟨b3,0,none⟩)),(7,.slice a r c),(8,.int .i64 (r:Int)),(9,.int .i64 (s.1:Int))]) (I:=fun s w'=>aV [] w w'∧cW w' b3 39 [.int .i64 k.kind,.string k.text]∧s.1≤r∧k∉l.take s.1) (μ:=fun s=>r - s.1) (0,w) Sub.t ⟨c1,dL,by omega,by simp⟩ ?_;rintro⟨i,_⟩ w2 ⟨c2,dL,hi,gV⟩;refine(aZ) (fun g10=>?_) fun g10=>?_
 ·
  simp at g10
  have cV:i<l.length:=by omega
  refine ek ?_;obtain⟨b1,o1,r1,oa,_,rfl,js,_⟩:=(hl.ext c2).at (ao cV);refine nx ?_;refine WP .r (PV.fI fP oa rfl rfl (by omega))<|(bz) aq js<|?_;refine WL.go rfl (OX.alloc Jv rfl fun b6 w3 mD eE=>?_);have s3:=mD.ext;have gC:=mD.ki c2;have gp:b3≠b6:=mD.ne dL.lt;have tL:b6≠b3:=Ne.symm gp;have c3:=c2.trans s3;have dL:=dL.ext s3;refine WL.go rfl (OX.pG jx eE rfl rfl rfl rfl rfl fun w4 s4 _ eE=>?_);have c4:=c3.own s4 gC;have dL:=dL.cT s4 (by simp [gp]);refine(bz) aq eE.range<|(bz) aq dL.range<|?_;refine WP .r (PV.Kp gS (p:=l[i]) (q:=k) rfl rfl)<|(aZ) (fun g15=>?_) fun g15=>?_
  ·
   simp at g15
   refine(cA) ?_;exact⟨by rw [decide_eq_true (g15 ▸ List.getElem_mem cV)],c4⟩
  simp at g15
  refine gN ?_;refine EX.again (i+1,w) (Sub.k2 rfl rfl<|Sub.cons rfl<|Sub.kO rfl (by simp)<|Sub.nil) ⟨c4,dL,by omega,by have h:=List.take_succ_eq_append_getElem cV;simp only [h,List.mem_append,List.mem_singleton,not_or];exact⟨gV,fun e=>g15 e.symm⟩⟩ (by simp;omega)
 simp at g10
 have cZ:k∉l:=by rw [← List.take_of_length_le (show l.length≤i by omega)];exact gV
 refine(cA) ?_;exact⟨by rw [decide_eq_false cZ],c2⟩
theorem sB{s:ByteArray} :CR prog 105 #[.string s] w (.int .i64 (ff s)):=by
 have he:=Cv s;have hz:=yU s;refine enter func105 rfl ntmps105 rfl<|?_;have c0:aV [] w w:=aV.refl _ _;refine gN ?_;refine WC.mJ (t:=20) (v:=.bool (o6 s)) (fun wx=>w=wx) ?_ ?_
 ·
  refine(dY) (fun g7=>?_) (fun g7=>?_)
  ·
   refine bf ?_;exact(dt) (by unfold o6;first | (simp only [g7,Py];done) | (simp only [g7,Py];rfl) | (simp only [g7];rfl)) rfl
  skip
  refine nx ?_;refine WP .r (PV.yG vY rfl)<|(dY) (fun g12=>?_) (fun g12=>?_)
  ·
   exact(dt) (by unfold o6;first | (simp only [g7,g12,Py];done) | (simp only [g7,g12,Py];rfl) | (simp only [g7,g12];rfl)) rfl
  have h7:=of_decide_eq_false g7;rw [he] at h7;obtain⟨b0,Mo,Py⟩:=Ge s (by omega);refine nx ?_;refine WP .r (PV.Ro vY (i:=0) rfl rfl Mo)<|(dY) (fun g16=>?_) (fun g16=>?_)
  ·
   exact(dt) (by unfold o6;first | (simp only [g7,g12,g16,Py];done) | (simp only [g7,g12,g16,Py];rfl) | (simp only [g7,g12,g16];rfl)) rfl
  exact(dt) (by unfold o6;first | (simp only [g7,g12,g16,Py];done) | (simp only [g7,g12,g16,Py];rfl) | (simp only [g7,g12,g16];rfl)) rfl
 rintro _ rfl;refine(aZ) (fun g20=>?_) fun g20=>?_
 ·
  have hd:ff s = -1:=by rw [wR];rw [if_pos g20]
  refine(cA) ?_;rw [hd];exact⟨rfl,c0⟩
 have hd:ff s=decFrom s.data.toList 0:=by rw [wR,g20];rfl
 have hs9:=LJ g20;refine bf ?_;refine cS ?_;refine WC.loop (σ:=Nat × Nat) (eJ:=fun p=>[(0,.string s),(3,.int .i64 (p.2:Int)),(4,.int .i64 (p.1:Int))]) (I:=fun p w'=>aV [] w w'∧p.1≤s.size∧p.2<10 ^ p.1∧decFrom s.data.toList 0=decFrom (s.data.toList.drop p.1) p.2) (μ:=fun p=>s.size - p.1) (0,0) Sub.t ⟨c0,by simp,by simp,by simp⟩ ?_;rintro⟨i,n⟩ w1 ⟨c1,hi,hn,Us⟩;simp only at hi hn Us;have hn9:n<10 ^ 9:=Nat.lt_of_lt_of_le hn (Nat.pow_le_pow_right (by omega) (by omega));refine ek ?_;refine WP .r (PV.yG vY rfl)<|(aZ) (fun g24=>?_) fun g24=>?_
 ·
  simp at g24
  obtain⟨b0,Mo,Dh⟩:=DD s (n:=(n:Int)) g24;refine ji ?_;refine WC.mJ (t:=36) (v:=.bool (decide ((b0.toNat:Int)<48) || decide (57<(b0.toNat:Int)))) (fun wx=>w1=wx) ?_ ?_
  ·
   refine dE ?_;refine WP .r (PV.Ro vY (i:=i) rfl rfl Mo)<|(dY) (fun rW=>?_) (fun rW=>?_)
   ·
    exact(dt) (by simp only [rW];first | rfl | simp) rfl
   refine cS ?_;refine WP .r (PV.Ro vY (i:=i) rfl rfl Mo)<|?_;exact(dt) (by simp only [rW];first | rfl | simp) rfl
  rintro _ rfl;refine(aZ) (fun gT=>?_) fun gT=>?_
  ·
   have QN:ff s = -1:=by rw [hd,Us,Dh,if_pos (by simp at gT;omega)]
   refine(cA) ?_;rw [QN];exact⟨rfl,c1⟩
  simp at gT
  rw [if_neg (by omega)] at Dh;have aqQ:10 ^ (i+1)=10*10 ^ i:=Nat.pow_succ';refine dW ?_;refine WP .r (PV.mul rfl rfl (by omega) (by omega))<|cS ?_;refine WP .r (PV.Ro vY (i:=i) rfl rfl Mo)<|WP .r (PV.aa4 rfl rfl (by omega) (by omega))<|WP .r (PV.conv ⟨_,aiy⟩ aiw rfl (by omega) (by omega))<|nT ?_;refine EX.again (i+1,10*n+(b0.toNat - 48)) (Sub.cons rfl<|Sub.kO rfl (by simp;omega)<|Sub.kO rfl (by simp)<|Sub.nil) ⟨c1,by simp;omega,by simp only;omega,by simp only;rw [Us,Dh];congr 1;omega⟩ (by simp only;omega)
 simp at g24
 have QN:ff s=n:=by rw [hd,Us,List.drop_eq_nil_of_le (by rw [Array.length_toList];exact g24)];rfl
 refine(cA) ?_;rw [QN];exact⟨rfl,c1⟩
theorem mq :CR prog 70 #[k.val] w (.int .i64 (number k)):=by
 refine enter func70 rfl ntmps70 rfl<|?_;have c0:aV [] w w:=aV.refl _ _;refine cS ?_;refine WL.go rfl (OX.box rfl rfl rfl fun b1 w1 oY dN=>?_);have s1:=oY.ext;have tI:=oY.ki c0;have c1:=c0.trans s1;refine ji ?_;refine WP .r (PV.fa tC rfl)<|(bL) iG dN.range<|(dj) UL (sB (s:=k.text)) ?_;rintro _ w2 ⟨rfl,s2⟩;have c2:=c1.trans s2;have dN:=dN.ext s2;refine dW ?_;refine WC.mJ (t:=18) (v:=.bool (decide (30≤k.kind) && (decide (k.kind≤32) && decide (ff k.text≤99)))) (fun wx=>w2=wx) ?_ ?_
 ·
  refine nx ?_;refine WP .r (PV.fa eU rfl)<|(bL) aT dN.range<|(dY) (fun g10=>?_) (fun g10=>?_)
  ·
   refine WP .r (PV.fa eU rfl)<|(bL) aT dN.range<|(dY) (fun g15=>?_) (fun g15=>?_)
   ·
    exact(dt) (by simp only [g10,g15];first | rfl | simp) rfl
   exact(dt) (by simp only [g10,g15];first | rfl | simp) rfl
  exact(dt) (by simp only [g10];first | rfl | simp) rfl
 rintro _ rfl;refine(aZ) (fun g18=>?_) fun g18=>?_
 ·
  simp at g18
  have hn:number k=ff k.text:=by unfold number;rw [if_pos g18]
  refine(cA) ?_;rw [hn];exact⟨rfl,c2⟩
 simp at g18
 have hn:number k = -1:=by unfold number;rw [if_neg (by intro h;have:=g18 h.1 h.2.1;omega)]
 refine(cA) ?_;rw [hn];exact⟨rfl,c2⟩
theorem kA :CR prog 43 #[k.val] w (.bool (gO k)):=by
 refine enter func43 rfl ntmps43 rfl<|?_;have c0:aV [] w w:=aV.refl _ _;refine cS ?_;refine WL.go rfl (OX.box rfl rfl rfl fun b1 w1 oY dN=>?_);have s1:=oY.ext;have tI:=oY.ki c0;have c1:=c0.trans s1;refine ek ?_;refine WC.mJ (t:=10) (v:=.bool (decide (30≤k.kind) && decide (k.kind≤32))) (fun wx=>w1=wx) ?_ ?_
 ·
  refine nx ?_;refine WP .r (PV.fa eU rfl)<|(bL) aT dN.range<|(dY) (fun g6=>?_) (fun g6=>?_)
  ·
   refine WP .r (PV.fa eU rfl)<|(bL) aT dN.range<|?_;exact(dt) (by simp only [g6];first | rfl | simp) rfl
  exact(dt) (by simp only [g6];first | rfl | simp) rfl
 rintro _ rfl;refine(aZ) (fun g10=>?_) fun g10=>?_
 ·
  simp at g10
  refine(bz) aq dN.range<|(dj) S6 (mq (k:=k)) ?_;rintro _ w2 ⟨rfl,s2⟩;have c2:=c1.trans s2;have dN:=dN.ext s2;refine(cA) ?_;exact⟨by unfold gO;rw [if_pos (by omega)],c2⟩
 simp at g10
 have hv:=Gf k (by omega);refine dE ?_;refine WC.oA (t:=2) (v:=.bool (gO k)) (fun wx=>w1=wx) ?_ ?_
 ·
  refine nx ?_;refine WP .r (PV.fa eU rfl)<|(bL) aT dN.range<|(dY) (fun g17=>?_) (fun g17=>?_)
  ·
   refine WP .r (PV.fa eU rfl)<|(bL) aT dN.range<|(dY) (fun g22=>?_) (fun g22=>?_)
   ·
    refine WP .r (PV.fa tC rfl)<|(bL) iG dN.range<|?_;refine WP .r (PV.yG vY rfl)<|(dY) (fun iP=>?_) (fun iP=>?_)
    ·
     refine WP .r (PV.fa tC rfl)<|(bL) iG dN.range<|(dY) (fun rI=>?_) (fun rI=>?_)
     ·
      exact(iK) (by rw [hv];simp only [g17,g22,iP,rI];first | rfl | simp) rfl
     refine WP .r (PV.fa eU rfl)<|(bL) aT dN.range<|(dY) (fun gT=>?_) (fun gT=>?_)
     ·
      refine WP .r (PV.fa eU rfl)<|(bL) aT dN.range<|?_;exact(iK) (by rw [hv];simp only [g17,g22,iP,rI,gT];first | rfl | simp) rfl
     exact(iK) (by rw [hv];simp only [g17,g22,iP,rI,gT];first | rfl | simp) rfl
    refine bf ?_;exact(iK) (by rw [hv];simp only [g17,g22,iP];first | rfl | simp) rfl
   refine bf ?_;exact(iK) (by rw [hv];simp only [g17,g22];first | rfl | simp) rfl
  refine bf ?_;refine bf ?_;exact(iK) (by rw [hv];simp only [g17];first | rfl | simp) rfl
 rintro _ rfl;refine(cA) ?_;exact⟨rfl,c1⟩
theorem ef :CR prog 64 #[k.val] w (.bool (aA k)):=by
 refine enter func64 rfl ntmps64 rfl<|?_;have c0:aV [] w w:=aV.refl _ _;refine cS ?_;refine WL.go rfl (OX.box rfl rfl rfl fun b1 w1 oY dN=>?_);have s1:=oY.ext;have tI:=oY.ki c0;have c1:=c0.trans s1;refine dW ?_;refine WC.oA (t:=2) (v:=.bool (aA k)) (aV [] w1) ?_<|?_
 ·
  refine nx ?_;refine WP .r (PV.fa eU rfl)<|(bL) aT dN.range<|(dY) (fun g6=>?_) (fun g6=>?_)
  ·
   refine bf ?_;exact(iK) (by unfold aA;simp only [g6];first | rfl | simp) (aV.refl _ _)
  refine WP .r (PV.fa eU rfl)<|(bL) aT dN.range<|(dY) (fun g10=>?_) (fun g10=>?_)
  ·
   refine WP .r (PV.fa eU rfl)<|(bL) aT dN.range<|(dY) (fun g15=>?_) (fun g15=>?_)
   ·
    refine WP .r (PV.fa eU rfl)<|(bL) aT dN.range<|(dj) ajk (G6 (n:=k.kind)) ?_;rintro _ w2 ⟨rfl,s2⟩;have c2:=c1.trans s2;have dN:=dN.ext s2;exact(iK) (by unfold aA;simp only [g6,g10,g15];first | rfl | simp) s2
   exact(iK) (by unfold aA;simp only [g6,g10,g15];first | rfl | simp) (aV.refl _ _)
  exact(iK) (by unfold aA;simp only [g6,g10];first | rfl | simp) (aV.refl _ _)
 intro w2 s2;have c2:=c1.trans s2;have dN:=dN.ext s2;refine(cA) ?_;exact⟨rfl,c2⟩
theorem mE{q:Key} :CR prog 46 #[k.val,q.val] w (.int .i64 (cw k q)):=by
 refine enter func46 rfl ntmps46 rfl<|?_;have c0:aV [] w w:=aV.refl _ _;refine cS ?_;refine WL.go rfl (OX.box rfl rfl rfl fun b2 w1 nz fm=>?_);have s1:=nz.ext;have qM:=nz.ki c0;have c1:=c0.trans s1;refine WL.go rfl (OX.box rfl rfl rfl fun b3 w2 iR dL=>?_);have s2:=iR.ext;have qN:=iR.ki c1;have iy:b2≠b3:=iR.ne fm.lt;have px:b3≠b2:=Ne.symm iy;have c2:=c1.trans s2;have fm:=fm.ext s2;refine gN ?_;refine WP .r (PV.fa eU rfl)<|(bL) aT fm.range<|?_;refine WP .r (PV.fa eU rfl)<|(bL) aT dL.range<|(aZ) (fun g5=>?_) fun g5=>?_
 ·
  simp at g5
  refine(cA) ?_;exact⟨by unfold cw;rw [if_pos g5],c2⟩
 simp at g5
 refine cS ?_;refine WP .r (PV.fa eU rfl)<|(bL) aT fm.range<|?_;refine WP .r (PV.fa eU rfl)<|(bL) aT dL.range<|(aZ) (fun g11=>?_) fun g11=>?_
 ·
  simp at g11
  refine(cA) ?_;exact⟨by unfold cw;rw [if_neg (by omega),if_pos g11],c2⟩
 simp at g11
 refine ek ?_;refine WP .r (PV.fa tC rfl)<|(bL) iG fm.range<|?_;refine WP .r (PV.fa tC rfl)<|(bL) iG dL.range<|(dj) acN (sA k.text q.text w2) ?_;rintro _ w3 ⟨rfl,s3⟩;have c3:=c2.trans s3;have fm:=fm.ext s3;have dL:=dL.ext s3;refine(cA) ?_;exact⟨by unfold cw;rw [if_neg (by omega),if_neg (by omega)],c3⟩
end Go.Rc

