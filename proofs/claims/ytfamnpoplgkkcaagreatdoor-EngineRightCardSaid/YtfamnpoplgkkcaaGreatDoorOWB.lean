/- Walks over the program, part WB. Conditions: as each theorem says. -/
import Derived.Test.YtfamnpoplgkkcaaGreatDoorOFacts
import Derived.Test.YtfamnpoplgkkcaaGreatDoorOBb
import Derived.Test.YtfamnpoplgkkcaaGreatDoorOBe
import Derived.Test.YtfamnpoplgkkcaaGreatDoorShelf
import Derived.Lib.UnsafeStr
set_option linter.all false
namespace Go.Rc
open Go Go.Proofs Go.Proofs.Tryz
variable {n:Int}{w:World}{aa:List aG}{A:Nat→Prop}{a:Option Addr}{r c:Nat}{k:Key}
set_option maxHeartbeats 400000
theorem HL{m:Int}(b:m≤4611686018427387904):CR prog 54 #[.int .i64 n,.int .i64 m] w (.int .i64 (if m<1 then 0 else n % m)):=by
 refine enter func54 rfl ntmps54 rfl<|?_;have c0:aS [] w w:=aS.refl _ _;refine(aR) (fun g6=>?_) fun g6=>?_
 ·
  simp at g6
  refine(bs) ?_;exact⟨by rw [if_pos (by omega)],c0⟩
 simp at g6
 have k1:=Int.tmod_lt_of_pos n (show 0<m by omega);have k2:=Int.lt_tmod_of_pos n (show 0<m by omega);refine fO ?_;refine WP .r (PV.rem rfl rfl (by omega))<|bY ?_;refine WP .r (PV.rem rfl rfl (by omega))<|(bs) ?_;refine⟨?_,c0⟩;rw [if_neg (by omega)]
 congr 2
 rw [Int.tmod_eq_emod_of_nonneg (by omega),Int.add_emod_right,G2]
theorem sO(hr:fK A w a r c aa):CR prog 53 #[.slice a r c,.int .i64 n] w (.tuple #[.int .i64 (block aa n).1,.int .i64 (block aa n).2]):=by
 have hle:=hr.le;have hlen:=hr.len;refine enter func53 rfl ntmps53 rfl<|?_;have c0:aS [] w w:=aS.refl _ _;refine gL ?_;refine WC.ka (t:=15) (v:=.bool (decide (n<0) || decide ((r:Int)≤n))) (fun f=>w=f) ?_ ?_
 ·
  refine(dc) (fun g10=>?_) (fun g10=>?_)
  ·
   exact(cw) (by simp only [g10];first | done | rfl | simp) rfl
  refine bK ?_;refine WP .r (PV.hV jh rfl)<|?_;exact(cw) (by simp only [g10];first | done | rfl | simp) rfl
 rintro _ rfl;refine(aR) (fun g15=>?_) fun g15=>?_
 ·
  have hb:=xp aa n (by simp at g15;omega);refine(yE) ?_;exact⟨by rw [hb],c0⟩
 obtain⟨b,rfl⟩:∃i:Nat,n=i:=⟨n.toNat,by simp at g15;omega⟩
 have e:b<aa.length:=by simp at g15;omega
 have B:block aa b=if aF aa b then ((bD aa b:Int),(dJ aa (b+1):Int)) else ((b:Int),(b:Int)+1):=by
  unfold block;rw [if_neg (by omega)];rfl
 refine aX ?_;refine nx ?_;refine WC.loop (σ:=Nat) (dj:=fun k=>[(0,.slice a r c),(1,.int .i64 (b:Int)),(6,.int .i64 (k:Int)),(7,.int .i64 ((b:Int)+1))]) (I:=fun k w'=>aS [] w w'∧k≤b∧bD aa k=bD aa b∧(aF aa b=false→k=b)) (μ:=fun k=>k) b Sub.t ⟨c0,Nat.le_refl _,rfl,fun _=>rfl⟩ ?_;rintro k w1 ⟨c1,hk,C,E⟩;refine bK ?_;obtain⟨b1,F,r1,q,_,⟨q1,G,H,rfl,_⟩,d,_⟩:=(hr.ext c1).at (ak e);refine WC.ka (t:=35) (v:=.bool (aa[b].ring && (decide ((0:Int)<k) && aF aa (k - 1)))) (fun f=>w1=f) ?_ ?_
 ·
  refine bY ?_;refine WP .r (PV.dI jh q rfl rfl (by omega))<|WP .r (PV.fa ko rfl)<|(aZ) dG d<|(dc) (fun g24=>?_) (fun g24=>?_)
  ·
   refine(dc) (fun s=>?_) (fun s=>?_)
   ·
    obtain⟨b2,J,r2,u,_,⟨K,L,M,rfl,_⟩,x,_⟩:=(hr.ext c1).at (ak (show k - 1<aa.length by omega))
    simp at s
    have o:aa[k-1].ring=aF aa (k-1):=(bW (by omega)).symm;refine bY ?_;refine WP .r (PV.DJ jh (k - 1) u rfl rfl (by omega) (by omega))<|WP .r (PV.fa ko rfl)<|(aZ) dG x<|?_;exact(cw) (by simp [*]) rfl
   simp at s
   have N:¬(0<k):=by omega
   exact(cw) (by simp [*]) rfl
  exact(cw) (by simp [*]) rfl
 rintro _ rfl;refine(aR) (fun g=>?_) fun g=>?_
 ·
  simp at g
  obtain⟨g1,g2,g3⟩:=g;obtain⟨j,rfl⟩:∃j,k=j+1:=⟨k - 1,by omega⟩;refine kI ?_;refine EX.again j (Sub.k2 rfl rfl<|Sub.iW rfl (by omega)<|Sub.cons rfl<|Sub.nil) ⟨c1,by omega,by rw [← C,pP (by simpa using g3)],fun h=>absurd (bW e) (by simp [h,g1])⟩ (by omega)
 simp at g
 have O:(block aa b).1=k:=by
  rw [B]
  by_cases d:aF aa b=true
  ·
   rw [if_pos d]
   show(bD aa b:Int)=k
   rw [← C,sq]
   by_cases h0:k=0
   ·
    exact .inl h0
   exact .inr (g (by rw [← bW e];exact d) (by omega))
  rw [if_neg d,E (by simpa using d)]
 refine ed ?_;refine WC.loop (σ:=Nat) (dj:=fun m=>[(0,.slice a r c),(1,.int .i64 (b:Int)),(6,.int .i64 (k:Int)),(7,.int .i64 (m:Int))]) (I:=fun m w'=>aS [] w w'∧b+1≤m∧m≤r∧dJ aa m=dJ aa (b+1)∧(aF aa b=false→m=b+1)) (μ:=fun m=>r - m) (b+1) Sub.t ⟨c1,Nat.le_refl _,by omega,rfl,fun _=>rfl⟩ ?_;rintro m w2 ⟨c2,R,S,D,P⟩;refine bK ?_;obtain⟨b1,F,r1,q,_,⟨q1,G,H,rfl,_⟩,d,_⟩:=(hr.ext c2).at (ak e);refine WC.ka (t:=55) (v:=.bool (aa[b].ring && (decide ((m:Int)<r) && aF aa m))) (fun f=>w2=f) ?_ ?_
 ·
  refine bY ?_;refine WP .r (PV.dI jh q rfl rfl (by omega))<|WP .r (PV.fa ko rfl)<|(aZ) dG d<|(dc) (fun p=>?_) (fun p=>?_)
  ·
   refine bK ?_;refine WP .r (PV.hV jh rfl)<|(dc) (fun y=>?_) (fun y=>?_)
   ·
    simp at y
    obtain⟨b2,J,r2,u,_,⟨K,L,M,rfl,_⟩,x,_⟩:=(hr.ext c2).at (ak (show m<aa.length by omega));have o:aa[m].ring=aF aa m:=(bW (by omega)).symm
    have z:decide ((m:Int)<r)=true:=by simp;omega
    refine bK ?_;refine WP .r (PV.dI jh u rfl rfl (by omega))<|WP .r (PV.fa ko rfl)<|(aZ) dG x<|?_;exact(cw) (by first | (rw [o,p,z];rfl) | simp [*]) rfl
   simp at y
   have N:¬(m<aa.length):=by omega
   exact(cw) (by first | (rw [o,p,z];rfl) | simp [*]) rfl
  refine aX ?_;exact(cw) (by first | (rw [o,p,z];rfl) | simp [*]) rfl
 rintro _ rfl;refine(aR) (fun l=>?_) fun l=>?_
 ·
  simp at l
  obtain⟨g1,g2,g3⟩:=l;refine kI ?_;refine EX.again (m+1) (Sub.k2 rfl rfl<|Sub.cons rfl<|Sub.iW rfl (by omega)<|Sub.nil) ⟨c2,by omega,by omega,by rw [← D,← sn g3],fun h=>absurd (bW e) (by simp [h,g1])⟩ (by omega)
 simp at l
 have Q:(block aa b).2=m:=by
  rw [B]
  by_cases d:aF aa b=true
  ·
   rw [if_pos d]
   show(dJ aa (b+1):Int)=m
   rw [← D,uc]
   rcases Nat.lt_or_ge m r with h0 | h0
   ·
    exact l (by rw [← bW e];exact d) (by omega)
   exact lN (by omega)
  rw [if_neg d,P (by simpa using d)];rfl
 refine aX ?_;refine(yE) ?_;exact⟨by rw [O,Q],c2⟩
theorem Kq(w:World) (k:Nat) (os:Array Obj):aS [] w (Sort.grow (w.drewN k) os):=⟨rfl,rfl,rfl,by simp [Sort.grow],Nat.le_add_right _ _,fun i hi _=>Sort.heap_grow_old (w.drewN k) os (k:=i) hi⟩
theorem x8(w:World) (e:TypeId) (s:ByteArray):aS [] w (Lib.bytesWorld w e s):=aS.Bo (Lib.bytesWorld_below _ _ _) (by
 unfold Lib.bytesWorld
 rw [pX];exact Nat.le_succ _)
theorem vd(i:Nat):itoa (i:Int)=⟨(Lib.decDigits i).toArray⟩:=by
 unfold itoa Lib.itoa
 rw [if_neg (by omega),Int.toNat_natCast]
theorem ji(h0:0≤n) (h1:n≤99) (w:World):CR prog 50 #[.int .i64 n] w (.string (itoa n)):=by
 obtain⟨i,rfl⟩:∃i:Nat,n=i:=⟨n.toNat,by omega⟩
 exact(strconv_Itoa_small i (by omega) w).mono fun e w' ⟨he,hw⟩=>⟨by rw [he,vd],by rw [hw];exact aS.refl _ _⟩
theorem l7(ht:lq prog A w) (h0:-9223372036854775808≤n) (h1:n≤9223372036854775807):CR prog 50 #[.int .i64 n] w (.string (itoa n)):=
 (strconv_Itoa n h0 h1 w (by obtain⟨⟨b,_,_,h⟩,_⟩:=ht;exact h w rfl)).mono fun e w' ⟨he,k,os,hw⟩=>⟨he,by rw [hw];exact Kq _ _ _⟩
theorem oE(s t:ByteArray) (w:World):CR prog 82 #[.string s,.string t] w (.int .i64 (Lib.compareBytes s.data.toList t.data.toList)):=
 (strings_Compare s t w).mono fun e w' ⟨he,hw⟩=>⟨he,by rw [hw];exact aS.refl _ _⟩
theorem x9{d acc:Nat}(b:d<10) (e:acc<100000000000000000):Lib.parseUint10 acc [UInt8.ofNat (48+d)]=.ok (acc*10+d):=by
 have h:(UInt8.ofNat (48+d)).toNat=48+d:=by
  rw [UInt8.toNat_ofNat']
  omega
 simp only [Lib.parseUint10,h];rw [if_pos (by omega),if_neg (by omega),if_neg (by omega)]
 congr 1
 omega
theorem ve(b:UInt8):∀(l:List UInt8) (acc u:Nat),Lib.parseUint10 acc l=.ok u→Lib.parseUint10 acc (l++[b])=Lib.parseUint10 u [b]
 | [],acc,u,h=>by
  simp only [Lib.parseUint10] at h
  injection h with h
  subst h
  rfl
 | c::r,acc,u,h=>by
  have d:=fun a=>ve b r a u
  generalize Lib.parseUint10 u [b]=X at d ⊢
  simp only [List.cons_append,Lib.parseUint10] at h ⊢
  split at h
  ·
   rename_i h1
   rw [if_pos h1]
   split at h
   ·
    cases h
   rename_i e
   rw [if_neg e]
   split at h
   ·
    cases h
   rename_i f
   rw [if_neg f];exact d _ h
  cases h
theorem ya(n:Nat) (hn:n≤99999):Lib.parseUint10 0 (Lib.decDigits n)=.ok n:=by
 by_cases h:n<10
 ·
  rw [Lib.decDigits,dif_pos h];have h1:=x9 (acc:=0) h (by omega);rw [Nat.zero_mul,Nat.zero_add] at h1;exact h1
 rw [Lib.decDigits,dif_neg h,ve _ _ _ _ (ya (n / 10) (by omega)),x9 (by omega) (by omega)]
 congr 1
 omega
termination_by n
decreasing_by omega
theorem B9(n:Nat):∃b r,Lib.decDigits n=b::r∧48≤b.toNat:=by
 by_cases h:n<10
 ·
  refine⟨UInt8.ofNat (48+n),[],by rw [Lib.decDigits,dif_pos h],?_⟩;rw [UInt8.toNat_ofNat']
  omega
 obtain⟨b,r,h1,d⟩:=B9 (n / 10);exact⟨b,r++[UInt8.ofNat (48+n % 10)],by rw [Lib.decDigits,dif_neg h,h1,List.cons_append],d⟩
termination_by n
decreasing_by omega
theorem GH(n:Nat):(Lib.decDigits n).length≤n+1:=by
 by_cases h:n<10
 ·
  rw [Lib.decDigits,dif_pos h,List.length_singleton]
  omega
 have h1:=GH (n / 10);rw [Lib.decDigits,dif_neg h,List.length_append,List.length_singleton]
 omega
termination_by n
decreasing_by omega
theorem Kr{n:Nat}(hn:n≤99999):Lib.atoiAll (Lib.decDigits n)=.ok (n:Int):=by
 obtain⟨b,r,h1,e⟩:=B9 n;have d:=ya n hn;rw [h1] at d ⊢;rw [Lib.atoiAll_plain b r (by omega) (by omega)]
 unfold Lib.parseMag
 rw [if_neg (by simp),d]
 show(if 9223372036854775808≤n then Lib.NumEnd.range else .ok (n:Int))=.ok (n:Int)
 rw [if_neg (by omega)]
theorem Ca{n:Nat}(h:n≤99999) (w:World):CR prog 152 #[.string (itoa n)] w (.tuple #[.int .i64 (n:Int),.nilIface]):=by
 have b:(itoa (n:Int)).data.toList=Lib.decDigits n:=(congrArg (fun x:ByteArray=>x.data.toList) (vd n)).trans rfl
 refine(strconv_Atoi_ok (itoa n) ?_ n (by rw [b];exact Kr h) w).mono fun e w' ⟨he,hw⟩=>⟨he,?_⟩
 ·
  have h1:=GH n;rw [vd]
  show(Lib.decDigits n).toArray.size≤9223372036854775806
  rw [List.size_toArray]
  omega
 rcases hw with rfl | ⟨t,rfl⟩
 ·
  exact aS.refl _ _
 exact x8 _ _ _
theorem EV{n:Nat}(h:n≤99) (w:World):CR prog 152 #[.string (itoa n)] w (.tuple #[.int .i64 (n:Int),.nilIface]):=Ca (by omega) w
set_option maxHeartbeats 400000
theorem Cb :CR prog 56 #[.int .i64 n] w (.bool (kF n)):=by
 refine enter func56 rfl ntmps56 rfl<|?_;have c0:aS [] w w:=aS.refl _ _;refine fO ?_;refine WC.lA (t:=2) (v:=.bool (kF n)) (fun b=>w=b) ?_ ?_
 ·
  refine(dc) (fun g5=>?_) (fun g5=>?_)
  ·
   refine aX ?_;exact(gz) (by unfold kF;simp only [g5];first | rfl | simp) rfl
  refine(dc) (fun g9=>?_) (fun g9=>?_)
  ·
   exact(gz) (by unfold kF;simp only [g5,g9];first | rfl | simp) rfl
  refine(dc) (fun g13=>?_) (fun g13=>?_)
  ·
   exact(gz) (by unfold kF;simp only [g5,g9,g13];first | rfl | simp) rfl
  exact(gz) (by unfold kF;simp only [g5,g9,g13];first | rfl | simp) rfl
 rintro _ rfl;refine(bs) ?_;exact⟨rfl,c0⟩
theorem ep :CR prog 39 #[k.val] w (.bool (ay k)):=by
 refine enter func39 rfl ntmps39 rfl<|?_;have c0:aS [] w w:=aS.refl _ _;refine bK ?_;refine WL.go rfl (OX.box rfl rfl rfl fun b1 w1 d b=>?_);have s1:=d.ext;have f:=d.iF c0;have c1:=c0.trans s1;refine cj ?_;refine WC.lA (t:=2) (v:=.bool (ay k)) (fun e=>w1=e) ?_ ?_
 ·
  refine nx ?_;refine WP .r (PV.fa dD rfl)<|(aZ) aN b.range<|(dc) (fun g6=>?_) (fun g6=>?_)
  ·
   exact(gz) (by unfold ay;simp only [g6];first | rfl | simp) rfl
  refine WP .r (PV.fa dD rfl)<|(aZ) aN b.range<|(dc) (fun g11=>?_) (fun g11=>?_)
  ·
   exact(gz) (by unfold ay;simp only [g6,g11];first | rfl | simp) rfl
  refine WP .r (PV.fa dD rfl)<|(aZ) aN b.range<|?_;exact(gz) (by unfold ay;simp only [g6,g11];first | rfl | simp) rfl
 rintro _ rfl;refine(bs) ?_;exact⟨rfl,c1⟩
theorem jj :CR prog 22 #[.int .i64 n] w ((cD n).val):=by
 refine enter func22 rfl ntmps22 rfl<|?_;have c0:aS [] w w:=aS.refl _ _;refine bK ?_;refine WL.go rfl (OX.alloc EM rfl fun b2 w1 d b=>?_);have s1:=d.ext;have e:=d.iF c0;have c1:=c0.trans s1;refine cj ?_;refine WC.ka (t:=8) (v:=.bool (decide (n<0) || decide (99<n))) (fun f=>w1=f) ?_ ?_
 ·
  refine(dc) (fun g5=>?_) (fun g5=>?_)
  ·
   exact(cw) (by simp only [g5];first | rfl | simp) rfl
  exact(cw) (by simp only [g5];first | rfl | simp) rfl
 rintro _ rfl;refine(aR) (fun g8=>?_) fun g8=>?_
 ·
  have hk:cD n=eU:=by unfold cD;rw [if_pos (by simp at g8;omega)]
  refine bK ?_;refine WP .r (PV.bz (us:=[.int .i64 0,.string ⟨#[]⟩]) B4 rfl rfl rfl)<|?_;refine WL.go rfl (OX.mg gQ b rfl rfl rfl rfl rfl fun w2 s2 _ b=>?_);have c2:=c1.own s2 e;refine(kR) ao b.range<|?_;rw [hk];exact⟨rfl,c2⟩
 simp at g8
 have hk:cD n=⟨30,itoa n⟩:=by unfold cD;rw [if_neg (by omega)]
 refine(bX) NC (ji (n:=n) (by omega) (by omega) w1) ?_;rintro _ w2 ⟨rfl,s2⟩;have c2:=c1.trans s2;have b:=b.ext s2;refine WP .r (PV.bz (us:=[.int .i64 30,.string (itoa n)]) B4 rfl rfl rfl)<|?_;refine WL.go rfl (OX.mg gQ b rfl rfl rfl rfl rfl fun w3 g _ b=>?_);have c3:=c2.own g e;refine(kR) ao b.range<|?_;rw [hk];exact⟨rfl,c3⟩
theorem gR(hr:fK A w a r c aa):CR prog 17 #[.slice a r c,.int .i64 n] w ((aM aa n).val):=by
 have hle:=hr.le;have hlen:=hr.len;refine enter func17 rfl ntmps17 rfl<|?_;have c0:aS [] w w:=aS.refl _ _;refine bK ?_;refine WL.go rfl (OX.alloc EM rfl fun b4 w1 m b=>?_);have s1:=m.ext;have f:=m.iF c0;have c1:=c0.trans s1;refine cj ?_;refine WC.ka (t:=17) (v:=.bool (decide (n<0) || (decide ((r:Int)≤n) || decide (99<n)))) (fun y=>w1=y) ?_ ?_
 ·
  refine(dc) (fun g8=>?_) (fun g8=>?_)
  ·
   exact(cw) (by simp only [g8];first | rfl | simp) rfl
  refine bK ?_;refine WP .r (PV.hV jh rfl)<|(dc) (fun g14=>?_) (fun g14=>?_)
  ·
   exact(cw) (by simp only [g8,g14];first | rfl | simp) rfl
  exact(cw) (by simp only [g8,g14];first | rfl | simp) rfl
 rintro _ rfl;refine(aR) (fun g17=>?_) fun g17=>?_
 ·
  have hk:aM aa n=eU:=by unfold aM;rw [if_pos (by simp at g17;omega)]
  refine bK ?_;refine WP .r (PV.bz (us:=[.int .i64 0,.string ⟨#[]⟩]) B4 rfl rfl rfl)<|?_;refine WL.go rfl (OX.mg gQ b rfl rfl rfl rfl rfl fun w2 s2 _ b=>?_);have c2:=c1.own s2 f;refine(kR) ao b.range<|?_;rw [hk];exact⟨rfl,c2⟩
 simp at g17
 obtain⟨i,rfl⟩:∃i:Nat,n=i:=⟨n.toNat,by omega⟩
 have hi:i<aa.length:=by omega
 have hk:aM aa i=⟨if aF aa i then 32 else 31,itoa i⟩:=by unfold aM;rw [if_neg (by omega)];rfl
 have o:=bW hi;refine(bX) NC (ji (n:=(i:Int)) (by omega) (by omega) w1) ?_;rintro _ w2 ⟨rfl,s2⟩;have c2:=c1.trans s2;have b:=b.ext s2;refine WP .r (PV.bz (us:=[.int .i64 31,.string (itoa i)]) B4 rfl rfl rfl)<|?_;refine WL.go rfl (OX.alloc EM rfl fun b5 w3 g d=>?_);have p:=g.ext;have q:=g.iF c2;have h:b4≠b5:=g.ne b.lt;have s:b5≠b4:=Ne.symm h;have c3:=c2.trans p;have b:=b.ext p;refine WL.go rfl (OX.mg gQ d rfl rfl rfl rfl rfl fun w4 u _ d=>?_);have c4:=c3.own u q;have b:=b.bV u (by simp [h]);refine cj ?_;obtain⟨b1,D,r1,z,_,⟨q1,E,F,rfl,_⟩,B,_⟩:=(hr.ext c4).at (ak hi);refine bY ?_;refine WP .r (PV.dI jh z rfl rfl (by omega))<|WP .r (PV.fa ko rfl)<|(aZ) dG B<|(aR) (fun j=>?_) fun j=>?_
 ·
  have l:aM aa i=⟨32,itoa i⟩:=by rw [hk,o,j];rfl
  refine nx ?_;refine WP .r (PV.fa dD rfl)<|?_;refine WL.go rfl (OX.st GB d rfl rfl (by first | (simp [nth];done) | exact U9 rfl) rfl rfl fun w5 e _ d=>?_);have c5:=c4.own e q;have b:=b.bV e (by simp [h]);refine(aY) ao d.range<|?_;refine WL.go rfl (OX.mg gQ b rfl rfl rfl rfl rfl fun w6 x _ b=>?_);have C:=c5.own x f;have d:=d.bV x (by simp [s]);refine(kR) ao b.range<|?_;rw [l];exact⟨rfl,C⟩
 have l:aM aa i=⟨31,itoa i⟩:=by rw [hk,o,j];rfl
 refine(aY) ao d.range<|?_;refine WL.go rfl (OX.mg gQ b rfl rfl rfl rfl rfl fun w5 e _ b=>?_);have c5:=c4.own e f;have d:=d.bV e (by simp [s]);refine(kR) ao b.range<|?_;rw [l];exact⟨rfl,c5⟩
theorem rT{l:List Key}(hl:yt A w a r c l):CR prog 20 #[.slice a r c,k.val] w (.bool (decide (k∈l))):=by
 have hle:=hl.le;have hlen:=hl.len;refine enter func20 rfl ntmps20 rfl<|?_;have c0:aS [] w w:=aS.refl _ _;refine bK ?_;refine WL.go rfl (OX.box rfl rfl rfl fun b3 w1 j b=>?_);have s1:=j.ext;have D:=j.iF c0;have c1:=c0.trans s1;refine ed ?_;refine WP .r (PV.hV ek rfl)<|cj ?_;refine WC.loop (σ:=Nat × World) (dj:=fun s=>[(3,.pointer (some ⟨b3,0,none⟩)),(7,.slice a r c),(8,.int .i64 (r:Int)),(9,.int .i64 (s.1:Int))]) (I:=fun s w'=>aS [] w w'∧bQ w' b3 41 [.int .i64 k.kind,.string k.text]∧s.1≤r∧k∉l.take s.1) (μ:=fun s=>r - s.1) (0,w) Sub.t ⟨c1,b,by omega,by simp⟩ ?_;rintro⟨i,_⟩ w2 ⟨c2,b,hi,m⟩;refine(aR) (fun g10=>?_) fun g10=>?_
 ·
  simp at g10
  have d:i<l.length:=by omega
  refine db ?_;obtain⟨b1,E,r1,y,_,rfl,z,_⟩:=(hl.ext c2).at (ak d);refine nx ?_;refine WP .r (PV.dI ek y rfl rfl (by omega))<|(aY) ao z<|?_;refine WL.go rfl (OX.alloc EM rfl fun o w3 f g=>?_);have u:=f.ext;have B:=f.iF c2;have v:b3≠o:=f.ne b.lt;have F:o≠b3:=Ne.symm v;have c3:=c2.trans u;have b:=b.ext u;refine WL.go rfl (OX.mg gQ g rfl rfl rfl rfl rfl fun w4 x _ g=>?_);have c4:=c3.own x B;have b:=b.bV x (by simp [v]);refine(aY) ao g.range<|(aY) ao b.range<|?_;refine WP .r (PV.DL fH (p:=l[i]) (q:=k) rfl rfl)<|(aR) (fun g15=>?_) fun g15=>?_
  ·
   simp at g15
   refine(bs) ?_;exact⟨by rw [decide_eq_true (g15 ▸ List.getElem_mem d)],c4⟩
  simp at g15
  refine ed ?_;refine EX.again (i+1,w) (Sub.k2 rfl rfl<|Sub.cons rfl<|Sub.iW rfl (by simp)<|Sub.nil) ⟨c4,b,by omega,by have h:=List.take_succ_eq_append_getElem d;simp only [h,List.mem_append,List.mem_singleton,not_or];exact⟨m,fun e=>g15 e.symm⟩⟩ (by simp;omega)
 simp at g10
 have C:k∉l:=by rw [← List.take_of_length_le (show l.length≤i by omega)];exact m
 refine(bs) ?_;exact⟨by rw [decide_eq_false C],c2⟩
theorem oF{s:ByteArray} :CR prog 130 #[.string s] w (.int .i64 (dN s)):=by
 have he:=xr s;have q:=ud s;refine enter func130 rfl ntmps130 rfl<|?_;have c0:aS [] w w:=aS.refl _ _;refine ed ?_;refine WC.ka (t:=20) (v:=.bool (lO s)) (fun g=>w=g) ?_ ?_
 ·
  refine(dc) (fun g7=>?_) (fun g7=>?_)
  ·
   refine aX ?_;exact(cw) (by unfold lO;first | (simp only [g7,b];done) | (simp only [g7,b];rfl) | (simp only [g7];rfl)) rfl
  skip
  refine nx ?_;refine WP .r (PV.tT rO rfl)<|(dc) (fun g12=>?_) (fun g12=>?_)
  ·
   exact(cw) (by unfold lO;first | (simp only [g7,g12,b];done) | (simp only [g7,g12,b];rfl) | (simp only [g7,g12];rfl)) rfl
  have o:=of_decide_eq_false g7;rw [he] at o;obtain⟨b0,d,b⟩:=Bf s (by omega);refine nx ?_;refine WP .r (PV.LQ rO (i:=0) rfl rfl d)<|(dc) (fun g16=>?_) (fun g16=>?_)
  ·
   exact(cw) (by unfold lO;first | (simp only [g7,g12,g16,b];done) | (simp only [g7,g12,g16,b];rfl) | (simp only [g7,g12,g16];rfl)) rfl
  exact(cw) (by unfold lO;first | (simp only [g7,g12,g16,b];done) | (simp only [g7,g12,g16,b];rfl) | (simp only [g7,g12,g16];rfl)) rfl
 rintro _ rfl;refine(aR) (fun g20=>?_) fun g20=>?_
 ·
  have e:dN s = -1:=by rw [sr];rw [if_pos g20]
  refine(bs) ?_;rw [e];exact⟨rfl,c0⟩
 have e:dN s=decFrom s.data.toList 0:=by rw [sr,g20];rfl
 have u:=G3 g20;refine aX ?_;refine bK ?_;refine WC.loop (σ:=Nat × Nat) (dj:=fun p=>[(0,.string s),(3,.int .i64 (p.2:Int)),(4,.int .i64 (p.1:Int))]) (I:=fun p w'=>aS [] w w'∧p.1≤s.size∧p.2<10 ^ p.1∧decFrom s.data.toList 0=decFrom (s.data.toList.drop p.1) p.2) (μ:=fun p=>s.size - p.1) (0,0) Sub.t ⟨c0,by simp,by simp,by simp⟩ ?_;rintro⟨i,n⟩ w1 ⟨c1,hi,hn,f⟩;simp only at hi hn f;have x:n<10 ^ 9:=Nat.lt_of_lt_of_le hn (Nat.pow_le_pow_right (by omega) (by omega));refine db ?_;refine WP .r (PV.tT rO rfl)<|(aR) (fun g24=>?_) fun g24=>?_
 ·
  simp at g24
  obtain⟨b0,d,h⟩:=yy s (n:=(n:Int)) g24;refine fO ?_;refine WC.ka (t:=36) (v:=.bool (decide ((b0.toNat:Int)<48) || decide (57<(b0.toNat:Int)))) (fun g=>w1=g) ?_ ?_
  ·
   refine bY ?_;refine WP .r (PV.LQ rO (i:=i) rfl rfl d)<|(dc) (fun j=>?_) (fun j=>?_)
   ·
    exact(cw) (by simp only [j];first | rfl | simp) rfl
   refine bK ?_;refine WP .r (PV.LQ rO (i:=i) rfl rfl d)<|?_;exact(cw) (by simp only [j];first | rfl | simp) rfl
  rintro _ rfl;refine(aR) (fun l=>?_) fun l=>?_
  ·
   have m:dN s = -1:=by rw [e,f,h,if_pos (by simp at l;omega)]
   refine(bs) ?_;rw [m];exact⟨rfl,c1⟩
  simp at l
  rw [if_neg (by omega)] at h;have y:10 ^ (i+1)=10*10 ^ i:=Nat.pow_succ';refine cj ?_;refine WP .r (PV.mul rfl rfl (by omega) (by omega))<|bK ?_;refine WP .r (PV.LQ rO (i:=i) rfl rfl d)<|WP .r (PV.U7 rfl rfl (by omega) (by omega))<|WP .r (PV.conv ⟨_,ac1⟩ acZ rfl (by omega) (by omega))<|ju ?_;refine EX.again (i+1,10*n+(b0.toNat - 48)) (Sub.cons rfl<|Sub.iW rfl (by simp;omega)<|Sub.iW rfl (by simp)<|Sub.nil) ⟨c1,by simp;omega,by simp only;omega,by simp only;rw [f,h];congr 1;omega⟩ (by simp only;omega)
 simp at g24
 have m:dN s=n:=by rw [e,f,List.drop_eq_nil_of_le (by rw [Array.length_toList];exact g24)];rfl
 refine(bs) ?_;rw [m];exact⟨rfl,c1⟩
theorem jX :CR prog 81 #[k.val] w (.int .i64 (number k)):=by
 refine enter func81 rfl ntmps81 rfl<|?_;have c0:aS [] w w:=aS.refl _ _;refine bK ?_;refine WL.go rfl (OX.box rfl rfl rfl fun b1 w1 d b=>?_);have s1:=d.ext;have f:=d.iF c0;have c1:=c0.trans s1;refine fO ?_;refine WP .r (PV.fa pj rfl)<|(aZ) fh b.range<|(bX) O4 (oF (s:=k.text)) ?_;rintro _ w2 ⟨rfl,s2⟩;have c2:=c1.trans s2;have b:=b.ext s2;refine cj ?_;refine WC.ka (t:=18) (v:=.bool (decide (30≤k.kind) && (decide (k.kind≤32) && decide (dN k.text≤99)))) (fun e=>w2=e) ?_ ?_
 ·
  refine nx ?_;refine WP .r (PV.fa dD rfl)<|(aZ) aN b.range<|(dc) (fun g10=>?_) (fun g10=>?_)
  ·
   refine WP .r (PV.fa dD rfl)<|(aZ) aN b.range<|(dc) (fun g15=>?_) (fun g15=>?_)
   ·
    exact(cw) (by simp only [g10,g15];first | rfl | simp) rfl
   exact(cw) (by simp only [g10,g15];first | rfl | simp) rfl
  exact(cw) (by simp only [g10];first | rfl | simp) rfl
 rintro _ rfl;refine(aR) (fun g18=>?_) fun g18=>?_
 ·
  simp at g18
  have hn:number k=dN k.text:=by unfold number;rw [if_pos g18]
  refine(bs) ?_;rw [hn];exact⟨rfl,c2⟩
 simp at g18
 have hn:number k = -1:=by unfold number;rw [if_neg (by intro h;have:=g18 h.1 h.2.1;omega)]
 refine(bs) ?_;rw [hn];exact⟨rfl,c2⟩
theorem iM :CR prog 38 #[k.val] w (.bool (fN k)):=by
 refine enter func38 rfl ntmps38 rfl<|?_;have c0:aS [] w w:=aS.refl _ _;refine bK ?_;refine WL.go rfl (OX.box rfl rfl rfl fun b1 w1 i b=>?_);have s1:=i.ext;have j:=i.iF c0;have c1:=c0.trans s1;refine db ?_;refine WC.ka (t:=10) (v:=.bool (decide (30≤k.kind) && decide (k.kind≤32))) (fun g=>w1=g) ?_ ?_
 ·
  refine nx ?_;refine WP .r (PV.fa dD rfl)<|(aZ) aN b.range<|(dc) (fun g6=>?_) (fun g6=>?_)
  ·
   refine WP .r (PV.fa dD rfl)<|(aZ) aN b.range<|?_;exact(cw) (by simp only [g6];first | rfl | simp) rfl
  exact(cw) (by simp only [g6];first | rfl | simp) rfl
 rintro _ rfl;refine(aR) (fun g10=>?_) fun g10=>?_
 ·
  simp at g10
  refine(aY) ao b.range<|(bX) ND (jX (k:=k)) ?_;rintro _ w2 ⟨rfl,s2⟩;have c2:=c1.trans s2;have b:=b.ext s2;refine(bs) ?_;exact⟨by unfold fN;rw [if_pos (by omega)],c2⟩
 simp at g10
 have d:=Bg k (by omega);refine bY ?_;refine WC.lA (t:=2) (v:=.bool (fN k)) (fun g=>w1=g) ?_ ?_
 ·
  refine nx ?_;refine WP .r (PV.fa dD rfl)<|(aZ) aN b.range<|(dc) (fun g17=>?_) (fun g17=>?_)
  ·
   refine WP .r (PV.fa dD rfl)<|(aZ) aN b.range<|(dc) (fun g22=>?_) (fun g22=>?_)
   ·
    refine WP .r (PV.fa pj rfl)<|(aZ) fh b.range<|?_;refine WP .r (PV.tT rO rfl)<|(dc) (fun e=>?_) (fun e=>?_)
    ·
     refine WP .r (PV.fa pj rfl)<|(aZ) fh b.range<|(dc) (fun f=>?_) (fun f=>?_)
     ·
      exact(gz) (by rw [d];simp only [g17,g22,e,f];first | rfl | simp) rfl
     refine WP .r (PV.fa dD rfl)<|(aZ) aN b.range<|(dc) (fun h=>?_) (fun h=>?_)
     ·
      refine WP .r (PV.fa dD rfl)<|(aZ) aN b.range<|?_;exact(gz) (by rw [d];simp only [g17,g22,e,f,h];first | rfl | simp) rfl
     exact(gz) (by rw [d];simp only [g17,g22,e,f,h];first | rfl | simp) rfl
    refine aX ?_;exact(gz) (by rw [d];simp only [g17,g22,e];first | rfl | simp) rfl
   refine aX ?_;exact(gz) (by rw [d];simp only [g17,g22];first | rfl | simp) rfl
  refine aX ?_;refine aX ?_;exact(gz) (by rw [d];simp only [g17];first | rfl | simp) rfl
 rintro _ rfl;refine(bs) ?_;exact⟨rfl,c1⟩
theorem df :CR prog 25 #[k.val] w (.bool (ax k)):=by
 refine enter func25 rfl ntmps25 rfl<|?_;have c0:aS [] w w:=aS.refl _ _;refine bK ?_;refine WL.go rfl (OX.box rfl rfl rfl fun b1 w1 d b=>?_);have s1:=d.ext;have e:=d.iF c0;have c1:=c0.trans s1;refine cj ?_;refine WC.lA (t:=2) (v:=.bool (ax k)) (aS [] w1) ?_<|?_
 ·
  refine nx ?_;refine WP .r (PV.fa dD rfl)<|(aZ) aN b.range<|(dc) (fun g6=>?_) (fun g6=>?_)
  ·
   refine aX ?_;exact(gz) (by unfold ax;simp only [g6];first | rfl | simp) (aS.refl _ _)
  refine WP .r (PV.fa dD rfl)<|(aZ) aN b.range<|(dc) (fun g10=>?_) (fun g10=>?_)
  ·
   refine WP .r (PV.fa dD rfl)<|(aZ) aN b.range<|(dc) (fun g15=>?_) (fun g15=>?_)
   ·
    refine WP .r (PV.fa dD rfl)<|(aZ) aN b.range<|(bX) ads (Cb (n:=k.kind)) ?_;rintro _ w2 ⟨rfl,s2⟩;have c2:=c1.trans s2;have b:=b.ext s2;exact(gz) (by unfold ax;simp only [g6,g10,g15];first | rfl | simp) s2
   exact(gz) (by unfold ax;simp only [g6,g10,g15];first | rfl | simp) (aS.refl _ _)
  exact(gz) (by unfold ax;simp only [g6,g10];first | rfl | simp) (aS.refl _ _)
 intro w2 s2;have c2:=c1.trans s2;have b:=b.ext s2;refine(bs) ?_;exact⟨rfl,c2⟩
theorem j7{q:Key} :CR prog 40 #[k.val,q.val] w (.int .i64 (bA k q)):=by
 refine enter func40 rfl ntmps40 rfl<|?_;have c0:aS [] w w:=aS.refl _ _;refine bK ?_;refine WL.go rfl (OX.box rfl rfl rfl fun b2 w1 g b=>?_);have s1:=g.ext;have i:=g.iF c0;have c1:=c0.trans s1;refine WL.go rfl (OX.box rfl rfl rfl fun b3 w2 e d=>?_);have s2:=e.ext;have j:=e.iF c1;have h:b2≠b3:=e.ne b.lt;have l:b3≠b2:=Ne.symm h;have c2:=c1.trans s2;have b:=b.ext s2;refine ed ?_;refine WP .r (PV.fa dD rfl)<|(aZ) aN b.range<|?_;refine WP .r (PV.fa dD rfl)<|(aZ) aN d.range<|(aR) (fun g5=>?_) fun g5=>?_
 ·
  simp at g5
  refine(bs) ?_;exact⟨by unfold bA;rw [if_pos g5],c2⟩
 simp at g5
 refine bK ?_;refine WP .r (PV.fa dD rfl)<|(aZ) aN b.range<|?_;refine WP .r (PV.fa dD rfl)<|(aZ) aN d.range<|(aR) (fun g11=>?_) fun g11=>?_
 ·
  simp at g11
  refine(bs) ?_;exact⟨by unfold bA;rw [if_neg (by omega),if_pos g11],c2⟩
 simp at g11
 refine db ?_;refine WP .r (PV.fa pj rfl)<|(aZ) fh b.range<|?_;refine WP .r (PV.fa pj rfl)<|(aZ) fh d.range<|(bX) Wv (oE k.text q.text w2) ?_;rintro _ w3 ⟨rfl,f⟩;have c3:=c2.trans f;have b:=b.ext f;have d:=d.ext f;refine(bs) ?_;exact⟨by unfold bA;rw [if_neg (by omega),if_neg (by omega)],c3⟩
end Go.Rc

