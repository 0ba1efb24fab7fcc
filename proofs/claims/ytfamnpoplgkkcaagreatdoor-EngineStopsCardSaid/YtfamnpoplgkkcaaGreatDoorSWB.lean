/- Walks over the program, part WB. Conditions: as each theorem says. -/
import Derived.Test.YtfamnpoplgkkcaaGreatDoorSFacts
import Derived.Test.YtfamnpoplgkkcaaGreatDoorSBb
import Derived.Test.YtfamnpoplgkkcaaGreatDoorSBe
import Derived.Test.YtfamnpoplgkkcaaGreatDoorShelf
import Derived.Lib.UnsafeStr
set_option linter.all false
namespace Go.Rc
open Go Go.Proofs Go.Proofs.Tryz
variable {n:Int}{w:World}{aa:List aG}{A:Nat→Prop}{a:Option Addr}{r c:Nat}{k:Key}
set_option maxHeartbeats 400000
theorem H8{m:Int}(b:m≤4611686018427387904):CR prog 54 #[.int .i64 n,.int .i64 m] w (.int .i64 (if m<1 then 0 else n % m)):=by
 refine enter func54 rfl ntmps54 rfl<|?_;have c0:aU [] w w:=aU.refl _ _;refine(aS) (fun g6=>?_) fun g6=>?_
 ·
  simp at g6
  refine(bA) ?_;exact⟨by rw [if_pos (by omega)],c0⟩
 simp at g6
 have k1:=Int.tmod_lt_of_pos n (show 0<m by omega);have k2:=Int.lt_tmod_of_pos n (show 0<m by omega);refine fH ?_;refine WP .r (PV.rem rfl rfl (by omega))<|cm ?_;refine WP .r (PV.rem rfl rfl (by omega))<|(bA) ?_;refine⟨?_,c0⟩;rw [if_neg (by omega)]
 congr 2
 rw [Int.tmod_eq_emod_of_nonneg (by omega),Int.add_emod_right,Hm]
theorem sX(hr:fG A w a r c aa):CR prog 53 #[.slice a r c,.int .i64 n] w (.tuple #[.int .i64 (block aa n).1,.int .i64 (block aa n).2]):=by
 have hle:=hr.le;have hlen:=hr.len;refine enter func53 rfl ntmps53 rfl<|?_;have c0:aU [] w w:=aU.refl _ _;refine gK ?_;refine WC.ke (t:=15) (v:=.bool (decide (n<0) || decide ((r:Int)≤n))) (fun f=>w=f) ?_ ?_
 ·
  refine(de) (fun g10=>?_) (fun g10=>?_)
  ·
   exact(bZ) (by simp only [g10];first | done | rfl | simp) rfl
  refine bO ?_;refine WP .r (PV.ic iU rfl)<|?_;exact(bZ) (by simp only [g10];first | done | rfl | simp) rfl
 rintro _ rfl;refine(aS) (fun g15=>?_) fun g15=>?_
 ·
  have hb:=xC aa n (by simp at g15;omega);refine(yP) ?_;exact⟨by rw [hb],c0⟩
 obtain⟨b,rfl⟩:∃i:Nat,n=i:=⟨n.toNat,by simp at g15;omega⟩
 have e:b<aa.length:=by simp at g15;omega
 have B:block aa b=if aF aa b then ((bF aa b:Int),(dL aa (b+1):Int)) else ((b:Int),(b:Int)+1):=by
  unfold block;rw [if_neg (by omega)];rfl
 refine aW ?_;refine nx ?_;refine WC.loop (σ:=Nat) (dn:=fun k=>[(0,.slice a r c),(1,.int .i64 (b:Int)),(6,.int .i64 (k:Int)),(7,.int .i64 ((b:Int)+1))]) (I:=fun k w'=>aU [] w w'∧k≤b∧bF aa k=bF aa b∧(aF aa b=false→k=b)) (μ:=fun k=>k) b Sub.t ⟨c0,Nat.le_refl _,rfl,fun _=>rfl⟩ ?_;rintro k w1 ⟨c1,hk,C,E⟩;refine bO ?_;obtain⟨b1,F,r1,q,_,⟨q1,G,H,rfl,_⟩,d,_⟩:=(hr.ext c1).at (ak e);refine WC.ke (t:=35) (v:=.bool (aa[b].ring && (decide ((0:Int)<k) && aF aa (k - 1)))) (fun f=>w1=f) ?_ ?_
 ·
  refine cm ?_;refine WP .r (PV.dV iU q rfl rfl (by omega))<|WP .r (PV.fa kx rfl)<|(aZ) dA d<|(de) (fun g24=>?_) (fun g24=>?_)
  ·
   refine(de) (fun s=>?_) (fun s=>?_)
   ·
    obtain⟨b2,J,r2,u,_,⟨K,L,M,rfl,_⟩,x,_⟩:=(hr.ext c1).at (ak (show k - 1<aa.length by omega))
    simp at s
    have o:aa[k-1].ring=aF aa (k-1):=(bU (by omega)).symm;refine cm ?_;refine WP .r (PV.D3 iU (k - 1) u rfl rfl (by omega) (by omega))<|WP .r (PV.fa kx rfl)<|(aZ) dA x<|?_;exact(bZ) (by simp [*]) rfl
   simp at s
   have N:¬(0<k):=by omega
   exact(bZ) (by simp [*]) rfl
  exact(bZ) (by simp [*]) rfl
 rintro _ rfl;refine(aS) (fun g=>?_) fun g=>?_
 ·
  simp at g
  obtain⟨g1,g2,g3⟩:=g;obtain⟨j,rfl⟩:∃j,k=j+1:=⟨k - 1,by omega⟩;refine kU ?_;refine EX.again j (Sub.k2 rfl rfl<|Sub.iX rfl (by omega)<|Sub.cons rfl<|Sub.nil) ⟨c1,by omega,by rw [← C,pZ (by simpa using g3)],fun h=>absurd (bU e) (by simp [h,g1])⟩ (by omega)
 simp at g
 have O:(block aa b).1=k:=by
  rw [B]
  by_cases d:aF aa b=true
  ·
   rw [if_pos d]
   show(bF aa b:Int)=k
   rw [← C,sD]
   by_cases h0:k=0
   ·
    exact .inl h0
   exact .inr (g (by rw [← bU e];exact d) (by omega))
  rw [if_neg d,E (by simpa using d)]
 refine eD ?_;refine WC.loop (σ:=Nat) (dn:=fun m=>[(0,.slice a r c),(1,.int .i64 (b:Int)),(6,.int .i64 (k:Int)),(7,.int .i64 (m:Int))]) (I:=fun m w'=>aU [] w w'∧b+1≤m∧m≤r∧dL aa m=dL aa (b+1)∧(aF aa b=false→m=b+1)) (μ:=fun m=>r - m) (b+1) Sub.t ⟨c1,Nat.le_refl _,by omega,rfl,fun _=>rfl⟩ ?_;rintro m w2 ⟨c2,R,S,D,P⟩;refine bO ?_;obtain⟨b1,F,r1,q,_,⟨q1,G,H,rfl,_⟩,d,_⟩:=(hr.ext c2).at (ak e);refine WC.ke (t:=55) (v:=.bool (aa[b].ring && (decide ((m:Int)<r) && aF aa m))) (fun f=>w2=f) ?_ ?_
 ·
  refine cm ?_;refine WP .r (PV.dV iU q rfl rfl (by omega))<|WP .r (PV.fa kx rfl)<|(aZ) dA d<|(de) (fun p=>?_) (fun p=>?_)
  ·
   refine bO ?_;refine WP .r (PV.ic iU rfl)<|(de) (fun y=>?_) (fun y=>?_)
   ·
    simp at y
    obtain⟨b2,J,r2,u,_,⟨K,L,M,rfl,_⟩,x,_⟩:=(hr.ext c2).at (ak (show m<aa.length by omega));have o:aa[m].ring=aF aa m:=(bU (by omega)).symm
    have z:decide ((m:Int)<r)=true:=by simp;omega
    refine bO ?_;refine WP .r (PV.dV iU u rfl rfl (by omega))<|WP .r (PV.fa kx rfl)<|(aZ) dA x<|?_;exact(bZ) (by first | (rw [o,p,z];rfl) | simp [*]) rfl
   simp at y
   have N:¬(m<aa.length):=by omega
   exact(bZ) (by first | (rw [o,p,z];rfl) | simp [*]) rfl
  refine aW ?_;exact(bZ) (by first | (rw [o,p,z];rfl) | simp [*]) rfl
 rintro _ rfl;refine(aS) (fun l=>?_) fun l=>?_
 ·
  simp at l
  obtain⟨g1,g2,g3⟩:=l;refine kU ?_;refine EX.again (m+1) (Sub.k2 rfl rfl<|Sub.cons rfl<|Sub.iX rfl (by omega)<|Sub.nil) ⟨c2,by omega,by omega,by rw [← D,← sC g3],fun h=>absurd (bU e) (by simp [h,g1])⟩ (by omega)
 simp at l
 have Q:(block aa b).2=m:=by
  rw [B]
  by_cases d:aF aa b=true
  ·
   rw [if_pos d]
   show(dL aa (b+1):Int)=m
   rw [← D,uh]
   rcases Nat.lt_or_ge m r with h0 | h0
   ·
    exact l (by rw [← bU e];exact d) (by omega)
   exact lR (by omega)
  rw [if_neg d,P (by simpa using d)];rfl
 refine aW ?_;refine(yP) ?_;exact⟨by rw [O,Q],c2⟩
theorem KP(w:World) (k:Nat) (os:Array Obj):aU [] w (Sort.grow (w.drewN k) os):=⟨rfl,rfl,rfl,by simp [Sort.grow],Nat.le_add_right _ _,fun i hi _=>Sort.heap_grow_old (w.drewN k) os (k:=i) hi⟩
theorem yk(w:World) (e:TypeId) (s:ByteArray):aU [] w (Lib.bytesWorld w e s):=aU.Bz (Lib.bytesWorld_below _ _ _) (by
 unfold Lib.bytesWorld
 rw [qh];exact Nat.le_succ _)
theorem vk(i:Nat):itoa (i:Int)=⟨(Lib.decDigits i).toArray⟩:=by
 unfold itoa Lib.itoa
 rw [if_neg (by omega),Int.toNat_natCast]
theorem jj(h0:0≤n) (h1:n≤99) (w:World):CR prog 50 #[.int .i64 n] w (.string (itoa n)):=by
 obtain⟨i,rfl⟩:∃i:Nat,n=i:=⟨n.toNat,by omega⟩
 exact(strconv_Itoa_small i (by omega) w).mono fun e w' ⟨he,hw⟩=>⟨by rw [he,vk],by rw [hw];exact aU.refl _ _⟩
theorem me(ht:lA prog A w) (h0:-9223372036854775808≤n) (h1:n≤9223372036854775807):CR prog 50 #[.int .i64 n] w (.string (itoa n)):=
 (strconv_Itoa n h0 h1 w (by obtain⟨⟨b,_,_,h⟩,_⟩:=ht;exact h w rfl)).mono fun e w' ⟨he,k,os,hw⟩=>⟨he,by rw [hw];exact KP _ _ _⟩
theorem oN(s t:ByteArray) (w:World):CR prog 82 #[.string s,.string t] w (.int .i64 (Lib.compareBytes s.data.toList t.data.toList)):=
 (strings_Compare s t w).mono fun e w' ⟨he,hw⟩=>⟨he,by rw [hw];exact aU.refl _ _⟩
theorem yl{d acc:Nat}(b:d<10) (e:acc<100000000000000000):Lib.parseUint10 acc [UInt8.ofNat (48+d)]=.ok (acc*10+d):=by
 have h:(UInt8.ofNat (48+d)).toNat=48+d:=by
  rw [UInt8.toNat_ofNat']
  omega
 simp only [Lib.parseUint10,h];rw [if_pos (by omega),if_neg (by omega),if_neg (by omega)]
 congr 1
 omega
theorem vl(b:UInt8):∀(l:List UInt8) (acc u:Nat),Lib.parseUint10 acc l=.ok u→Lib.parseUint10 acc (l++[b])=Lib.parseUint10 u [b]
 | [],acc,u,h=>by
  simp only [Lib.parseUint10] at h
  injection h with h
  subst h
  rfl
 | c::r,acc,u,h=>by
  have d:=fun a=>vl b r a u
  generalize Lib.parseUint10 u [b]=X at d ⊢
  simp only [List.cons_append,Lib.parseUint10] at h ⊢
  split at h
  ·
   rename_i h1
   rw [if_pos h1]
   split at h
   ·
    cases h
   rename_i e
   rw [if_neg e]
   split at h
   ·
    cases h
   rename_i f
   rw [if_neg f];exact d _ h
  cases h
theorem ym(n:Nat) (hn:n≤99999):Lib.parseUint10 0 (Lib.decDigits n)=.ok n:=by
 by_cases h:n<10
 ·
  rw [Lib.decDigits,dif_pos h];have h1:=yl (acc:=0) h (by omega);rw [Nat.zero_mul,Nat.zero_add] at h1;exact h1
 rw [Lib.decDigits,dif_neg h,vl _ _ _ _ (ym (n / 10) (by omega)),yl (by omega) (by omega)]
 congr 1
 omega
termination_by n
decreasing_by omega
theorem Cn(n:Nat):∃b r,Lib.decDigits n=b::r∧48≤b.toNat:=by
 by_cases h:n<10
 ·
  refine⟨UInt8.ofNat (48+n),[],by rw [Lib.decDigits,dif_pos h],?_⟩;rw [UInt8.toNat_ofNat']
  omega
 obtain⟨b,r,h1,d⟩:=Cn (n / 10);exact⟨b,r++[UInt8.ofNat (48+n % 10)],by rw [Lib.decDigits,dif_neg h,h1,List.cons_append],d⟩
termination_by n
decreasing_by omega
theorem G6(n:Nat):(Lib.decDigits n).length≤n+1:=by
 by_cases h:n<10
 ·
  rw [Lib.decDigits,dif_pos h,List.length_singleton]
  omega
 have h1:=G6 (n / 10);rw [Lib.decDigits,dif_neg h,List.length_append,List.length_singleton]
 omega
termination_by n
decreasing_by omega
theorem KQ{n:Nat}(hn:n≤99999):Lib.atoiAll (Lib.decDigits n)=.ok (n:Int):=by
 obtain⟨b,r,h1,e⟩:=Cn n;have d:=ym n hn;rw [h1] at d ⊢;rw [Lib.atoiAll_plain b r (by omega) (by omega)]
 unfold Lib.parseMag
 rw [if_neg (by simp),d]
 show(if 9223372036854775808≤n then Lib.NumEnd.range else .ok (n:Int))=.ok (n:Int)
 rw [if_neg (by omega)]
theorem Co{n:Nat}(h:n≤99999) (w:World):CR prog 152 #[.string (itoa n)] w (.tuple #[.int .i64 (n:Int),.nilIface]):=by
 have b:(itoa (n:Int)).data.toList=Lib.decDigits n:=(congrArg (fun x:ByteArray=>x.data.toList) (vk n)).trans rfl
 refine(strconv_Atoi_ok (itoa n) ?_ n (by rw [b];exact KQ h) w).mono fun e w' ⟨he,hw⟩=>⟨he,?_⟩
 ·
  have h1:=G6 n;rw [vk]
  show(Lib.decDigits n).toArray.size≤9223372036854775806
  rw [List.size_toArray]
  omega
 rcases hw with rfl | ⟨t,rfl⟩
 ·
  exact aU.refl _ _
 exact yk _ _ _
theorem Ff{n:Nat}(h:n≤99) (w:World):CR prog 152 #[.string (itoa n)] w (.tuple #[.int .i64 (n:Int),.nilIface]):=Co (by omega) w
set_option maxHeartbeats 400000
theorem Cp :CR prog 56 #[.int .i64 n] w (.bool (jP n)):=by
 refine enter func56 rfl ntmps56 rfl<|?_;have c0:aU [] w w:=aU.refl _ _;refine fH ?_;refine WC.lE (t:=2) (v:=.bool (jP n)) (fun b=>w=b) ?_ ?_
 ·
  refine(de) (fun g5=>?_) (fun g5=>?_)
  ·
   refine aW ?_;exact(gu) (by unfold jP;simp only [g5];first | rfl | simp) rfl
  refine(de) (fun g9=>?_) (fun g9=>?_)
  ·
   exact(gu) (by unfold jP;simp only [g5,g9];first | rfl | simp) rfl
  refine(de) (fun g13=>?_) (fun g13=>?_)
  ·
   exact(gu) (by unfold jP;simp only [g5,g9,g13];first | rfl | simp) rfl
  exact(gu) (by unfold jP;simp only [g5,g9,g13];first | rfl | simp) rfl
 rintro _ rfl;refine(bA) ?_;exact⟨rfl,c0⟩
theorem ei :CR prog 39 #[k.val] w (.bool (ay k)):=by
 refine enter func39 rfl ntmps39 rfl<|?_;have c0:aU [] w w:=aU.refl _ _;refine bO ?_;refine WL.go rfl (OX.box rfl rfl rfl fun b1 w1 d b=>?_);have s1:=d.ext;have f:=d.iG c0;have c1:=c0.trans s1;refine ck ?_;refine WC.lE (t:=2) (v:=.bool (ay k)) (fun e=>w1=e) ?_ ?_
 ·
  refine nx ?_;refine WP .r (PV.fa dG rfl)<|(aZ) aO b.range<|(de) (fun g6=>?_) (fun g6=>?_)
  ·
   exact(gu) (by unfold ay;simp only [g6];first | rfl | simp) rfl
  refine WP .r (PV.fa dG rfl)<|(aZ) aO b.range<|(de) (fun g11=>?_) (fun g11=>?_)
  ·
   exact(gu) (by unfold ay;simp only [g6,g11];first | rfl | simp) rfl
  refine WP .r (PV.fa dG rfl)<|(aZ) aO b.range<|?_;exact(gu) (by unfold ay;simp only [g6,g11];first | rfl | simp) rfl
 rintro _ rfl;refine(bA) ?_;exact⟨rfl,c1⟩
theorem jk :CR prog 22 #[.int .i64 n] w ((bX n).val):=by
 refine enter func22 rfl ntmps22 rfl<|?_;have c0:aU [] w w:=aU.refl _ _;refine bO ?_;refine WL.go rfl (OX.alloc E8 rfl fun b2 w1 d b=>?_);have s1:=d.ext;have e:=d.iG c0;have c1:=c0.trans s1;refine ck ?_;refine WC.ke (t:=8) (v:=.bool (decide (n<0) || decide (99<n))) (fun f=>w1=f) ?_ ?_
 ·
  refine(de) (fun g5=>?_) (fun g5=>?_)
  ·
   exact(bZ) (by simp only [g5];first | rfl | simp) rfl
  exact(bZ) (by simp only [g5];first | rfl | simp) rfl
 rintro _ rfl;refine(aS) (fun g8=>?_) fun g8=>?_
 ·
  have hk:bX n=dW:=by unfold bX;rw [if_pos (by simp at g8;omega)]
  refine bO ?_;refine WP .r (PV.bC (us:=[.int .i64 0,.string ⟨#[]⟩]) Cg rfl rfl rfl)<|?_;refine WL.go rfl (OX.mq gR b rfl rfl rfl rfl rfl fun w2 s2 _ b=>?_);have c2:=c1.own s2 e;refine(kV) ao b.range<|?_;rw [hk];exact⟨rfl,c2⟩
 simp at g8
 have hk:bX n=⟨30,itoa n⟩:=by unfold bX;rw [if_neg (by omega)]
 refine(bY) N7 (jj (n:=n) (by omega) (by omega) w1) ?_;rintro _ w2 ⟨rfl,s2⟩;have c2:=c1.trans s2;have b:=b.ext s2;refine WP .r (PV.bC (us:=[.int .i64 30,.string (itoa n)]) Cg rfl rfl rfl)<|?_;refine WL.go rfl (OX.mq gR b rfl rfl rfl rfl rfl fun w3 g _ b=>?_);have c3:=c2.own g e;refine(kV) ao b.range<|?_;rw [hk];exact⟨rfl,c3⟩
theorem fV(hr:fG A w a r c aa):CR prog 17 #[.slice a r c,.int .i64 n] w ((aI aa n).val):=by
 have hle:=hr.le;have hlen:=hr.len;refine enter func17 rfl ntmps17 rfl<|?_;have c0:aU [] w w:=aU.refl _ _;refine bO ?_;refine WL.go rfl (OX.alloc E8 rfl fun b4 w1 m b=>?_);have s1:=m.ext;have f:=m.iG c0;have c1:=c0.trans s1;refine ck ?_;refine WC.ke (t:=17) (v:=.bool (decide (n<0) || (decide ((r:Int)≤n) || decide (99<n)))) (fun y=>w1=y) ?_ ?_
 ·
  refine(de) (fun g8=>?_) (fun g8=>?_)
  ·
   exact(bZ) (by simp only [g8];first | rfl | simp) rfl
  refine bO ?_;refine WP .r (PV.ic iU rfl)<|(de) (fun g14=>?_) (fun g14=>?_)
  ·
   exact(bZ) (by simp only [g8,g14];first | rfl | simp) rfl
  exact(bZ) (by simp only [g8,g14];first | rfl | simp) rfl
 rintro _ rfl;refine(aS) (fun g17=>?_) fun g17=>?_
 ·
  have hk:aI aa n=dW:=by unfold aI;rw [if_pos (by simp at g17;omega)]
  refine bO ?_;refine WP .r (PV.bC (us:=[.int .i64 0,.string ⟨#[]⟩]) Cg rfl rfl rfl)<|?_;refine WL.go rfl (OX.mq gR b rfl rfl rfl rfl rfl fun w2 s2 _ b=>?_);have c2:=c1.own s2 f;refine(kV) ao b.range<|?_;rw [hk];exact⟨rfl,c2⟩
 simp at g17
 obtain⟨i,rfl⟩:∃i:Nat,n=i:=⟨n.toNat,by omega⟩
 have hi:i<aa.length:=by omega
 have hk:aI aa i=⟨if aF aa i then 32 else 31,itoa i⟩:=by unfold aI;rw [if_neg (by omega)];rfl
 have o:=bU hi;refine(bY) N7 (jj (n:=(i:Int)) (by omega) (by omega) w1) ?_;rintro _ w2 ⟨rfl,s2⟩;have c2:=c1.trans s2;have b:=b.ext s2;refine WP .r (PV.bC (us:=[.int .i64 31,.string (itoa i)]) Cg rfl rfl rfl)<|?_;refine WL.go rfl (OX.alloc E8 rfl fun b5 w3 g d=>?_);have p:=g.ext;have q:=g.iG c2;have h:b4≠b5:=g.ne b.lt;have s:b5≠b4:=Ne.symm h;have c3:=c2.trans p;have b:=b.ext p;refine WL.go rfl (OX.mq gR d rfl rfl rfl rfl rfl fun w4 u _ d=>?_);have c4:=c3.own u q;have b:=b.bW u (by simp [h]);refine ck ?_;obtain⟨b1,D,r1,z,_,⟨q1,E,F,rfl,_⟩,B,_⟩:=(hr.ext c4).at (ak hi);refine cm ?_;refine WP .r (PV.dV iU z rfl rfl (by omega))<|WP .r (PV.fa kx rfl)<|(aZ) dA B<|(aS) (fun j=>?_) fun j=>?_
 ·
  have l:aI aa i=⟨32,itoa i⟩:=by rw [hk,o,j];rfl
  refine nx ?_;refine WP .r (PV.fa dG rfl)<|?_;refine WL.go rfl (OX.st G1 d rfl rfl (by first | (simp [nth];done) | exact Vz rfl) rfl rfl fun w5 e _ d=>?_);have c5:=c4.own e q;have b:=b.bW e (by simp [h]);refine(aX) ao d.range<|?_;refine WL.go rfl (OX.mq gR b rfl rfl rfl rfl rfl fun w6 x _ b=>?_);have C:=c5.own x f;have d:=d.bW x (by simp [s]);refine(kV) ao b.range<|?_;rw [l];exact⟨rfl,C⟩
 have l:aI aa i=⟨31,itoa i⟩:=by rw [hk,o,j];rfl
 refine(aX) ao d.range<|?_;refine WL.go rfl (OX.mq gR b rfl rfl rfl rfl rfl fun w5 e _ b=>?_);have c5:=c4.own e f;have d:=d.bW e (by simp [s]);refine(kV) ao b.range<|?_;rw [l];exact⟨rfl,c5⟩
theorem og{l:List Key}(hl:yE A w a r c l):CR prog 20 #[.slice a r c,k.val] w (.bool (decide (k∈l))):=by
 have hle:=hl.le;have hlen:=hl.len;refine enter func20 rfl ntmps20 rfl<|?_;have c0:aU [] w w:=aU.refl _ _;refine bO ?_;refine WL.go rfl (OX.box rfl rfl rfl fun b3 w1 j b=>?_);have s1:=j.ext;have D:=j.iG c0;have c1:=c0.trans s1;refine eD ?_;refine WP .r (PV.ic ey rfl)<|ck ?_;refine WC.loop (σ:=Nat × World) (dn:=fun s=>[(3,.pointer (some ⟨b3,0,none⟩)),(7,.slice a r c),(8,.int .i64 (r:Int)),(9,.int .i64 (s.1:Int))]) (I:=fun s w'=>aU [] w w'∧bR w' b3 41 [.int .i64 k.kind,.string k.text]∧s.1≤r∧k∉l.take s.1) (μ:=fun s=>r - s.1) (0,w) Sub.t ⟨c1,b,by omega,by simp⟩ ?_;rintro⟨i,_⟩ w2 ⟨c2,b,hi,m⟩;refine(aS) (fun g10=>?_) fun g10=>?_
 ·
  simp at g10
  have d:i<l.length:=by omega
  refine dd ?_;obtain⟨b1,E,r1,y,_,rfl,z,_⟩:=(hl.ext c2).at (ak d);refine nx ?_;refine WP .r (PV.dV ey y rfl rfl (by omega))<|(aX) ao z<|?_;refine WL.go rfl (OX.alloc E8 rfl fun o w3 f g=>?_);have u:=f.ext;have B:=f.iG c2;have v:b3≠o:=f.ne b.lt;have F:o≠b3:=Ne.symm v;have c3:=c2.trans u;have b:=b.ext u;refine WL.go rfl (OX.mq gR g rfl rfl rfl rfl rfl fun w4 x _ g=>?_);have c4:=c3.own x B;have b:=b.bW x (by simp [v]);refine(aX) ao g.range<|(aX) ao b.range<|?_;refine WP .r (PV.Gl fS (p:=l[i]) (q:=k) rfl rfl)<|(aS) (fun g15=>?_) fun g15=>?_
  ·
   simp at g15
   refine(bA) ?_;exact⟨by rw [decide_eq_true (g15 ▸ List.getElem_mem d)],c4⟩
  simp at g15
  refine eD ?_;refine EX.again (i+1,w) (Sub.k2 rfl rfl<|Sub.cons rfl<|Sub.iX rfl (by simp)<|Sub.nil) ⟨c4,b,by omega,by have h:=List.take_succ_eq_append_getElem d;simp only [h,List.mem_append,List.mem_singleton,not_or];exact⟨m,fun e=>g15 e.symm⟩⟩ (by simp;omega)
 simp at g10
 have C:k∉l:=by rw [← List.take_of_length_le (show l.length≤i by omega)];exact m
 refine(bA) ?_;exact⟨by rw [decide_eq_false C],c2⟩
theorem oO{s:ByteArray} :CR prog 130 #[.string s] w (.int .i64 (dO s)):=by
 have he:=xD s;have q:=ui s;refine enter func130 rfl ntmps130 rfl<|?_;have c0:aU [] w w:=aU.refl _ _;refine eD ?_;refine WC.ke (t:=20) (v:=.bool (lS s)) (fun g=>w=g) ?_ ?_
 ·
  refine(de) (fun g7=>?_) (fun g7=>?_)
  ·
   refine aW ?_;exact(bZ) (by unfold lS;first | (simp only [g7,b];done) | (simp only [g7,b];rfl) | (simp only [g7];rfl)) rfl
  skip
  refine nx ?_;refine WP .r (PV.tY r6 rfl)<|(de) (fun g12=>?_) (fun g12=>?_)
  ·
   exact(bZ) (by unfold lS;first | (simp only [g7,g12,b];done) | (simp only [g7,g12,b];rfl) | (simp only [g7,g12];rfl)) rfl
  have o:=of_decide_eq_false g7;rw [he] at o;obtain⟨b0,d,b⟩:=Br s (by omega);refine nx ?_;refine WP .r (PV.Mq r6 (i:=0) rfl rfl d)<|(de) (fun g16=>?_) (fun g16=>?_)
  ·
   exact(bZ) (by unfold lS;first | (simp only [g7,g12,g16,b];done) | (simp only [g7,g12,g16,b];rfl) | (simp only [g7,g12,g16];rfl)) rfl
  exact(bZ) (by unfold lS;first | (simp only [g7,g12,g16,b];done) | (simp only [g7,g12,g16,b];rfl) | (simp only [g7,g12,g16];rfl)) rfl
 rintro _ rfl;refine(aS) (fun g20=>?_) fun g20=>?_
 ·
  have e:dO s = -1:=by rw [sE];rw [if_pos g20]
  refine(bA) ?_;rw [e];exact⟨rfl,c0⟩
 have e:dO s=decFrom s.data.toList 0:=by rw [sE,g20];rfl
 have u:=Hn g20;refine aW ?_;refine bO ?_;refine WC.loop (σ:=Nat × Nat) (dn:=fun p=>[(0,.string s),(3,.int .i64 (p.2:Int)),(4,.int .i64 (p.1:Int))]) (I:=fun p w'=>aU [] w w'∧p.1≤s.size∧p.2<10 ^ p.1∧decFrom s.data.toList 0=decFrom (s.data.toList.drop p.1) p.2) (μ:=fun p=>s.size - p.1) (0,0) Sub.t ⟨c0,by simp,by simp,by simp⟩ ?_;rintro⟨i,n⟩ w1 ⟨c1,hi,hn,f⟩;simp only at hi hn f;have x:n<10 ^ 9:=Nat.lt_of_lt_of_le hn (Nat.pow_le_pow_right (by omega) (by omega));refine dd ?_;refine WP .r (PV.tY r6 rfl)<|(aS) (fun g24=>?_) fun g24=>?_
 ·
  simp at g24
  obtain⟨b0,d,h⟩:=yJ s (n:=(n:Int)) g24;refine fH ?_;refine WC.ke (t:=36) (v:=.bool (decide ((b0.toNat:Int)<48) || decide (57<(b0.toNat:Int)))) (fun g=>w1=g) ?_ ?_
  ·
   refine cm ?_;refine WP .r (PV.Mq r6 (i:=i) rfl rfl d)<|(de) (fun j=>?_) (fun j=>?_)
   ·
    exact(bZ) (by simp only [j];first | rfl | simp) rfl
   refine bO ?_;refine WP .r (PV.Mq r6 (i:=i) rfl rfl d)<|?_;exact(bZ) (by simp only [j];first | rfl | simp) rfl
  rintro _ rfl;refine(aS) (fun l=>?_) fun l=>?_
  ·
   have m:dO s = -1:=by rw [e,f,h,if_pos (by simp at l;omega)]
   refine(bA) ?_;rw [m];exact⟨rfl,c1⟩
  simp at l
  rw [if_neg (by omega)] at h;have y:10 ^ (i+1)=10*10 ^ i:=Nat.pow_succ';refine ck ?_;refine WP .r (PV.mul rfl rfl (by omega) (by omega))<|bO ?_;refine WP .r (PV.Mq r6 (i:=i) rfl rfl d)<|WP .r (PV.Vx rfl rfl (by omega) (by omega))<|WP .r (PV.conv ⟨_,adr⟩ adq rfl (by omega) (by omega))<|i7 ?_;refine EX.again (i+1,10*n+(b0.toNat - 48)) (Sub.cons rfl<|Sub.iX rfl (by simp;omega)<|Sub.iX rfl (by simp)<|Sub.nil) ⟨c1,by simp;omega,by simp only;omega,by simp only;rw [f,h];congr 1;omega⟩ (by simp only;omega)
 simp at g24
 have m:dO s=n:=by rw [e,f,List.drop_eq_nil_of_le (by rw [Array.length_toList];exact g24)];rfl
 refine(bA) ?_;rw [m];exact⟨rfl,c1⟩
theorem jU :CR prog 81 #[k.val] w (.int .i64 (number k)):=by
 refine enter func81 rfl ntmps81 rfl<|?_;have c0:aU [] w w:=aU.refl _ _;refine bO ?_;refine WL.go rfl (OX.box rfl rfl rfl fun b1 w1 d b=>?_);have s1:=d.ext;have f:=d.iG c0;have c1:=c0.trans s1;refine fH ?_;refine WP .r (PV.fa pC rfl)<|(aZ) e7 b.range<|(bY) Py (oO (s:=k.text)) ?_;rintro _ w2 ⟨rfl,s2⟩;have c2:=c1.trans s2;have b:=b.ext s2;refine ck ?_;refine WC.ke (t:=18) (v:=.bool (decide (30≤k.kind) && (decide (k.kind≤32) && decide (dO k.text≤99)))) (fun e=>w2=e) ?_ ?_
 ·
  refine nx ?_;refine WP .r (PV.fa dG rfl)<|(aZ) aO b.range<|(de) (fun g10=>?_) (fun g10=>?_)
  ·
   refine WP .r (PV.fa dG rfl)<|(aZ) aO b.range<|(de) (fun g15=>?_) (fun g15=>?_)
   ·
    exact(bZ) (by simp only [g10,g15];first | rfl | simp) rfl
   exact(bZ) (by simp only [g10,g15];first | rfl | simp) rfl
  exact(bZ) (by simp only [g10];first | rfl | simp) rfl
 rintro _ rfl;refine(aS) (fun g18=>?_) fun g18=>?_
 ·
  simp at g18
  have hn:number k=dO k.text:=by unfold number;rw [if_pos g18]
  refine(bA) ?_;rw [hn];exact⟨rfl,c2⟩
 simp at g18
 have hn:number k = -1:=by unfold number;rw [if_neg (by intro h;have:=g18 h.1 h.2.1;omega)]
 refine(bA) ?_;rw [hn];exact⟨rfl,c2⟩
theorem iO :CR prog 38 #[k.val] w (.bool (fN k)):=by
 refine enter func38 rfl ntmps38 rfl<|?_;have c0:aU [] w w:=aU.refl _ _;refine bO ?_;refine WL.go rfl (OX.box rfl rfl rfl fun b1 w1 i b=>?_);have s1:=i.ext;have j:=i.iG c0;have c1:=c0.trans s1;refine dd ?_;refine WC.ke (t:=10) (v:=.bool (decide (30≤k.kind) && decide (k.kind≤32))) (fun g=>w1=g) ?_ ?_
 ·
  refine nx ?_;refine WP .r (PV.fa dG rfl)<|(aZ) aO b.range<|(de) (fun g6=>?_) (fun g6=>?_)
  ·
   refine WP .r (PV.fa dG rfl)<|(aZ) aO b.range<|?_;exact(bZ) (by simp only [g6];first | rfl | simp) rfl
  exact(bZ) (by simp only [g6];first | rfl | simp) rfl
 rintro _ rfl;refine(aS) (fun g10=>?_) fun g10=>?_
 ·
  simp at g10
  refine(aX) ao b.range<|(bY) N8 (jU (k:=k)) ?_;rintro _ w2 ⟨rfl,s2⟩;have c2:=c1.trans s2;have b:=b.ext s2;refine(bA) ?_;exact⟨by unfold fN;rw [if_pos (by omega)],c2⟩
 simp at g10
 have d:=Bs k (by omega);refine cm ?_;refine WC.lE (t:=2) (v:=.bool (fN k)) (fun g=>w1=g) ?_ ?_
 ·
  refine nx ?_;refine WP .r (PV.fa dG rfl)<|(aZ) aO b.range<|(de) (fun g17=>?_) (fun g17=>?_)
  ·
   refine WP .r (PV.fa dG rfl)<|(aZ) aO b.range<|(de) (fun g22=>?_) (fun g22=>?_)
   ·
    refine WP .r (PV.fa pC rfl)<|(aZ) e7 b.range<|?_;refine WP .r (PV.tY r6 rfl)<|(de) (fun e=>?_) (fun e=>?_)
    ·
     refine WP .r (PV.fa pC rfl)<|(aZ) e7 b.range<|(de) (fun f=>?_) (fun f=>?_)
     ·
      exact(gu) (by rw [d];simp only [g17,g22,e,f];first | rfl | simp) rfl
     refine WP .r (PV.fa dG rfl)<|(aZ) aO b.range<|(de) (fun h=>?_) (fun h=>?_)
     ·
      refine WP .r (PV.fa dG rfl)<|(aZ) aO b.range<|?_;exact(gu) (by rw [d];simp only [g17,g22,e,f,h];first | rfl | simp) rfl
     exact(gu) (by rw [d];simp only [g17,g22,e,f,h];first | rfl | simp) rfl
    refine aW ?_;exact(gu) (by rw [d];simp only [g17,g22,e];first | rfl | simp) rfl
   refine aW ?_;exact(gu) (by rw [d];simp only [g17,g22];first | rfl | simp) rfl
  refine aW ?_;refine aW ?_;exact(gu) (by rw [d];simp only [g17];first | rfl | simp) rfl
 rintro _ rfl;refine(bA) ?_;exact⟨rfl,c1⟩
theorem df :CR prog 25 #[k.val] w (.bool (ax k)):=by
 refine enter func25 rfl ntmps25 rfl<|?_;have c0:aU [] w w:=aU.refl _ _;refine bO ?_;refine WL.go rfl (OX.box rfl rfl rfl fun b1 w1 d b=>?_);have s1:=d.ext;have e:=d.iG c0;have c1:=c0.trans s1;refine ck ?_;refine WC.lE (t:=2) (v:=.bool (ax k)) (aU [] w1) ?_<|?_
 ·
  refine nx ?_;refine WP .r (PV.fa dG rfl)<|(aZ) aO b.range<|(de) (fun g6=>?_) (fun g6=>?_)
  ·
   refine aW ?_;exact(gu) (by unfold ax;simp only [g6];first | rfl | simp) (aU.refl _ _)
  refine WP .r (PV.fa dG rfl)<|(aZ) aO b.range<|(de) (fun g10=>?_) (fun g10=>?_)
  ·
   refine WP .r (PV.fa dG rfl)<|(aZ) aO b.range<|(de) (fun g15=>?_) (fun g15=>?_)
   ·
    refine WP .r (PV.fa dG rfl)<|(aZ) aO b.range<|(bY) adS (Cp (n:=k.kind)) ?_;rintro _ w2 ⟨rfl,s2⟩;have c2:=c1.trans s2;have b:=b.ext s2;exact(gu) (by unfold ax;simp only [g6,g10,g15];first | rfl | simp) s2
   exact(gu) (by unfold ax;simp only [g6,g10,g15];first | rfl | simp) (aU.refl _ _)
  exact(gu) (by unfold ax;simp only [g6,g10];first | rfl | simp) (aU.refl _ _)
 intro w2 s2;have c2:=c1.trans s2;have b:=b.ext s2;refine(bA) ?_;exact⟨rfl,c2⟩
theorem j9{q:Key} :CR prog 40 #[k.val,q.val] w (.int .i64 (bD k q)):=by
 refine enter func40 rfl ntmps40 rfl<|?_;have c0:aU [] w w:=aU.refl _ _;refine bO ?_;refine WL.go rfl (OX.box rfl rfl rfl fun b2 w1 g b=>?_);have s1:=g.ext;have i:=g.iG c0;have c1:=c0.trans s1;refine WL.go rfl (OX.box rfl rfl rfl fun b3 w2 e d=>?_);have s2:=e.ext;have j:=e.iG c1;have h:b2≠b3:=e.ne b.lt;have l:b3≠b2:=Ne.symm h;have c2:=c1.trans s2;have b:=b.ext s2;refine eD ?_;refine WP .r (PV.fa dG rfl)<|(aZ) aO b.range<|?_;refine WP .r (PV.fa dG rfl)<|(aZ) aO d.range<|(aS) (fun g5=>?_) fun g5=>?_
 ·
  simp at g5
  refine(bA) ?_;exact⟨by unfold bD;rw [if_pos g5],c2⟩
 simp at g5
 refine bO ?_;refine WP .r (PV.fa dG rfl)<|(aZ) aO b.range<|?_;refine WP .r (PV.fa dG rfl)<|(aZ) aO d.range<|(aS) (fun g11=>?_) fun g11=>?_
 ·
  simp at g11
  refine(bA) ?_;exact⟨by unfold bD;rw [if_neg (by omega),if_pos g11],c2⟩
 simp at g11
 refine dd ?_;refine WP .r (PV.fa pC rfl)<|(aZ) e7 b.range<|?_;refine WP .r (PV.fa pC rfl)<|(aZ) e7 d.range<|(bY) W8 (oN k.text q.text w2) ?_;rintro _ w3 ⟨rfl,f⟩;have c3:=c2.trans f;have b:=b.ext f;have d:=d.ext f;refine(bA) ?_;exact⟨by unfold bD;rw [if_neg (by omega),if_neg (by omega)],c3⟩
end Go.Rc

