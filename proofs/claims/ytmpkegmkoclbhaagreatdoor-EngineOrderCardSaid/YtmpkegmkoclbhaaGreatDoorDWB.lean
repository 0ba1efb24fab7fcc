/- Walks over the program, part WB. Conditions: as each theorem says. -/
import Derived.Test.YtmpkegmkoclbhaaGreatDoorDFacts
import Derived.Test.YtmpkegmkoclbhaaGreatDoorDBb
import Derived.Test.YtmpkegmkoclbhaaGreatDoorDBe
import Derived.Test.YtmpkegmkoclbhaaGreatDoorShelf
import Derived.Lib.UnsafeStr
set_option linter.all false
namespace Go.Rc
open Go Go.Proofs Go.Proofs.Tryz
variable {n:Int}{w:World}{aa:List aH}{A:Nat→Prop}{a:Option Addr}{r c:Nat}{k:Key}
set_option maxHeartbeats 400000
theorem H3{m:Int}(b:m≤4611686018427387904):CR prog 50 #[.int .i64 n,.int .i64 m] w (.int .i64 (if m<1 then 0 else n % m)):=by
 refine enter func50 rfl ntmps50 rfl<|?_;have c0:aT [] w w:=aT.refl _ _;refine(aS) (fun g6=>?_) fun g6=>?_
 ·
  simp at g6
  refine(bz) ?_;exact⟨by rw [if_pos (by omega)],c0⟩
 simp at g6
 have k1:=Int.tmod_lt_of_pos n (show 0<m by omega);have k2:=Int.lt_tmod_of_pos n (show 0<m by omega);refine fL ?_;refine WP .r (PV.rem rfl rfl (by omega))<|cq ?_;refine WP .r (PV.rem rfl rfl (by omega))<|(bz) ?_;refine⟨?_,c0⟩;rw [if_neg (by omega)]
 congr 2
 rw [Int.tmod_eq_emod_of_nonneg (by omega),Int.add_emod_right,Hg]
theorem sO(hr:fP A w a r c aa):CR prog 43 #[.slice a r c,.int .i64 n] w (.tuple #[.int .i64 (block aa n).1,.int .i64 (block aa n).2]):=by
 have hle:=hr.le;have hlen:=hr.len;refine enter func43 rfl ntmps43 rfl<|?_;have c0:aT [] w w:=aT.refl _ _;refine gV ?_;refine WC.ke (t:=15) (v:=.bool (decide (n<0) || decide ((r:Int)≤n))) (fun f=>w=f) ?_ ?_
 ·
  refine(db) (fun g10=>?_) (fun g10=>?_)
  ·
   exact(cA) (by simp only [g10];first | done | rfl | simp) rfl
  refine bO ?_;refine WP .r (PV.ie jk rfl)<|?_;exact(cA) (by simp only [g10];first | done | rfl | simp) rfl
 rintro _ rfl;refine(aS) (fun g15=>?_) fun g15=>?_
 ·
  have hb:=xv aa n (by simp at g15;omega);refine(AF) ?_;exact⟨by rw [hb],c0⟩
 obtain⟨b,rfl⟩:∃i:Nat,n=i:=⟨n.toNat,by simp at g15;omega⟩
 have e:b<aa.length:=by simp at g15;omega
 have B:block aa b=if aF aa b then ((bG aa b:Int),(dJ aa (b+1):Int)) else ((b:Int),(b:Int)+1):=by
  unfold block;rw [if_neg (by omega)];rfl
 refine aY ?_;refine nx ?_;refine WC.loop (σ:=Nat) (dn:=fun k=>[(0,.slice a r c),(1,.int .i64 (b:Int)),(6,.int .i64 (k:Int)),(7,.int .i64 ((b:Int)+1))]) (I:=fun k w'=>aT [] w w'∧k≤b∧bG aa k=bG aa b∧(aF aa b=false→k=b)) (μ:=fun k=>k) b Sub.t ⟨c0,Nat.le_refl _,rfl,fun _=>rfl⟩ ?_;rintro k w1 ⟨c1,hk,C,E⟩;refine bO ?_;obtain⟨b1,F,r1,q,_,⟨q1,G,H,rfl,_⟩,d,_⟩:=(hr.ext c1).at (ak e);refine WC.ke (t:=35) (v:=.bool (aa[b].ring && (decide ((0:Int)<k) && aF aa (k - 1)))) (fun f=>w1=f) ?_ ?_
 ·
  refine cq ?_;refine WP .r (PV.dU jk q rfl rfl (by omega))<|WP .r (PV.fa ky rfl)<|(a7) dH d<|(db) (fun g24=>?_) (fun g24=>?_)
  ·
   refine(db) (fun s=>?_) (fun s=>?_)
   ·
    obtain⟨b2,J,r2,u,_,⟨K,L,M,rfl,_⟩,x,_⟩:=(hr.ext c1).at (ak (show k - 1<aa.length by omega))
    simp at s
    have o:aa[k-1].ring=aF aa (k-1):=(bW (by omega)).symm;refine cq ?_;refine WP .r (PV.DU jk (k - 1) u rfl rfl (by omega) (by omega))<|WP .r (PV.fa ky rfl)<|(a7) dH x<|?_;exact(cA) (by simp [*]) rfl
   simp at s
   have N:¬(0<k):=by omega
   exact(cA) (by simp [*]) rfl
  exact(cA) (by simp [*]) rfl
 rintro _ rfl;refine(aS) (fun g=>?_) fun g=>?_
 ·
  simp at g
  obtain⟨g1,g2,g3⟩:=g;obtain⟨j,rfl⟩:∃j,k=j+1:=⟨k - 1,by omega⟩;refine kS ?_;refine EX.again j (Sub.k2 rfl rfl<|Sub.i1 rfl (by omega)<|Sub.cons rfl<|Sub.nil) ⟨c1,by omega,by rw [← C,pT (by simpa using g3)],fun h=>absurd (bW e) (by simp [h,g1])⟩ (by omega)
 simp at g
 have O:(block aa b).1=k:=by
  rw [B]
  by_cases d:aF aa b=true
  ·
   rw [if_pos d]
   show(bG aa b:Int)=k
   rw [← C,sn]
   by_cases h0:k=0
   ·
    exact .inl h0
   exact .inr (g (by rw [← bW e];exact d) (by omega))
  rw [if_neg d,E (by simpa using d)]
 refine ez ?_;refine WC.loop (σ:=Nat) (dn:=fun m=>[(0,.slice a r c),(1,.int .i64 (b:Int)),(6,.int .i64 (k:Int)),(7,.int .i64 (m:Int))]) (I:=fun m w'=>aT [] w w'∧b+1≤m∧m≤r∧dJ aa m=dJ aa (b+1)∧(aF aa b=false→m=b+1)) (μ:=fun m=>r - m) (b+1) Sub.t ⟨c1,Nat.le_refl _,by omega,rfl,fun _=>rfl⟩ ?_;rintro m w2 ⟨c2,R,S,D,P⟩;refine bO ?_;obtain⟨b1,F,r1,q,_,⟨q1,G,H,rfl,_⟩,d,_⟩:=(hr.ext c2).at (ak e);refine WC.ke (t:=55) (v:=.bool (aa[b].ring && (decide ((m:Int)<r) && aF aa m))) (fun f=>w2=f) ?_ ?_
 ·
  refine cq ?_;refine WP .r (PV.dU jk q rfl rfl (by omega))<|WP .r (PV.fa ky rfl)<|(a7) dH d<|(db) (fun p=>?_) (fun p=>?_)
  ·
   refine bO ?_;refine WP .r (PV.ie jk rfl)<|(db) (fun y=>?_) (fun y=>?_)
   ·
    simp at y
    obtain⟨b2,J,r2,u,_,⟨K,L,M,rfl,_⟩,x,_⟩:=(hr.ext c2).at (ak (show m<aa.length by omega));have o:aa[m].ring=aF aa m:=(bW (by omega)).symm
    have z:decide ((m:Int)<r)=true:=by simp;omega
    refine bO ?_;refine WP .r (PV.dU jk u rfl rfl (by omega))<|WP .r (PV.fa ky rfl)<|(a7) dH x<|?_;exact(cA) (by first | (rw [o,p,z];rfl) | simp [*]) rfl
   simp at y
   have N:¬(m<aa.length):=by omega
   exact(cA) (by first | (rw [o,p,z];rfl) | simp [*]) rfl
  refine aY ?_;exact(cA) (by first | (rw [o,p,z];rfl) | simp [*]) rfl
 rintro _ rfl;refine(aS) (fun l=>?_) fun l=>?_
 ·
  simp at l
  obtain⟨g1,g2,g3⟩:=l;refine kS ?_;refine EX.again (m+1) (Sub.k2 rfl rfl<|Sub.cons rfl<|Sub.i1 rfl (by omega)<|Sub.nil) ⟨c2,by omega,by omega,by rw [← D,← sk g3],fun h=>absurd (bW e) (by simp [h,g1])⟩ (by omega)
 simp at l
 have Q:(block aa b).2=m:=by
  rw [B]
  by_cases d:aF aa b=true
  ·
   rw [if_pos d]
   show(dJ aa (b+1):Int)=m
   rw [← D,tZ]
   rcases Nat.lt_or_ge m r with h0 | h0
   ·
    exact l (by rw [← bW e];exact d) (by omega)
   exact lR (by omega)
  rw [if_neg d,P (by simpa using d)];rfl
 refine aY ?_;refine(AF) ?_;exact⟨by rw [O,Q],c2⟩
theorem KD(w:World) (k:Nat) (os:Array Obj):aT [] w (Sort.grow (w.drewN k) os):=⟨rfl,rfl,rfl,by simp [Sort.grow],Nat.le_add_right _ _,fun i hi _=>Sort.heap_grow_old (w.drewN k) os (k:=i) hi⟩
theorem yc(w:World) (e:TypeId) (s:ByteArray):aT [] w (Lib.bytesWorld w e s):=aT.Bt (Lib.bytesWorld_below _ _ _) (by
 unfold Lib.bytesWorld
 rw [qb];exact Nat.le_succ _)
theorem u9(i:Nat):itoa (i:Int)=⟨(Lib.decDigits i).toArray⟩:=by
 unfold itoa Lib.itoa
 rw [if_neg (by omega),Int.toNat_natCast]
theorem jl(h0:0≤n) (h1:n≤99) (w:World):CR prog 32 #[.int .i64 n] w (.string (itoa n)):=by
 obtain⟨i,rfl⟩:∃i:Nat,n=i:=⟨n.toNat,by omega⟩
 exact(strconv_Itoa_small i (by omega) w).mono fun e w' ⟨he,hw⟩=>⟨by rw [he,u9],by rw [hw];exact aT.refl _ _⟩
theorem ma(ht:lD prog A w) (h0:-9223372036854775808≤n) (h1:n≤9223372036854775807):CR prog 32 #[.int .i64 n] w (.string (itoa n)):=
 (strconv_Itoa n h0 h1 w (by obtain⟨⟨b,_,_,h⟩,_⟩:=ht;exact h w rfl)).mono fun e w' ⟨he,k,os,hw⟩=>⟨he,by rw [hw];exact KD _ _ _⟩
theorem oM(s t:ByteArray) (w:World):CR prog 72 #[.string s,.string t] w (.int .i64 (Lib.compareBytes s.data.toList t.data.toList)):=
 (strings_Compare s t w).mono fun e w' ⟨he,hw⟩=>⟨he,by rw [hw];exact aT.refl _ _⟩
theorem yd{d acc:Nat}(b:d<10) (e:acc<100000000000000000):Lib.parseUint10 acc [UInt8.ofNat (48+d)]=.ok (acc*10+d):=by
 have h:(UInt8.ofNat (48+d)).toNat=48+d:=by
  rw [UInt8.toNat_ofNat']
  omega
 simp only [Lib.parseUint10,h];rw [if_pos (by omega),if_neg (by omega),if_neg (by omega)]
 congr 1
 omega
theorem vd(b:UInt8):∀(l:List UInt8) (acc u:Nat),Lib.parseUint10 acc l=.ok u→Lib.parseUint10 acc (l++[b])=Lib.parseUint10 u [b]
 | [],acc,u,h=>by
  simp only [Lib.parseUint10] at h
  injection h with h
  subst h
  rfl
 | c::r,acc,u,h=>by
  have d:=fun a=>vd b r a u
  generalize Lib.parseUint10 u [b]=X at d ⊢
  simp only [List.cons_append,Lib.parseUint10] at h ⊢
  split at h
  ·
   rename_i h1
   rw [if_pos h1]
   split at h
   ·
    cases h
   rename_i e
   rw [if_neg e]
   split at h
   ·
    cases h
   rename_i f
   rw [if_neg f];exact d _ h
  cases h
theorem ye(n:Nat) (hn:n≤99999):Lib.parseUint10 0 (Lib.decDigits n)=.ok n:=by
 by_cases h:n<10
 ·
  rw [Lib.decDigits,dif_pos h];have h1:=yd (acc:=0) h (by omega);rw [Nat.zero_mul,Nat.zero_add] at h1;exact h1
 rw [Lib.decDigits,dif_neg h,vd _ _ _ _ (ye (n / 10) (by omega)),yd (by omega) (by omega)]
 congr 1
 omega
termination_by n
decreasing_by omega
theorem Ch(n:Nat):∃b r,Lib.decDigits n=b::r∧48≤b.toNat:=by
 by_cases h:n<10
 ·
  refine⟨UInt8.ofNat (48+n),[],by rw [Lib.decDigits,dif_pos h],?_⟩;rw [UInt8.toNat_ofNat']
  omega
 obtain⟨b,r,h1,d⟩:=Ch (n / 10);exact⟨b,r++[UInt8.ofNat (48+n % 10)],by rw [Lib.decDigits,dif_neg h,h1,List.cons_append],d⟩
termination_by n
decreasing_by omega
theorem G0(n:Nat):(Lib.decDigits n).length≤n+1:=by
 by_cases h:n<10
 ·
  rw [Lib.decDigits,dif_pos h,List.length_singleton]
  omega
 have h1:=G0 (n / 10);rw [Lib.decDigits,dif_neg h,List.length_append,List.length_singleton]
 omega
termination_by n
decreasing_by omega
theorem KF{n:Nat}(hn:n≤99999):Lib.atoiAll (Lib.decDigits n)=.ok (n:Int):=by
 obtain⟨b,r,h1,e⟩:=Ch n;have d:=ye n hn;rw [h1] at d ⊢;rw [Lib.atoiAll_plain b r (by omega) (by omega)]
 unfold Lib.parseMag
 rw [if_neg (by simp),d]
 show(if 9223372036854775808≤n then Lib.NumEnd.range else .ok (n:Int))=.ok (n:Int)
 rw [if_neg (by omega)]
theorem Ci{n:Nat}(h:n≤99999) (w:World):CR prog 142 #[.string (itoa n)] w (.tuple #[.int .i64 (n:Int),.nilIface]):=by
 have b:(itoa (n:Int)).data.toList=Lib.decDigits n:=(congrArg (fun x:ByteArray=>x.data.toList) (u9 n)).trans rfl
 refine(strconv_Atoi_ok (itoa n) ?_ n (by rw [b];exact KF h) w).mono fun e w' ⟨he,hw⟩=>⟨he,?_⟩
 ·
  have h1:=G0 n;rw [u9]
  show(Lib.decDigits n).toArray.size≤9223372036854775806
  rw [List.size_toArray]
  omega
 rcases hw with rfl | ⟨t,rfl⟩
 ·
  exact aT.refl _ _
 exact yc _ _ _
theorem Ff{n:Nat}(h:n≤99) (w:World):CR prog 142 #[.string (itoa n)] w (.tuple #[.int .i64 (n:Int),.nilIface]):=Ci (by omega) w
set_option maxHeartbeats 400000
theorem Cj :CR prog 132 #[.int .i64 n] w (.bool (kI n)):=by
 refine enter func132 rfl ntmps132 rfl<|?_;have c0:aT [] w w:=aT.refl _ _;refine fL ?_;refine WC.lA (t:=2) (v:=.bool (kI n)) (fun b=>w=b) ?_ ?_
 ·
  refine(db) (fun g5=>?_) (fun g5=>?_)
  ·
   refine aY ?_;exact(gH) (by unfold kI;simp only [g5];first | rfl | simp) rfl
  refine(db) (fun g9=>?_) (fun g9=>?_)
  ·
   exact(gH) (by unfold kI;simp only [g5,g9];first | rfl | simp) rfl
  refine(db) (fun g13=>?_) (fun g13=>?_)
  ·
   exact(gH) (by unfold kI;simp only [g5,g9,g13];first | rfl | simp) rfl
  exact(gH) (by unfold kI;simp only [g5,g9,g13];first | rfl | simp) rfl
 rintro _ rfl;refine(bz) ?_;exact⟨rfl,c0⟩
theorem ew :CR prog 38 #[k.val] w (.bool (aw k)):=by
 refine enter func38 rfl ntmps38 rfl<|?_;have c0:aT [] w w:=aT.refl _ _;refine bO ?_;refine WL.go rfl (OX.box rfl rfl rfl fun b1 w1 d b=>?_);have s1:=d.ext;have f:=d.iI c0;have c1:=c0.trans s1;refine cy ?_;refine WC.lA (t:=2) (v:=.bool (aw k)) (fun e=>w1=e) ?_ ?_
 ·
  refine nx ?_;refine WP .r (PV.fa dF rfl)<|(a7) aP b.range<|(db) (fun g6=>?_) (fun g6=>?_)
  ·
   exact(gH) (by unfold aw;simp only [g6];first | rfl | simp) rfl
  refine WP .r (PV.fa dF rfl)<|(a7) aP b.range<|(db) (fun g11=>?_) (fun g11=>?_)
  ·
   exact(gH) (by unfold aw;simp only [g6,g11];first | rfl | simp) rfl
  refine WP .r (PV.fa dF rfl)<|(a7) aP b.range<|?_;exact(gH) (by unfold aw;simp only [g6,g11];first | rfl | simp) rfl
 rintro _ rfl;refine(bz) ?_;exact⟨rfl,c1⟩
theorem jm :CR prog 11 #[.int .i64 n] w ((cF n).val):=by
 refine enter func11 rfl ntmps11 rfl<|?_;have c0:aT [] w w:=aT.refl _ _;refine bO ?_;refine WL.go rfl (OX.alloc E7 rfl fun b2 w1 d b=>?_);have s1:=d.ext;have e:=d.iI c0;have c1:=c0.trans s1;refine cy ?_;refine WC.ke (t:=8) (v:=.bool (decide (n<0) || decide (99<n))) (fun f=>w1=f) ?_ ?_
 ·
  refine(db) (fun g5=>?_) (fun g5=>?_)
  ·
   exact(cA) (by simp only [g5];first | rfl | simp) rfl
  exact(cA) (by simp only [g5];first | rfl | simp) rfl
 rintro _ rfl;refine(aS) (fun g8=>?_) fun g8=>?_
 ·
  have hk:cF n=eS:=by unfold cF;rw [if_pos (by simp at g8;omega)]
  refine bO ?_;refine WP .r (PV.bB (us:=[.int .i64 0,.string ⟨#[]⟩]) Cd rfl rfl rfl)<|?_;refine WL.go rfl (OX.mr hP b rfl rfl rfl rfl rfl fun w2 s2 _ b=>?_);have c2:=c1.own s2 e;refine(kT) ao b.range<|?_;rw [hk];exact⟨rfl,c2⟩
 simp at g8
 have hk:cF n=⟨30,itoa n⟩:=by unfold cF;rw [if_neg (by omega)]
 refine(bY) NR (jl (n:=n) (by omega) (by omega) w1) ?_;rintro _ w2 ⟨rfl,s2⟩;have c2:=c1.trans s2;have b:=b.ext s2;refine WP .r (PV.bB (us:=[.int .i64 30,.string (itoa n)]) Cd rfl rfl rfl)<|?_;refine WL.go rfl (OX.mr hP b rfl rfl rfl rfl rfl fun w3 g _ b=>?_);have c3:=c2.own g e;refine(kT) ao b.range<|?_;rw [hk];exact⟨rfl,c3⟩
theorem gS(hr:fP A w a r c aa):CR prog 17 #[.slice a r c,.int .i64 n] w ((aM aa n).val):=by
 have hle:=hr.le;have hlen:=hr.len;refine enter func17 rfl ntmps17 rfl<|?_;have c0:aT [] w w:=aT.refl _ _;refine bO ?_;refine WL.go rfl (OX.alloc E7 rfl fun b4 w1 m b=>?_);have s1:=m.ext;have f:=m.iI c0;have c1:=c0.trans s1;refine cy ?_;refine WC.ke (t:=17) (v:=.bool (decide (n<0) || (decide ((r:Int)≤n) || decide (99<n)))) (fun y=>w1=y) ?_ ?_
 ·
  refine(db) (fun g8=>?_) (fun g8=>?_)
  ·
   exact(cA) (by simp only [g8];first | rfl | simp) rfl
  refine bO ?_;refine WP .r (PV.ie jk rfl)<|(db) (fun g14=>?_) (fun g14=>?_)
  ·
   exact(cA) (by simp only [g8,g14];first | rfl | simp) rfl
  exact(cA) (by simp only [g8,g14];first | rfl | simp) rfl
 rintro _ rfl;refine(aS) (fun g17=>?_) fun g17=>?_
 ·
  have hk:aM aa n=eS:=by unfold aM;rw [if_pos (by simp at g17;omega)]
  refine bO ?_;refine WP .r (PV.bB (us:=[.int .i64 0,.string ⟨#[]⟩]) Cd rfl rfl rfl)<|?_;refine WL.go rfl (OX.mr hP b rfl rfl rfl rfl rfl fun w2 s2 _ b=>?_);have c2:=c1.own s2 f;refine(kT) ao b.range<|?_;rw [hk];exact⟨rfl,c2⟩
 simp at g17
 obtain⟨i,rfl⟩:∃i:Nat,n=i:=⟨n.toNat,by omega⟩
 have hi:i<aa.length:=by omega
 have hk:aM aa i=⟨if aF aa i then 32 else 31,itoa i⟩:=by unfold aM;rw [if_neg (by omega)];rfl
 have o:=bW hi;refine(bY) NR (jl (n:=(i:Int)) (by omega) (by omega) w1) ?_;rintro _ w2 ⟨rfl,s2⟩;have c2:=c1.trans s2;have b:=b.ext s2;refine WP .r (PV.bB (us:=[.int .i64 31,.string (itoa i)]) Cd rfl rfl rfl)<|?_;refine WL.go rfl (OX.alloc E7 rfl fun b5 w3 g d=>?_);have p:=g.ext;have q:=g.iI c2;have h:b4≠b5:=g.ne b.lt;have s:b5≠b4:=Ne.symm h;have c3:=c2.trans p;have b:=b.ext p;refine WL.go rfl (OX.mr hP d rfl rfl rfl rfl rfl fun w4 u _ d=>?_);have c4:=c3.own u q;have b:=b.bX u (by simp [h]);refine cy ?_;obtain⟨b1,D,r1,z,_,⟨q1,E,F,rfl,_⟩,B,_⟩:=(hr.ext c4).at (ak hi);refine cq ?_;refine WP .r (PV.dU jk z rfl rfl (by omega))<|WP .r (PV.fa ky rfl)<|(a7) dH B<|(aS) (fun j=>?_) fun j=>?_
 ·
  have l:aM aa i=⟨32,itoa i⟩:=by rw [hk,o,j];rfl
  refine nx ?_;refine WP .r (PV.fa dF rfl)<|?_;refine WL.go rfl (OX.st GS d rfl rfl (by first | (simp [nth];done) | exact Vr rfl) rfl rfl fun w5 e _ d=>?_);have c5:=c4.own e q;have b:=b.bX e (by simp [h]);refine(aZ) ao d.range<|?_;refine WL.go rfl (OX.mr hP b rfl rfl rfl rfl rfl fun w6 x _ b=>?_);have C:=c5.own x f;have d:=d.bX x (by simp [s]);refine(kT) ao b.range<|?_;rw [l];exact⟨rfl,C⟩
 have l:aM aa i=⟨31,itoa i⟩:=by rw [hk,o,j];rfl
 refine(aZ) ao d.range<|?_;refine WL.go rfl (OX.mr hP b rfl rfl rfl rfl rfl fun w5 e _ b=>?_);have c5:=c4.own e f;have d:=d.bX e (by simp [s]);refine(kT) ao b.range<|?_;rw [l];exact⟨rfl,c5⟩
theorem rU{l:List Key}(hl:yv A w a r c l):CR prog 90 #[.slice a r c,k.val] w (.bool (decide (k∈l))):=by
 have hle:=hl.le;have hlen:=hl.len;refine enter func90 rfl ntmps90 rfl<|?_;have c0:aT [] w w:=aT.refl _ _;refine bO ?_;refine WL.go rfl (OX.box rfl rfl rfl fun b3 w1 j b=>?_);have s1:=j.ext;have D:=j.iI c0;have c1:=c0.trans s1;refine ez ?_;refine WP .r (PV.ie eA rfl)<|cy ?_;refine WC.loop (σ:=Nat × World) (dn:=fun s=>[(3,.pointer (some ⟨b3,0,none⟩)),(7,.slice a r c),(8,.int .i64 (r:Int)),(9,.int .i64 (s.1:Int))]) (I:=fun s w'=>aT [] w w'∧bU w' b3 40 [.int .i64 k.kind,.string k.text]∧s.1≤r∧k∉l.take s.1) (μ:=fun s=>r - s.1) (0,w) Sub.t ⟨c1,b,by omega,by simp⟩ ?_;rintro⟨i,_⟩ w2 ⟨c2,b,hi,m⟩;refine(aS) (fun g10=>?_) fun g10=>?_
 ·
  simp at g10
  have d:i<l.length:=by omega
  refine dd ?_;obtain⟨b1,E,r1,y,_,rfl,z,_⟩:=(hl.ext c2).at (ak d);refine nx ?_;refine WP .r (PV.dU eA y rfl rfl (by omega))<|(aZ) ao z<|?_;refine WL.go rfl (OX.alloc E7 rfl fun o w3 f g=>?_);have u:=f.ext;have B:=f.iI c2;have v:b3≠o:=f.ne b.lt;have F:o≠b3:=Ne.symm v;have c3:=c2.trans u;have b:=b.ext u;refine WL.go rfl (OX.mr hP g rfl rfl rfl rfl rfl fun w4 x _ g=>?_);have c4:=c3.own x B;have b:=b.bX x (by simp [v]);refine(aZ) ao g.range<|(aZ) ao b.range<|?_;refine WP .r (PV.DX fI (p:=l[i]) (q:=k) rfl rfl)<|(aS) (fun g15=>?_) fun g15=>?_
  ·
   simp at g15
   refine(bz) ?_;exact⟨by rw [decide_eq_true (g15 ▸ List.getElem_mem d)],c4⟩
  simp at g15
  refine ez ?_;refine EX.again (i+1,w) (Sub.k2 rfl rfl<|Sub.cons rfl<|Sub.i1 rfl (by simp)<|Sub.nil) ⟨c4,b,by omega,by have h:=List.take_succ_eq_append_getElem d;simp only [h,List.mem_append,List.mem_singleton,not_or];exact⟨m,fun e=>g15 e.symm⟩⟩ (by simp;omega)
 simp at g10
 have C:k∉l:=by rw [← List.take_of_length_le (show l.length≤i by omega)];exact m
 refine(bz) ?_;exact⟨by rw [decide_eq_false C],c2⟩
theorem oN{s:ByteArray} :CR prog 122 #[.string s] w (.int .i64 (dP s)):=by
 have he:=xw s;have q:=ua s;refine enter func122 rfl ntmps122 rfl<|?_;have c0:aT [] w w:=aT.refl _ _;refine ez ?_;refine WC.ke (t:=20) (v:=.bool (lS s)) (fun g=>w=g) ?_ ?_
 ·
  refine(db) (fun g7=>?_) (fun g7=>?_)
  ·
   refine aY ?_;exact(cA) (by unfold lS;first | (simp only [g7,b];done) | (simp only [g7,b];rfl) | (simp only [g7];rfl)) rfl
  skip
  refine nx ?_;refine WP .r (PV.tR rP rfl)<|(db) (fun g12=>?_) (fun g12=>?_)
  ·
   exact(cA) (by unfold lS;first | (simp only [g7,g12,b];done) | (simp only [g7,g12,b];rfl) | (simp only [g7,g12];rfl)) rfl
  have o:=of_decide_eq_false g7;rw [he] at o;obtain⟨b0,d,b⟩:=Bl s (by omega);refine nx ?_;refine WP .r (PV.Mb rP (i:=0) rfl rfl d)<|(db) (fun g16=>?_) (fun g16=>?_)
  ·
   exact(cA) (by unfold lS;first | (simp only [g7,g12,g16,b];done) | (simp only [g7,g12,g16,b];rfl) | (simp only [g7,g12,g16];rfl)) rfl
  exact(cA) (by unfold lS;first | (simp only [g7,g12,g16,b];done) | (simp only [g7,g12,g16,b];rfl) | (simp only [g7,g12,g16];rfl)) rfl
 rintro _ rfl;refine(aS) (fun g20=>?_) fun g20=>?_
 ·
  have e:dP s = -1:=by rw [sq];rw [if_pos g20]
  refine(bz) ?_;rw [e];exact⟨rfl,c0⟩
 have e:dP s=decFrom s.data.toList 0:=by rw [sq,g20];rfl
 have u:=Hi g20;refine aY ?_;refine bO ?_;refine WC.loop (σ:=Nat × Nat) (dn:=fun p=>[(0,.string s),(3,.int .i64 (p.2:Int)),(4,.int .i64 (p.1:Int))]) (I:=fun p w'=>aT [] w w'∧p.1≤s.size∧p.2<10 ^ p.1∧decFrom s.data.toList 0=decFrom (s.data.toList.drop p.1) p.2) (μ:=fun p=>s.size - p.1) (0,0) Sub.t ⟨c0,by simp,by simp,by simp⟩ ?_;rintro⟨i,n⟩ w1 ⟨c1,hi,hn,f⟩;simp only at hi hn f;have x:n<10 ^ 9:=Nat.lt_of_lt_of_le hn (Nat.pow_le_pow_right (by omega) (by omega));refine dd ?_;refine WP .r (PV.tR rP rfl)<|(aS) (fun g24=>?_) fun g24=>?_
 ·
  simp at g24
  obtain⟨b0,d,h⟩:=yA s (n:=(n:Int)) g24;refine fL ?_;refine WC.ke (t:=36) (v:=.bool (decide ((b0.toNat:Int)<48) || decide (57<(b0.toNat:Int)))) (fun g=>w1=g) ?_ ?_
  ·
   refine cq ?_;refine WP .r (PV.Mb rP (i:=i) rfl rfl d)<|(db) (fun j=>?_) (fun j=>?_)
   ·
    exact(cA) (by simp only [j];first | rfl | simp) rfl
   refine bO ?_;refine WP .r (PV.Mb rP (i:=i) rfl rfl d)<|?_;exact(cA) (by simp only [j];first | rfl | simp) rfl
  rintro _ rfl;refine(aS) (fun l=>?_) fun l=>?_
  ·
   have m:dP s = -1:=by rw [e,f,h,if_pos (by simp at l;omega)]
   refine(bz) ?_;rw [m];exact⟨rfl,c1⟩
  simp at l
  rw [if_neg (by omega)] at h;have y:10 ^ (i+1)=10*10 ^ i:=Nat.pow_succ';refine cy ?_;refine WP .r (PV.mul rfl rfl (by omega) (by omega))<|bO ?_;refine WP .r (PV.Mb rP (i:=i) rfl rfl d)<|WP .r (PV.Vo rfl rfl (by omega) (by omega))<|WP .r (PV.conv ⟨_,ac6⟩ ac4 rfl (by omega) (by omega))<|jM ?_;refine EX.again (i+1,10*n+(b0.toNat - 48)) (Sub.cons rfl<|Sub.i1 rfl (by simp;omega)<|Sub.i1 rfl (by simp)<|Sub.nil) ⟨c1,by simp;omega,by simp only;omega,by simp only;rw [f,h];congr 1;omega⟩ (by simp only;omega)
 simp at g24
 have m:dP s=n:=by rw [e,f,List.drop_eq_nil_of_le (by rw [Array.length_toList];exact g24)];rfl
 refine(bz) ?_;rw [m];exact⟨rfl,c1⟩
theorem j0 :CR prog 75 #[k.val] w (.int .i64 (number k)):=by
 refine enter func75 rfl ntmps75 rfl<|?_;have c0:aT [] w w:=aT.refl _ _;refine bO ?_;refine WL.go rfl (OX.box rfl rfl rfl fun b1 w1 d b=>?_);have s1:=d.ext;have f:=d.iI c0;have c1:=c0.trans s1;refine fL ?_;refine WP .r (PV.fa py rfl)<|(a7) fy b.range<|(bY) Pb (oN (s:=k.text)) ?_;rintro _ w2 ⟨rfl,s2⟩;have c2:=c1.trans s2;have b:=b.ext s2;refine cy ?_;refine WC.ke (t:=18) (v:=.bool (decide (30≤k.kind) && (decide (k.kind≤32) && decide (dP k.text≤99)))) (fun e=>w2=e) ?_ ?_
 ·
  refine nx ?_;refine WP .r (PV.fa dF rfl)<|(a7) aP b.range<|(db) (fun g10=>?_) (fun g10=>?_)
  ·
   refine WP .r (PV.fa dF rfl)<|(a7) aP b.range<|(db) (fun g15=>?_) (fun g15=>?_)
   ·
    exact(cA) (by simp only [g10,g15];first | rfl | simp) rfl
   exact(cA) (by simp only [g10,g15];first | rfl | simp) rfl
  exact(cA) (by simp only [g10];first | rfl | simp) rfl
 rintro _ rfl;refine(aS) (fun g18=>?_) fun g18=>?_
 ·
  simp at g18
  have hn:number k=dP k.text:=by unfold number;rw [if_pos g18]
  refine(bz) ?_;rw [hn];exact⟨rfl,c2⟩
 simp at g18
 have hn:number k = -1:=by unfold number;rw [if_neg (by intro h;have:=g18 h.1 h.2.1;omega)]
 refine(bz) ?_;rw [hn];exact⟨rfl,c2⟩
theorem iS :CR prog 37 #[k.val] w (.bool (fQ k)):=by
 refine enter func37 rfl ntmps37 rfl<|?_;have c0:aT [] w w:=aT.refl _ _;refine bO ?_;refine WL.go rfl (OX.box rfl rfl rfl fun b1 w1 i b=>?_);have s1:=i.ext;have j:=i.iI c0;have c1:=c0.trans s1;refine dd ?_;refine WC.ke (t:=10) (v:=.bool (decide (30≤k.kind) && decide (k.kind≤32))) (fun g=>w1=g) ?_ ?_
 ·
  refine nx ?_;refine WP .r (PV.fa dF rfl)<|(a7) aP b.range<|(db) (fun g6=>?_) (fun g6=>?_)
  ·
   refine WP .r (PV.fa dF rfl)<|(a7) aP b.range<|?_;exact(cA) (by simp only [g6];first | rfl | simp) rfl
  exact(cA) (by simp only [g6];first | rfl | simp) rfl
 rintro _ rfl;refine(aS) (fun g10=>?_) fun g10=>?_
 ·
  simp at g10
  refine(aZ) ao b.range<|(bY) NS (j0 (k:=k)) ?_;rintro _ w2 ⟨rfl,s2⟩;have c2:=c1.trans s2;have b:=b.ext s2;refine(bz) ?_;exact⟨by unfold fQ;rw [if_pos (by omega)],c2⟩
 simp at g10
 have d:=Bm k (by omega);refine cq ?_;refine WC.lA (t:=2) (v:=.bool (fQ k)) (fun g=>w1=g) ?_ ?_
 ·
  refine nx ?_;refine WP .r (PV.fa dF rfl)<|(a7) aP b.range<|(db) (fun g17=>?_) (fun g17=>?_)
  ·
   refine WP .r (PV.fa dF rfl)<|(a7) aP b.range<|(db) (fun g22=>?_) (fun g22=>?_)
   ·
    refine WP .r (PV.fa py rfl)<|(a7) fy b.range<|?_;refine WP .r (PV.tR rP rfl)<|(db) (fun e=>?_) (fun e=>?_)
    ·
     refine WP .r (PV.fa py rfl)<|(a7) fy b.range<|(db) (fun f=>?_) (fun f=>?_)
     ·
      exact(gH) (by rw [d];simp only [g17,g22,e,f];first | rfl | simp) rfl
     refine WP .r (PV.fa dF rfl)<|(a7) aP b.range<|(db) (fun h=>?_) (fun h=>?_)
     ·
      refine WP .r (PV.fa dF rfl)<|(a7) aP b.range<|?_;exact(gH) (by rw [d];simp only [g17,g22,e,f,h];first | rfl | simp) rfl
     exact(gH) (by rw [d];simp only [g17,g22,e,f,h];first | rfl | simp) rfl
    refine aY ?_;exact(gH) (by rw [d];simp only [g17,g22,e];first | rfl | simp) rfl
   refine aY ?_;exact(gH) (by rw [d];simp only [g17,g22];first | rfl | simp) rfl
  refine aY ?_;refine aY ?_;exact(gH) (by rw [d];simp only [g17];first | rfl | simp) rfl
 rintro _ rfl;refine(bz) ?_;exact⟨rfl,c1⟩
theorem de :CR prog 86 #[k.val] w (.bool (az k)):=by
 refine enter func86 rfl ntmps86 rfl<|?_;have c0:aT [] w w:=aT.refl _ _;refine bO ?_;refine WL.go rfl (OX.box rfl rfl rfl fun b1 w1 d b=>?_);have s1:=d.ext;have e:=d.iI c0;have c1:=c0.trans s1;refine cy ?_;refine WC.lA (t:=2) (v:=.bool (az k)) (aT [] w1) ?_<|?_
 ·
  refine nx ?_;refine WP .r (PV.fa dF rfl)<|(a7) aP b.range<|(db) (fun g6=>?_) (fun g6=>?_)
  ·
   refine aY ?_;exact(gH) (by unfold az;simp only [g6];first | rfl | simp) (aT.refl _ _)
  refine WP .r (PV.fa dF rfl)<|(a7) aP b.range<|(db) (fun g10=>?_) (fun g10=>?_)
  ·
   refine WP .r (PV.fa dF rfl)<|(a7) aP b.range<|(db) (fun g15=>?_) (fun g15=>?_)
   ·
    refine WP .r (PV.fa dF rfl)<|(a7) aP b.range<|(bY) Xp (Cj (n:=k.kind)) ?_;rintro _ w2 ⟨rfl,s2⟩;have c2:=c1.trans s2;have b:=b.ext s2;exact(gH) (by unfold az;simp only [g6,g10,g15];first | rfl | simp) s2
   exact(gH) (by unfold az;simp only [g6,g10,g15];first | rfl | simp) (aT.refl _ _)
  exact(gH) (by unfold az;simp only [g6,g10];first | rfl | simp) (aT.refl _ _)
 intro w2 s2;have c2:=c1.trans s2;have b:=b.ext s2;refine(bz) ?_;exact⟨rfl,c2⟩
theorem kb{q:Key} :CR prog 34 #[k.val,q.val] w (.int .i64 (bC k q)):=by
 refine enter func34 rfl ntmps34 rfl<|?_;have c0:aT [] w w:=aT.refl _ _;refine bO ?_;refine WL.go rfl (OX.box rfl rfl rfl fun b2 w1 g b=>?_);have s1:=g.ext;have i:=g.iI c0;have c1:=c0.trans s1;refine WL.go rfl (OX.box rfl rfl rfl fun b3 w2 e d=>?_);have s2:=e.ext;have j:=e.iI c1;have h:b2≠b3:=e.ne b.lt;have l:b3≠b2:=Ne.symm h;have c2:=c1.trans s2;have b:=b.ext s2;refine ez ?_;refine WP .r (PV.fa dF rfl)<|(a7) aP b.range<|?_;refine WP .r (PV.fa dF rfl)<|(a7) aP d.range<|(aS) (fun g5=>?_) fun g5=>?_
 ·
  simp at g5
  refine(bz) ?_;exact⟨by unfold bC;rw [if_pos g5],c2⟩
 simp at g5
 refine bO ?_;refine WP .r (PV.fa dF rfl)<|(a7) aP b.range<|?_;refine WP .r (PV.fa dF rfl)<|(a7) aP d.range<|(aS) (fun g11=>?_) fun g11=>?_
 ·
  simp at g11
  refine(bz) ?_;exact⟨by unfold bC;rw [if_neg (by omega),if_pos g11],c2⟩
 simp at g11
 refine dd ?_;refine WP .r (PV.fa py rfl)<|(a7) fy b.range<|?_;refine WP .r (PV.fa py rfl)<|(a7) fy d.range<|(bY) WV (oM k.text q.text w2) ?_;rintro _ w3 ⟨rfl,f⟩;have c3:=c2.trans f;have b:=b.ext f;have d:=d.ext f;refine(bz) ?_;exact⟨by unfold bC;rw [if_neg (by omega),if_neg (by omega)],c3⟩
end Go.Rc

