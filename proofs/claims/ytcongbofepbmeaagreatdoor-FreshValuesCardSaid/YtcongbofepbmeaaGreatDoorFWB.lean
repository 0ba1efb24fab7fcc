/- Walks over the program, part WB. Conditions: as each theorem says. -/
import Derived.Test.YtcongbofepbmeaaGreatDoorFFacts
import Derived.Test.YtcongbofepbmeaaGreatDoorFBb
import Derived.Test.YtcongbofepbmeaaGreatDoorFBe
import Derived.Test.YtcongbofepbmeaaGreatDoorShelf
import Derived.Lib.UnsafeStr
set_option linter.all false
namespace Go.Rc
open Go Go.Proofs Go.Proofs.Tryz
variable {n:Int}{w:World}{aa:List aA}{A:Nat→Prop}{a:Option Addr}{r c:Nat}{k:Key}
set_option maxHeartbeats 400000
theorem qu{m:Int}(b:m≤4611686018427387904):CR prog 8 #[.int .i64 n,.int .i64 m] w (.int .i64 (if m<1 then 0 else n % m)):=by
 refine enter func8 rfl ntmps8 rfl<|?_;have c0:aQ [] w w:=aQ.refl _ _;refine(aN) (fun g6=>?_) fun g6=>?_
 ·
  simp at g6
  refine(bm) ?_;exact⟨by rw [if_pos (by omega)],c0⟩
 simp at g6
 have k1:=Int.tmod_lt_of_pos n (show 0<m by omega);have k2:=Int.lt_tmod_of_pos n (show 0<m by omega);refine gw ?_;refine WP .r (PV.rem rfl rfl (by omega))<|cL ?_;refine WP .r (PV.rem rfl rfl (by omega))<|(bm) ?_;refine⟨?_,c0⟩;rw [if_neg (by omega)]
 congr 2
 rw [Int.tmod_eq_emod_of_nonneg (by omega),Int.add_emod_right,Fm]
theorem rB(hr:dX A w a r c aa):CR prog 53 #[.slice a r c,.int .i64 n] w (.tuple #[.int .i64 (block aa n).1,.int .i64 (block aa n).2]):=by
 have hle:=hr.le;have hlen:=hr.len;refine enter func53 rfl ntmps53 rfl<|?_;have c0:aQ [] w w:=aQ.refl _ _;refine iC ?_;refine WC.jH (t:=15) (v:=.bool (decide (n<0) || decide ((r:Int)≤n))) (fun f=>w=f) ?_ ?_
 ·
  refine(bW) (fun g10=>?_) (fun g10=>?_)
  ·
   exact(br) (by simp only [g10];first | done | rfl | simp) rfl
  refine bz ?_;refine WP .r (PV.gE gZ rfl)<|?_;exact(br) (by simp only [g10];first | done | rfl | simp) rfl
 rintro _ rfl;refine(aN) (fun g15=>?_) fun g15=>?_
 ·
  have hb:=wN aa n (by simp at g15;omega);refine(qX) ?_;exact⟨by rw [hb],c0⟩
 obtain⟨b,rfl⟩:∃i:Nat,n=i:=⟨n.toNat,by simp at g15;omega⟩
 have e:b<aa.length:=by simp at g15;omega
 have B:block aa b=if ay aa b then ((bg aa b:Int),(dB aa (b+1):Int)) else ((b:Int),(b:Int)+1):=by
  unfold block;rw [if_neg (by omega)];rfl
 refine aO ?_;refine nx ?_;refine WC.loop (σ:=Nat) (dm:=fun k=>[(0,.slice a r c),(1,.int .i64 (b:Int)),(6,.int .i64 (k:Int)),(7,.int .i64 ((b:Int)+1))]) (I:=fun k w'=>aQ [] w w'∧k≤b∧bg aa k=bg aa b∧(ay aa b=false→k=b)) (μ:=fun k=>k) b Sub.t ⟨c0,Nat.le_refl _,rfl,fun _=>rfl⟩ ?_;rintro k w1 ⟨c1,hk,C,E⟩;refine bz ?_;obtain⟨b1,F,r1,q,_,⟨q1,G,H,rfl,_⟩,d,_⟩:=(hr.ext c1).at (ai e);refine WC.jH (t:=35) (v:=.bool (aa[b].ring && (decide ((0:Int)<k) && ay aa (k - 1)))) (fun f=>w1=f) ?_ ?_
 ·
  refine cL ?_;refine WP .r (PV.ei gZ q rfl rfl (by omega))<|WP .r (PV.fa jU rfl)<|(aU) dM d<|(bW) (fun g24=>?_) (fun g24=>?_)
  ·
   refine(bW) (fun s=>?_) (fun s=>?_)
   ·
    obtain⟨b2,J,r2,u,_,⟨K,L,M,rfl,_⟩,x,_⟩:=(hr.ext c1).at (ai (show k - 1<aa.length by omega))
    simp at s
    have o:aa[k-1].ring=ay aa (k-1):=(bD (by omega)).symm;refine cL ?_;refine WP .r (PV.B5 gZ (k - 1) u rfl rfl (by omega) (by omega))<|WP .r (PV.fa jU rfl)<|(aU) dM x<|?_;exact(br) (by simp [*]) rfl
   simp at s
   have N:¬(0<k):=by omega
   exact(br) (by simp [*]) rfl
  exact(br) (by simp [*]) rfl
 rintro _ rfl;refine(aN) (fun g=>?_) fun g=>?_
 ·
  simp at g
  obtain⟨g1,g2,g3⟩:=g;obtain⟨j,rfl⟩:∃j,k=j+1:=⟨k - 1,by omega⟩;refine kQ ?_;refine EX.again j (Sub.k2 rfl rfl<|Sub.ib rfl (by omega)<|Sub.cons rfl<|Sub.nil) ⟨c1,by omega,by rw [← C,oW (by simpa using g3)],fun h=>absurd (bD e) (by simp [h,g1])⟩ (by omega)
 simp at g
 have O:(block aa b).1=k:=by
  rw [B]
  by_cases d:ay aa b=true
  ·
   rw [if_pos d]
   show(bg aa b:Int)=k
   rw [← C,qQ]
   by_cases h0:k=0
   ·
    exact .inl h0
   exact .inr (g (by rw [← bD e];exact d) (by omega))
  rw [if_neg d,E (by simpa using d)]
 refine eP ?_;refine WC.loop (σ:=Nat) (dm:=fun m=>[(0,.slice a r c),(1,.int .i64 (b:Int)),(6,.int .i64 (k:Int)),(7,.int .i64 (m:Int))]) (I:=fun m w'=>aQ [] w w'∧b+1≤m∧m≤r∧dB aa m=dB aa (b+1)∧(ay aa b=false→m=b+1)) (μ:=fun m=>r - m) (b+1) Sub.t ⟨c1,Nat.le_refl _,by omega,rfl,fun _=>rfl⟩ ?_;rintro m w2 ⟨c2,R,S,D,P⟩;refine bz ?_;obtain⟨b1,F,r1,q,_,⟨q1,G,H,rfl,_⟩,d,_⟩:=(hr.ext c2).at (ai e);refine WC.jH (t:=55) (v:=.bool (aa[b].ring && (decide ((m:Int)<r) && ay aa m))) (fun f=>w2=f) ?_ ?_
 ·
  refine cL ?_;refine WP .r (PV.ei gZ q rfl rfl (by omega))<|WP .r (PV.fa jU rfl)<|(aU) dM d<|(bW) (fun p=>?_) (fun p=>?_)
  ·
   refine bz ?_;refine WP .r (PV.gE gZ rfl)<|(bW) (fun y=>?_) (fun y=>?_)
   ·
    simp at y
    obtain⟨b2,J,r2,u,_,⟨K,L,M,rfl,_⟩,x,_⟩:=(hr.ext c2).at (ai (show m<aa.length by omega));have o:aa[m].ring=ay aa m:=(bD (by omega)).symm
    have z:decide ((m:Int)<r)=true:=by simp;omega
    refine bz ?_;refine WP .r (PV.ei gZ u rfl rfl (by omega))<|WP .r (PV.fa jU rfl)<|(aU) dM x<|?_;exact(br) (by first | (rw [o,p,z];rfl) | simp [*]) rfl
   simp at y
   have N:¬(m<aa.length):=by omega
   exact(br) (by first | (rw [o,p,z];rfl) | simp [*]) rfl
  refine aO ?_;exact(br) (by first | (rw [o,p,z];rfl) | simp [*]) rfl
 rintro _ rfl;refine(aN) (fun l=>?_) fun l=>?_
 ·
  simp at l
  obtain⟨g1,g2,g3⟩:=l;refine kQ ?_;refine EX.again (m+1) (Sub.k2 rfl rfl<|Sub.cons rfl<|Sub.ib rfl (by omega)<|Sub.nil) ⟨c2,by omega,by omega,by rw [← D,← qP g3],fun h=>absurd (bD e) (by simp [h,g1])⟩ (by omega)
 simp at l
 have Q:(block aa b).2=m:=by
  rw [B]
  by_cases d:ay aa b=true
  ·
   rw [if_pos d]
   show(dB aa (b+1):Int)=m
   rw [← D,sR]
   rcases Nat.lt_or_ge m r with h0 | h0
   ·
    exact l (by rw [← bD e];exact d) (by omega)
   exact lA (by omega)
  rw [if_neg d,P (by simpa using d)];rfl
 refine aO ?_;refine(qX) ?_;exact⟨by rw [O,Q],c2⟩
theorem Ip(w:World) (k:Nat) (os:Array Obj):aQ [] w (Sort.grow (w.drewN k) os):=⟨rfl,rfl,rfl,by simp [Sort.grow],Nat.le_add_right _ _,fun i hi _=>Sort.heap_grow_old (w.drewN k) os (k:=i) hi⟩
theorem xu(w:World) (e:TypeId) (s:ByteArray):aQ [] w (Lib.bytesWorld w e s):=aQ.zQ (Lib.bytesWorld_below _ _ _) (by
 unfold Lib.bytesWorld
 rw [o6];exact Nat.le_succ _)
theorem uq(i:Nat):itoa (i:Int)=⟨(Lib.decDigits i).toArray⟩:=by
 unfold itoa Lib.itoa
 rw [if_neg (by omega),Int.toNat_natCast]
theorem iz(h0:0≤n) (h1:n≤99) (w:World):CR prog 10 #[.int .i64 n] w (.string (itoa n)):=by
 obtain⟨i,rfl⟩:∃i:Nat,n=i:=⟨n.toNat,by omega⟩
 exact(strconv_Itoa_small i (by omega) w).mono fun e w' ⟨he,hw⟩=>⟨by rw [he,uq],by rw [hw];exact aQ.refl _ _⟩
theorem iA(ht:gV prog A w) (h0:-9223372036854775808≤n) (h1:n≤9223372036854775807):CR prog 10 #[.int .i64 n] w (.string (itoa n)):=
 (strconv_Itoa n h0 h1 w (by obtain⟨⟨b,_,_,h⟩,_⟩:=ht;exact h w rfl)).mono fun e w' ⟨he,k,os,hw⟩=>⟨he,by rw [hw];exact Ip _ _ _⟩
theorem nZ(s t:ByteArray) (w:World):CR prog 97 #[.string s,.string t] w (.int .i64 (Lib.compareBytes s.data.toList t.data.toList)):=
 (strings_Compare s t w).mono fun e w' ⟨he,hw⟩=>⟨he,by rw [hw];exact aQ.refl _ _⟩
theorem xv{d acc:Nat}(b:d<10) (e:acc<100000000000000000):Lib.parseUint10 acc [UInt8.ofNat (48+d)]=.ok (acc*10+d):=by
 have h:(UInt8.ofNat (48+d)).toNat=48+d:=by
  rw [UInt8.toNat_ofNat']
  omega
 simp only [Lib.parseUint10,h];rw [if_pos (by omega),if_neg (by omega),if_neg (by omega)]
 congr 1
 omega
theorem ur(b:UInt8):∀(l:List UInt8) (acc u:Nat),Lib.parseUint10 acc l=.ok u→Lib.parseUint10 acc (l++[b])=Lib.parseUint10 u [b]
 | [],acc,u,h=>by
  simp only [Lib.parseUint10] at h
  injection h with h
  subst h
  rfl
 | c::r,acc,u,h=>by
  have d:=fun a=>ur b r a u
  generalize Lib.parseUint10 u [b]=X at d ⊢
  simp only [List.cons_append,Lib.parseUint10] at h ⊢
  split at h
  ·
   rename_i h1
   rw [if_pos h1]
   split at h
   ·
    cases h
   rename_i e
   rw [if_neg e]
   split at h
   ·
    cases h
   rename_i f
   rw [if_neg f];exact d _ h
  cases h
theorem xw(n:Nat) (hn:n≤99999):Lib.parseUint10 0 (Lib.decDigits n)=.ok n:=by
 by_cases h:n<10
 ·
  rw [Lib.decDigits,dif_pos h];have h1:=xv (acc:=0) h (by omega);rw [Nat.zero_mul,Nat.zero_add] at h1;exact h1
 rw [Lib.decDigits,dif_neg h,ur _ _ _ _ (xw (n / 10) (by omega)),xv (by omega) (by omega)]
 congr 1
 omega
termination_by n
decreasing_by omega
theorem AR(n:Nat):∃b r,Lib.decDigits n=b::r∧48≤b.toNat:=by
 by_cases h:n<10
 ·
  refine⟨UInt8.ofNat (48+n),[],by rw [Lib.decDigits,dif_pos h],?_⟩;rw [UInt8.toNat_ofNat']
  omega
 obtain⟨b,r,h1,d⟩:=AR (n / 10);exact⟨b,r++[UInt8.ofNat (48+n % 10)],by rw [Lib.decDigits,dif_neg h,h1,List.cons_append],d⟩
termination_by n
decreasing_by omega
theorem EU(n:Nat):(Lib.decDigits n).length≤n+1:=by
 by_cases h:n<10
 ·
  rw [Lib.decDigits,dif_pos h,List.length_singleton]
  omega
 have h1:=EU (n / 10);rw [Lib.decDigits,dif_neg h,List.length_append,List.length_singleton]
 omega
termination_by n
decreasing_by omega
theorem Iq{n:Nat}(hn:n≤99999):Lib.atoiAll (Lib.decDigits n)=.ok (n:Int):=by
 obtain⟨b,r,h1,e⟩:=AR n;have d:=xw n hn;rw [h1] at d ⊢;rw [Lib.atoiAll_plain b r (by omega) (by omega)]
 unfold Lib.parseMag
 rw [if_neg (by simp),d]
 show(if 9223372036854775808≤n then Lib.NumEnd.range else .ok (n:Int))=.ok (n:Int)
 rw [if_neg (by omega)]
theorem AU{n:Nat}(h:n≤99999) (w:World):CR prog 126 #[.string (itoa n)] w (.tuple #[.int .i64 (n:Int),.nilIface]):=by
 have b:(itoa (n:Int)).data.toList=Lib.decDigits n:=(congrArg (fun x:ByteArray=>x.data.toList) (uq n)).trans rfl
 refine(strconv_Atoi_ok (itoa n) ?_ n (by rw [b];exact Iq h) w).mono fun e w' ⟨he,hw⟩=>⟨he,?_⟩
 ·
  have h1:=EU n;rw [uq]
  show(Lib.decDigits n).toArray.size≤9223372036854775806
  rw [List.size_toArray]
  omega
 rcases hw with rfl | ⟨t,rfl⟩
 ·
  exact aQ.refl _ _
 exact xu _ _ _
theorem Dp{n:Nat}(h:n≤99) (w:World):CR prog 126 #[.string (itoa n)] w (.tuple #[.int .i64 (n:Int),.nilIface]):=AU (by omega) w
set_option maxHeartbeats 400000
theorem AV :CR prog 81 #[.int .i64 n] w (.bool (fW n)):=by
 refine enter func81 rfl ntmps81 rfl<|?_;have c0:aQ [] w w:=aQ.refl _ _;refine gw ?_;refine WC.kV (t:=2) (v:=.bool (fW n)) (fun b=>w=b) ?_ ?_
 ·
  refine(bW) (fun g5=>?_) (fun g5=>?_)
  ·
   refine aO ?_;exact(eN) (by unfold fW;simp only [g5];first | rfl | simp) rfl
  refine(bW) (fun g9=>?_) (fun g9=>?_)
  ·
   exact(eN) (by unfold fW;simp only [g5,g9];first | rfl | simp) rfl
  refine(bW) (fun g13=>?_) (fun g13=>?_)
  ·
   exact(eN) (by unfold fW;simp only [g5,g9,g13];first | rfl | simp) rfl
  exact(eN) (by unfold fW;simp only [g5,g9,g13];first | rfl | simp) rfl
 rintro _ rfl;refine(bm) ?_;exact⟨rfl,c0⟩
theorem de :CR prog 50 #[k.val] w (.bool (aB k)):=by
 refine enter func50 rfl ntmps50 rfl<|?_;have c0:aQ [] w w:=aQ.refl _ _;refine bz ?_;refine WL.go rfl (OX.box rfl rfl rfl fun b1 w1 d b=>?_);have s1:=d.ext;have f:=d.gS c0;have c1:=c0.trans s1;refine cX ?_;refine WC.kV (t:=2) (v:=.bool (aB k)) (fun e=>w1=e) ?_ ?_
 ·
  refine nx ?_;refine WP .r (PV.fa du rfl)<|(aU) aK b.range<|(bW) (fun g6=>?_) (fun g6=>?_)
  ·
   exact(eN) (by unfold aB;simp only [g6];first | rfl | simp) rfl
  refine WP .r (PV.fa du rfl)<|(aU) aK b.range<|(bW) (fun g11=>?_) (fun g11=>?_)
  ·
   exact(eN) (by unfold aB;simp only [g6,g11];first | rfl | simp) rfl
  refine WP .r (PV.fa du rfl)<|(aU) aK b.range<|?_;exact(eN) (by unfold aB;simp only [g6,g11];first | rfl | simp) rfl
 rintro _ rfl;refine(bm) ?_;exact⟨rfl,c1⟩
theorem jV :CR prog 11 #[.int .i64 n] w ((bH n).val):=by
 refine enter func11 rfl ntmps11 rfl<|?_;have c0:aQ [] w w:=aQ.refl _ _;refine bz ?_;refine WL.go rfl (OX.alloc Dh rfl fun b2 w1 d b=>?_);have s1:=d.ext;have e:=d.gS c0;have c1:=c0.trans s1;refine cX ?_;refine WC.jH (t:=8) (v:=.bool (decide (n<0) || decide (99<n))) (fun f=>w1=f) ?_ ?_
 ·
  refine(bW) (fun g5=>?_) (fun g5=>?_)
  ·
   exact(br) (by simp only [g5];first | rfl | simp) rfl
  exact(br) (by simp only [g5];first | rfl | simp) rfl
 rintro _ rfl;refine(aN) (fun g8=>?_) fun g8=>?_
 ·
  have hk:bH n=eS:=by unfold bH;rw [if_pos (by simp at g8;omega)]
  refine bz ?_;refine WP .r (PV.bs (us:=[.int .i64 0,.string ⟨#[]⟩]) yk rfl rfl rfl)<|?_;refine WL.go rfl (OX.lW gR b rfl rfl rfl rfl rfl fun w2 s2 _ b=>?_);have c2:=c1.own s2 e;refine(ky) ak b.range<|?_;rw [hk];exact⟨rfl,c2⟩
 simp at g8
 have hk:bH n=⟨30,itoa n⟩:=by unfold bH;rw [if_neg (by omega)]
 refine(bL) Ia (iz (n:=n) (by omega) (by omega) w1) ?_;rintro _ w2 ⟨rfl,s2⟩;have c2:=c1.trans s2;have b:=b.ext s2;refine WP .r (PV.bs (us:=[.int .i64 30,.string (itoa n)]) yk rfl rfl rfl)<|?_;refine WL.go rfl (OX.lW gR b rfl rfl rfl rfl rfl fun w3 s3 _ b=>?_);have c3:=c2.own s3 e;refine(ky) ak b.range<|?_;rw [hk];exact⟨rfl,c3⟩
theorem fS(hr:dX A w a r c aa):CR prog 9 #[.slice a r c,.int .i64 n] w ((aD aa n).val):=by
 have hle:=hr.le;have hlen:=hr.len;refine enter func9 rfl ntmps9 rfl<|?_;have c0:aQ [] w w:=aQ.refl _ _;refine bz ?_;refine WL.go rfl (OX.alloc Dh rfl fun b4 w1 m b=>?_);have s1:=m.ext;have f:=m.gS c0;have c1:=c0.trans s1;refine cX ?_;refine WC.jH (t:=17) (v:=.bool (decide (n<0) || (decide ((r:Int)≤n) || decide (99<n)))) (fun x=>w1=x) ?_ ?_
 ·
  refine(bW) (fun g8=>?_) (fun g8=>?_)
  ·
   exact(br) (by simp only [g8];first | rfl | simp) rfl
  refine bz ?_;refine WP .r (PV.gE gZ rfl)<|(bW) (fun g14=>?_) (fun g14=>?_)
  ·
   exact(br) (by simp only [g8,g14];first | rfl | simp) rfl
  exact(br) (by simp only [g8,g14];first | rfl | simp) rfl
 rintro _ rfl;refine(aN) (fun g17=>?_) fun g17=>?_
 ·
  have hk:aD aa n=eS:=by unfold aD;rw [if_pos (by simp at g17;omega)]
  refine bz ?_;refine WP .r (PV.bs (us:=[.int .i64 0,.string ⟨#[]⟩]) yk rfl rfl rfl)<|?_;refine WL.go rfl (OX.lW gR b rfl rfl rfl rfl rfl fun w2 s2 _ b=>?_);have c2:=c1.own s2 f;refine(ky) ak b.range<|?_;rw [hk];exact⟨rfl,c2⟩
 simp at g17
 obtain⟨i,rfl⟩:∃i:Nat,n=i:=⟨n.toNat,by omega⟩
 have hi:i<aa.length:=by omega
 have hk:aD aa i=⟨if ay aa i then 32 else 31,itoa i⟩:=by unfold aD;rw [if_neg (by omega)];rfl
 have o:=bD hi;refine(bL) Ia (iz (n:=(i:Int)) (by omega) (by omega) w1) ?_;rintro _ w2 ⟨rfl,s2⟩;have c2:=c1.trans s2;have b:=b.ext s2;refine WP .r (PV.bs (us:=[.int .i64 31,.string (itoa i)]) yk rfl rfl rfl)<|?_;refine WL.go rfl (OX.alloc Dh rfl fun b5 w3 g d=>?_);have s3:=g.ext;have p:=g.gS c2;have h:b4≠b5:=g.ne b.lt;have q:b5≠b4:=Ne.symm h;have c3:=c2.trans s3;have b:=b.ext s3;refine WL.go rfl (OX.lW gR d rfl rfl rfl rfl rfl fun w4 s _ d=>?_);have c4:=c3.own s p;have b:=b.bT s (by simp [h]);refine cX ?_;obtain⟨b1,C,r1,y,_,⟨q1,D,E,rfl,_⟩,z,_⟩:=(hr.ext c4).at (ai hi);refine cL ?_;refine WP .r (PV.ei gZ y rfl rfl (by omega))<|WP .r (PV.fa jU rfl)<|(aU) dM z<|(aN) (fun j=>?_) fun j=>?_
 ·
  have l:aD aa i=⟨32,itoa i⟩:=by rw [hk,o,j];rfl
  refine nx ?_;refine WP .r (PV.fa du rfl)<|?_;refine WL.go rfl (OX.st Jr d rfl rfl (by first | (simp [nth];done) | exact R1 rfl) rfl rfl fun w5 e _ d=>?_);have c5:=c4.own e p;have b:=b.bT e (by simp [h]);refine(aT) ak d.range<|?_;refine WL.go rfl (OX.lW gR b rfl rfl rfl rfl rfl fun w6 u _ b=>?_);have B:=c5.own u f;have d:=d.bT u (by simp [q]);refine(ky) ak b.range<|?_;rw [l];exact⟨rfl,B⟩
 have l:aD aa i=⟨31,itoa i⟩:=by rw [hk,o,j];rfl
 refine(aT) ak d.range<|?_;refine WL.go rfl (OX.lW gR b rfl rfl rfl rfl rfl fun w5 e _ b=>?_);have c5:=c4.own e f;have d:=d.bT e (by simp [q]);refine(ky) ak b.range<|?_;rw [l];exact⟨rfl,c5⟩
theorem qv{l:List Key}(hl:xK A w a r c l):CR prog 107 #[.slice a r c,k.val] w (.bool (decide (k∈l))):=by
 have hle:=hl.le;have hlen:=hl.len;refine enter func107 rfl ntmps107 rfl<|?_;have c0:aQ [] w w:=aQ.refl _ _;refine bz ?_;refine WL.go rfl (OX.box rfl rfl rfl fun b3 w1 j b=>?_);have s1:=j.ext;have C:=j.gS c0;have c1:=c0.trans s1;refine eP ?_;refine WP .r (PV.gE eI rfl)<|cX ?_;refine WC.loop (σ:=Nat × World) (dm:=fun s=>[(3,.pointer (some ⟨b3,0,none⟩)),(7,.slice a r c),(8,.int .i64 (r:Int)),(9,.int .i64 (s.1:Int))]) (I:=fun s w'=>aQ [] w w'∧cC w' b3 29 [.int .i64 k.kind,.string k.text]∧s.1≤r∧k∉l.take s.1) (μ:=fun s=>r - s.1) (0,w) Sub.t ⟨c1,b,by omega,by simp⟩ ?_;rintro⟨i,_⟩ w2 ⟨c2,b,hi,m⟩;refine(aN) (fun g10=>?_) fun g10=>?_
 ·
  simp at g10
  have d:i<l.length:=by omega
  refine cS ?_;obtain⟨b1,D,r1,x,_,rfl,y,_⟩:=(hl.ext c2).at (ai d);refine nx ?_;refine WP .r (PV.ei eI x rfl rfl (by omega))<|(aT) ak y<|?_;refine WL.go rfl (OX.alloc Dh rfl fun o w3 f g=>?_);have s3:=f.ext;have z:=f.gS c2;have u:b3≠o:=f.ne b.lt;have E:o≠b3:=Ne.symm u;have c3:=c2.trans s3;have b:=b.ext s3;refine WL.go rfl (OX.lW gR g rfl rfl rfl rfl rfl fun w4 v _ g=>?_);have c4:=c3.own v z;have b:=b.bT v (by simp [u]);refine(aT) ak g.range<|(aT) ak b.range<|?_;refine WP .r (PV.Fg ft (p:=l[i]) (q:=k) rfl rfl)<|(aN) (fun g15=>?_) fun g15=>?_
  ·
   simp at g15
   refine(bm) ?_;exact⟨by rw [decide_eq_true (g15 ▸ List.getElem_mem d)],c4⟩
  simp at g15
  refine eP ?_;refine EX.again (i+1,w) (Sub.k2 rfl rfl<|Sub.cons rfl<|Sub.ib rfl (by simp)<|Sub.nil) ⟨c4,b,by omega,by have h:=List.take_succ_eq_append_getElem d;simp only [h,List.mem_append,List.mem_singleton,not_or];exact⟨m,fun e=>g15 e.symm⟩⟩ (by simp;omega)
 simp at g10
 have B:k∉l:=by rw [← List.take_of_length_le (show l.length≤i by omega)];exact m
 refine(bm) ?_;exact⟨by rw [decide_eq_false B],c2⟩
theorem n0{s:ByteArray} :CR prog 142 #[.string s] w (.int .i64 (cU s)):=by
 have he:=wO s;have q:=sS s;refine enter func142 rfl ntmps142 rfl<|?_;have c0:aQ [] w w:=aQ.refl _ _;refine eP ?_;refine WC.jH (t:=20) (v:=.bool (lB s)) (fun g=>w=g) ?_ ?_
 ·
  refine(bW) (fun g7=>?_) (fun g7=>?_)
  ·
   refine aO ?_;exact(br) (by unfold lB;first | (simp only [g7,b];done) | (simp only [g7,b];rfl) | (simp only [g7];rfl)) rfl
  skip
  refine nx ?_;refine WP .r (PV.sH qn rfl)<|(bW) (fun g12=>?_) (fun g12=>?_)
  ·
   exact(br) (by unfold lB;first | (simp only [g7,g12,b];done) | (simp only [g7,g12,b];rfl) | (simp only [g7,g12];rfl)) rfl
  have o:=of_decide_eq_false g7;rw [he] at o;obtain⟨b0,d,b⟩:=zD s (by omega);refine nx ?_;refine WP .r (PV.JM qn (i:=0) rfl rfl d)<|(bW) (fun g16=>?_) (fun g16=>?_)
  ·
   exact(br) (by unfold lB;first | (simp only [g7,g12,g16,b];done) | (simp only [g7,g12,g16,b];rfl) | (simp only [g7,g12,g16];rfl)) rfl
  exact(br) (by unfold lB;first | (simp only [g7,g12,g16,b];done) | (simp only [g7,g12,g16,b];rfl) | (simp only [g7,g12,g16];rfl)) rfl
 rintro _ rfl;refine(aN) (fun g20=>?_) fun g20=>?_
 ·
  have e:cU s = -1:=by rw [qR];rw [if_pos g20]
  refine(bm) ?_;rw [e];exact⟨rfl,c0⟩
 have e:cU s=decFrom s.data.toList 0:=by rw [qR,g20];rfl
 have u:=Fo g20;refine aO ?_;refine bz ?_;refine WC.loop (σ:=Nat × Nat) (dm:=fun p=>[(0,.string s),(3,.int .i64 (p.2:Int)),(4,.int .i64 (p.1:Int))]) (I:=fun p w'=>aQ [] w w'∧p.1≤s.size∧p.2<10 ^ p.1∧decFrom s.data.toList 0=decFrom (s.data.toList.drop p.1) p.2) (μ:=fun p=>s.size - p.1) (0,0) Sub.t ⟨c0,by simp,by simp,by simp⟩ ?_;rintro⟨i,n⟩ w1 ⟨c1,hi,hn,f⟩;simp only at hi hn f;have x:n<10 ^ 9:=Nat.lt_of_lt_of_le hn (Nat.pow_le_pow_right (by omega) (by omega));refine cS ?_;refine WP .r (PV.sH qn rfl)<|(aN) (fun g24=>?_) fun g24=>?_
 ·
  simp at g24
  obtain⟨b0,d,h⟩:=xP s (n:=(n:Int)) g24;refine gw ?_;refine WC.jH (t:=36) (v:=.bool (decide ((b0.toNat:Int)<48) || decide (57<(b0.toNat:Int)))) (fun g=>w1=g) ?_ ?_
  ·
   refine cL ?_;refine WP .r (PV.JM qn (i:=i) rfl rfl d)<|(bW) (fun j=>?_) (fun j=>?_)
   ·
    exact(br) (by simp only [j];first | rfl | simp) rfl
   refine bz ?_;refine WP .r (PV.JM qn (i:=i) rfl rfl d)<|?_;exact(br) (by simp only [j];first | rfl | simp) rfl
  rintro _ rfl;refine(aN) (fun l=>?_) fun l=>?_
  ·
   have m:cU s = -1:=by rw [e,f,h,if_pos (by simp at l;omega)]
   refine(bm) ?_;rw [m];exact⟨rfl,c1⟩
  simp at l
  rw [if_neg (by omega)] at h;have y:10 ^ (i+1)=10*10 ^ i:=Nat.pow_succ';refine cX ?_;refine WP .r (PV.mul rfl rfl (by omega) (by omega))<|bz ?_;refine WP .r (PV.JM qn (i:=i) rfl rfl d)<|WP .r (PV.RY rfl rfl (by omega) (by omega))<|WP .r (PV.conv ⟨_,YI⟩ YH rfl (by omega) (by omega))<|j8 ?_;refine EX.again (i+1,10*n+(b0.toNat - 48)) (Sub.cons rfl<|Sub.ib rfl (by simp;omega)<|Sub.ib rfl (by simp)<|Sub.nil) ⟨c1,by simp;omega,by simp only;omega,by simp only;rw [f,h];congr 1;omega⟩ (by simp only;omega)
 simp at g24
 have m:cU s=n:=by rw [e,f,List.drop_eq_nil_of_le (by rw [Array.length_toList];exact g24)];rfl
 refine(bm) ?_;rw [m];exact⟨rfl,c1⟩
theorem js :CR prog 90 #[k.val] w (.int .i64 (number k)):=by
 refine enter func90 rfl ntmps90 rfl<|?_;have c0:aQ [] w w:=aQ.refl _ _;refine bz ?_;refine WL.go rfl (OX.box rfl rfl rfl fun b1 w1 d b=>?_);have s1:=d.ext;have f:=d.gS c0;have c1:=c0.trans s1;refine gw ?_;refine WP .r (PV.fa oH rfl)<|(aU) eY b.range<|(bL) Mr (n0 (s:=k.text)) ?_;rintro _ w2 ⟨rfl,s2⟩;have c2:=c1.trans s2;have b:=b.ext s2;refine cX ?_;refine WC.jH (t:=18) (v:=.bool (decide (30≤k.kind) && (decide (k.kind≤32) && decide (cU k.text≤99)))) (fun e=>w2=e) ?_ ?_
 ·
  refine nx ?_;refine WP .r (PV.fa du rfl)<|(aU) aK b.range<|(bW) (fun g10=>?_) (fun g10=>?_)
  ·
   refine WP .r (PV.fa du rfl)<|(aU) aK b.range<|(bW) (fun g15=>?_) (fun g15=>?_)
   ·
    exact(br) (by simp only [g10,g15];first | rfl | simp) rfl
   exact(br) (by simp only [g10,g15];first | rfl | simp) rfl
  exact(br) (by simp only [g10];first | rfl | simp) rfl
 rintro _ rfl;refine(aN) (fun g18=>?_) fun g18=>?_
 ·
  simp at g18
  have hn:number k=cU k.text:=by unfold number;rw [if_pos g18]
  refine(bm) ?_;rw [hn];exact⟨rfl,c2⟩
 simp at g18
 have hn:number k = -1:=by unfold number;rw [if_neg (by intro h;have:=g18 h.1 h.2.1;omega)]
 refine(bm) ?_;rw [hn];exact⟨rfl,c2⟩
theorem hh :CR prog 56 #[k.val] w (.bool (cH k)):=by
 refine enter func56 rfl ntmps56 rfl<|?_;have c0:aQ [] w w:=aQ.refl _ _;refine bz ?_;refine WL.go rfl (OX.box rfl rfl rfl fun b1 w1 i b=>?_);have s1:=i.ext;have j:=i.gS c0;have c1:=c0.trans s1;refine cS ?_;refine WC.jH (t:=10) (v:=.bool (decide (30≤k.kind) && decide (k.kind≤32))) (fun g=>w1=g) ?_ ?_
 ·
  refine nx ?_;refine WP .r (PV.fa du rfl)<|(aU) aK b.range<|(bW) (fun g6=>?_) (fun g6=>?_)
  ·
   refine WP .r (PV.fa du rfl)<|(aU) aK b.range<|?_;exact(br) (by simp only [g6];first | rfl | simp) rfl
  exact(br) (by simp only [g6];first | rfl | simp) rfl
 rintro _ rfl;refine(aN) (fun g10=>?_) fun g10=>?_
 ·
  simp at g10
  refine(aT) ak b.range<|(bL) K9 (js (k:=k)) ?_;rintro _ w2 ⟨rfl,s2⟩;have c2:=c1.trans s2;have b:=b.ext s2;refine(bm) ?_;exact⟨by unfold cH;rw [if_pos (by omega)],c2⟩
 simp at g10
 have d:=qS k (by omega);refine cL ?_;refine WC.kV (t:=2) (v:=.bool (cH k)) (fun g=>w1=g) ?_ ?_
 ·
  refine nx ?_;refine WP .r (PV.fa du rfl)<|(aU) aK b.range<|(bW) (fun g17=>?_) (fun g17=>?_)
  ·
   refine WP .r (PV.fa du rfl)<|(aU) aK b.range<|(bW) (fun g22=>?_) (fun g22=>?_)
   ·
    refine WP .r (PV.fa oH rfl)<|(aU) eY b.range<|?_;refine WP .r (PV.sH qn rfl)<|(bW) (fun e=>?_) (fun e=>?_)
    ·
     refine WP .r (PV.fa oH rfl)<|(aU) eY b.range<|(bW) (fun f=>?_) (fun f=>?_)
     ·
      exact(eN) (by rw [d];simp only [g17,g22,e,f];first | rfl | simp) rfl
     refine WP .r (PV.fa du rfl)<|(aU) aK b.range<|(bW) (fun h=>?_) (fun h=>?_)
     ·
      refine WP .r (PV.fa du rfl)<|(aU) aK b.range<|?_;exact(eN) (by rw [d];simp only [g17,g22,e,f,h];first | rfl | simp) rfl
     exact(eN) (by rw [d];simp only [g17,g22,e,f,h];first | rfl | simp) rfl
    refine aO ?_;exact(eN) (by rw [d];simp only [g17,g22,e];first | rfl | simp) rfl
   refine aO ?_;exact(eN) (by rw [d];simp only [g17,g22];first | rfl | simp) rfl
  refine aO ?_;refine aO ?_;exact(eN) (by rw [d];simp only [g17];first | rfl | simp) rfl
 rintro _ rfl;refine(bm) ?_;exact⟨rfl,c1⟩
theorem cQ :CR prog 42 #[k.val] w (.bool (ax k)):=by
 refine enter func42 rfl ntmps42 rfl<|?_;have c0:aQ [] w w:=aQ.refl _ _;refine bz ?_;refine WL.go rfl (OX.box rfl rfl rfl fun b1 w1 d b=>?_);have s1:=d.ext;have e:=d.gS c0;have c1:=c0.trans s1;refine cX ?_;refine WC.kV (t:=2) (v:=.bool (ax k)) (aQ [] w1) ?_<|?_
 ·
  refine nx ?_;refine WP .r (PV.fa du rfl)<|(aU) aK b.range<|(bW) (fun g6=>?_) (fun g6=>?_)
  ·
   refine aO ?_;exact(eN) (by unfold ax;simp only [g6];first | rfl | simp) (aQ.refl _ _)
  refine WP .r (PV.fa du rfl)<|(aU) aK b.range<|(bW) (fun g10=>?_) (fun g10=>?_)
  ·
   refine WP .r (PV.fa du rfl)<|(aU) aK b.range<|(bW) (fun g15=>?_) (fun g15=>?_)
   ·
    refine WP .r (PV.fa du rfl)<|(aU) aK b.range<|(bL) Zk (AV (n:=k.kind)) ?_;rintro _ w2 ⟨rfl,s2⟩;have c2:=c1.trans s2;have b:=b.ext s2;exact(eN) (by unfold ax;simp only [g6,g10,g15];first | rfl | simp) s2
   exact(eN) (by unfold ax;simp only [g6,g10,g15];first | rfl | simp) (aQ.refl _ _)
  exact(eN) (by unfold ax;simp only [g6,g10];first | rfl | simp) (aQ.refl _ _)
 intro w2 s2;have c2:=c1.trans s2;have b:=b.ext s2;refine(bm) ?_;exact⟨rfl,c2⟩
theorem jA{q:Key} :CR prog 58 #[k.val,q.val] w (.int .i64 (bp k q)):=by
 refine enter func58 rfl ntmps58 rfl<|?_;have c0:aQ [] w w:=aQ.refl _ _;refine bz ?_;refine WL.go rfl (OX.box rfl rfl rfl fun b2 w1 f b=>?_);have s1:=f.ext;have h:=f.gS c0;have c1:=c0.trans s1;refine WL.go rfl (OX.box rfl rfl rfl fun b3 w2 e d=>?_);have s2:=e.ext;have i:=e.gS c1;have g:b2≠b3:=e.ne b.lt;have j:b3≠b2:=Ne.symm g;have c2:=c1.trans s2;have b:=b.ext s2;refine eP ?_;refine WP .r (PV.fa du rfl)<|(aU) aK b.range<|?_;refine WP .r (PV.fa du rfl)<|(aU) aK d.range<|(aN) (fun g5=>?_) fun g5=>?_
 ·
  simp at g5
  refine(bm) ?_;exact⟨by unfold bp;rw [if_pos g5],c2⟩
 simp at g5
 refine bz ?_;refine WP .r (PV.fa du rfl)<|(aU) aK b.range<|?_;refine WP .r (PV.fa du rfl)<|(aU) aK d.range<|(aN) (fun g11=>?_) fun g11=>?_
 ·
  simp at g11
  refine(bm) ?_;exact⟨by unfold bp;rw [if_neg (by omega),if_pos g11],c2⟩
 simp at g11
 refine cS ?_;refine WP .r (PV.fa oH rfl)<|(aU) eY b.range<|?_;refine WP .r (PV.fa oH rfl)<|(aU) eY d.range<|(bL) Tw (nZ k.text q.text w2) ?_;rintro _ w3 ⟨rfl,s3⟩;have c3:=c2.trans s3;have b:=b.ext s3;have d:=d.ext s3;refine(bm) ?_;exact⟨by unfold bp;rw [if_neg (by omega),if_neg (by omega)],c3⟩
end Go.Rc

