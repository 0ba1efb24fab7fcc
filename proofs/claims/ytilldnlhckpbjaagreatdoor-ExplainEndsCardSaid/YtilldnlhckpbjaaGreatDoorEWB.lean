/- Walks over the program, part WB. Conditions: as each theorem says. -/
import Derived.Test.YtilldnlhckpbjaaGreatDoorEFacts
import Derived.Test.YtilldnlhckpbjaaGreatDoorEBb
import Derived.Test.YtilldnlhckpbjaaGreatDoorEBe
import Derived.Test.YtilldnlhckpbjaaGreatDoorShelf
import Derived.Lib.UnsafeStr
set_option linter.all false
namespace Go.Rc
open Go Go.Proofs Go.Proofs.Tryz
variable {n:Int}{w:World}{aa:List aD}{A:Nat→Prop}{a:Option Addr}{r c:Nat}{k:Key}
set_option maxHeartbeats 400000
theorem C6{m:Int}(b:m≤4611686018427387904):CR prog 61 #[.int .i64 n,.int .i64 m] w (.int .i64 (if m<1 then 0 else n % m)):=by
 refine enter func61 rfl ntmps61 rfl<|?_;have c0:aK [] w w:=aK.refl _ _;refine(aT) (fun g6=>?_) fun g6=>?_
 ·
  simp at g6
  refine(bF) ?_;exact⟨by rw [if_pos (by omega)],c0⟩
 simp at g6
 have k1:=Int.tmod_lt_of_pos n (show 0<m by omega);have k2:=Int.lt_tmod_of_pos n (show 0<m by omega);refine fY ?_;refine WP .r (PV.rem rfl rfl (by omega))<|cq ?_;refine WP .r (PV.rem rfl rfl (by omega))<|(bF) ?_;refine⟨?_,c0⟩;rw [if_neg (by omega)]
 congr 2
 rw [Int.tmod_eq_emod_of_nonneg (by omega),Int.add_emod_right,Ci]
theorem pA(hr:eE A w a r c aa):CR prog 30 #[.slice a r c,.int .i64 n] w (.tuple #[.int .i64 (block aa n).1,.int .i64 (block aa n).2]):=by
 have hle:=hr.le;have hlen:=hr.len;refine enter func30 rfl ntmps30 rfl<|?_;have c0:aK [] w w:=aK.refl _ _;refine jg ?_;refine WC.je (t:=15) (v:=.bool (decide (n<0) || decide ((r:Int)≤n))) (fun f=>w=f) ?_ ?_
 ·
  refine(cG) (fun g10=>?_) (fun g10=>?_)
  ·
   exact(bY) (by simp only [g10];first | done | rfl | simp) rfl
  refine bJ ?_;refine WP .r (PV.fZ gT rfl)<|?_;exact(bY) (by simp only [g10];first | done | rfl | simp) rfl
 rintro _ rfl;refine(aT) (fun g15=>?_) fun g15=>?_
 ·
  have hb:=tQ aa n (by simp at g15;omega);refine(tV) ?_;exact⟨by rw [hb],c0⟩
 obtain⟨b,rfl⟩:∃i:Nat,n=i:=⟨n.toNat,by simp at g15;omega⟩
 have e:b<aa.length:=by simp at g15;omega
 have B:block aa b=if ax aa b then ((ba aa b:Int),(cU aa (b+1):Int)) else ((b:Int),(b:Int)+1):=by
  unfold block;rw [if_neg (by omega)];rfl
 refine aQ ?_;refine nx ?_;refine WC.loop (σ:=Nat) (db:=fun k=>[(0,.slice a r c),(1,.int .i64 (b:Int)),(6,.int .i64 (k:Int)),(7,.int .i64 ((b:Int)+1))]) (I:=fun k w'=>aK [] w w'∧k≤b∧ba aa k=ba aa b∧(ax aa b=false→k=b)) (μ:=fun k=>k) b Sub.t ⟨c0,Nat.le_refl _,rfl,fun _=>rfl⟩ ?_;rintro k w1 ⟨c1,hk,C,E⟩;refine bJ ?_;obtain⟨b1,F,r1,q,_,⟨q1,G,H,rfl,_⟩,d,_⟩:=(hr.ext c1).at (ae e);refine WC.je (t:=35) (v:=.bool (aa[b].ring && (decide ((0:Int)<k) && ax aa (k - 1)))) (fun f=>w1=f) ?_ ?_
 ·
  refine cq ?_;refine WP .r (PV.dO gT q rfl rfl (by omega))<|WP .r (PV.fa iK rfl)<|(bq) dm d<|(cG) (fun g24=>?_) (fun g24=>?_)
  ·
   refine(cG) (fun s=>?_) (fun s=>?_)
   ·
    obtain⟨b2,J,r2,u,_,⟨K,L,M,rfl,_⟩,x,_⟩:=(hr.ext c1).at (ae (show k - 1<aa.length by omega))
    simp at s
    have o:aa[k-1].ring=ax aa (k-1):=(bE (by omega)).symm;refine cq ?_;refine WP .r (PV.Dv gT (k - 1) u rfl rfl (by omega) (by omega))<|WP .r (PV.fa iK rfl)<|(bq) dm x<|?_;exact(bY) (by simp [*]) rfl
   simp at s
   have N:¬(0<k):=by omega
   exact(bY) (by simp [*]) rfl
  exact(bY) (by simp [*]) rfl
 rintro _ rfl;refine(aT) (fun g=>?_) fun g=>?_
 ·
  simp at g
  obtain⟨g1,g2,g3⟩:=g;obtain⟨j,rfl⟩:∃j,k=j+1:=⟨k - 1,by omega⟩;refine pU ?_;refine EX.again j (Sub.k2 rfl rfl<|Sub.gM rfl (by omega)<|Sub.cons rfl<|Sub.nil) ⟨c1,by omega,by rw [← C,nu (by simpa using g3)],fun h=>absurd (bE e) (by simp [h,g1])⟩ (by omega)
 simp at g
 have O:(block aa b).1=k:=by
  rw [B]
  by_cases d:ax aa b=true
  ·
   rw [if_pos d]
   show(ba aa b:Int)=k
   rw [← C,o9]
   by_cases h0:k=0
   ·
    exact .inl h0
   exact .inr (g (by rw [← bE e];exact d) (by omega))
  rw [if_neg d,E (by simpa using d)]
 refine eX ?_;refine WC.loop (σ:=Nat) (db:=fun m=>[(0,.slice a r c),(1,.int .i64 (b:Int)),(6,.int .i64 (k:Int)),(7,.int .i64 (m:Int))]) (I:=fun m w'=>aK [] w w'∧b+1≤m∧m≤r∧cU aa m=cU aa (b+1)∧(ax aa b=false→m=b+1)) (μ:=fun m=>r - m) (b+1) Sub.t ⟨c1,Nat.le_refl _,by omega,rfl,fun _=>rfl⟩ ?_;rintro m w2 ⟨c2,R,S,D,P⟩;refine bJ ?_;obtain⟨b1,F,r1,q,_,⟨q1,G,H,rfl,_⟩,d,_⟩:=(hr.ext c2).at (ae e);refine WC.je (t:=55) (v:=.bool (aa[b].ring && (decide ((m:Int)<r) && ax aa m))) (fun f=>w2=f) ?_ ?_
 ·
  refine cq ?_;refine WP .r (PV.dO gT q rfl rfl (by omega))<|WP .r (PV.fa iK rfl)<|(bq) dm d<|(cG) (fun p=>?_) (fun p=>?_)
  ·
   refine bJ ?_;refine WP .r (PV.fZ gT rfl)<|(cG) (fun y=>?_) (fun y=>?_)
   ·
    simp at y
    obtain⟨b2,J,r2,u,_,⟨K,L,M,rfl,_⟩,x,_⟩:=(hr.ext c2).at (ae (show m<aa.length by omega));have o:aa[m].ring=ax aa m:=(bE (by omega)).symm
    have z:decide ((m:Int)<r)=true:=by simp;omega
    refine bJ ?_;refine WP .r (PV.dO gT u rfl rfl (by omega))<|WP .r (PV.fa iK rfl)<|(bq) dm x<|?_;exact(bY) (by first | (rw [o,p,z];rfl) | simp [*]) rfl
   simp at y
   have N:¬(m<aa.length):=by omega
   exact(bY) (by first | (rw [o,p,z];rfl) | simp [*]) rfl
  refine aQ ?_;exact(bY) (by first | (rw [o,p,z];rfl) | simp [*]) rfl
 rintro _ rfl;refine(aT) (fun l=>?_) fun l=>?_
 ·
  simp at l
  obtain⟨g1,g2,g3⟩:=l;refine pU ?_;refine EX.again (m+1) (Sub.k2 rfl rfl<|Sub.cons rfl<|Sub.gM rfl (by omega)<|Sub.nil) ⟨c2,by omega,by omega,by rw [← D,← o8 g3],fun h=>absurd (bE e) (by simp [h,g1])⟩ (by omega)
 simp at l
 have Q:(block aa b).2=m:=by
  rw [B]
  by_cases d:ax aa b=true
  ·
   rw [if_pos d]
   show(cU aa (b+1):Int)=m
   rw [← D,qH]
   rcases Nat.lt_or_ge m r with h0 | h0
   ·
    exact l (by rw [← bE e];exact d) (by omega)
   exact jR (by omega)
  rw [if_neg d,P (by simpa using d)];rfl
 refine aQ ?_;refine(tV) ?_;exact⟨by rw [O,Q],c2⟩
theorem Fw(w:World) (k:Nat) (os:Array Obj):aK [] w (Sort.grow (w.drewN k) os):=⟨rfl,rfl,rfl,by simp [Sort.grow],Nat.le_add_right _ _,fun i hi _=>Sort.heap_grow_old (w.drewN k) os (k:=i) hi⟩
theorem uG(w:World) (e:TypeId) (s:ByteArray):aK [] w (Lib.bytesWorld w e s):=aK.xr (Lib.bytesWorld_below _ _ _) (by
 unfold Lib.bytesWorld
 rw [nE];exact Nat.le_succ _)
theorem rX(i:Nat):itoa (i:Int)=⟨(Lib.decDigits i).toArray⟩:=by
 unfold itoa Lib.itoa
 rw [if_neg (by omega),Int.toNat_natCast]
theorem gF(h0:0≤n) (h1:n≤99) (w:World):CR prog 52 #[.int .i64 n] w (.string (itoa n)):=by
 obtain⟨i,rfl⟩:∃i:Nat,n=i:=⟨n.toNat,by omega⟩
 exact(strconv_Itoa_small i (by omega) w).mono fun e w' ⟨he,hw⟩=>⟨by rw [he,rX],by rw [hw];exact aK.refl _ _⟩
theorem kb(ht:jM prog A w) (h0:-9223372036854775808≤n) (h1:n≤9223372036854775807):CR prog 52 #[.int .i64 n] w (.string (itoa n)):=
 (strconv_Itoa n h0 h1 w (by obtain⟨⟨b,_,_,h⟩,_⟩:=ht;exact h w rfl)).mono fun e w' ⟨he,k,os,hw⟩=>⟨he,by rw [hw];exact Fw _ _ _⟩
theorem mj(s t:ByteArray) (w:World):CR prog 66 #[.string s,.string t] w (.int .i64 (Lib.compareBytes s.data.toList t.data.toList)):=
 (strings_Compare s t w).mono fun e w' ⟨he,hw⟩=>⟨he,by rw [hw];exact aK.refl _ _⟩
theorem uH{d acc:Nat}(b:d<10) (e:acc<100000000000000000):Lib.parseUint10 acc [UInt8.ofNat (48+d)]=.ok (acc*10+d):=by
 have h:(UInt8.ofNat (48+d)).toNat=48+d:=by
  rw [UInt8.toNat_ofNat']
  omega
 simp only [Lib.parseUint10,h];rw [if_pos (by omega),if_neg (by omega),if_neg (by omega)]
 congr 1
 omega
theorem rY(b:UInt8):∀(l:List UInt8) (acc u:Nat),Lib.parseUint10 acc l=.ok u→Lib.parseUint10 acc (l++[b])=Lib.parseUint10 u [b]
 | [],acc,u,h=>by
  simp only [Lib.parseUint10] at h
  injection h with h
  subst h
  rfl
 | c::r,acc,u,h=>by
  have d:=fun a=>rY b r a u
  generalize Lib.parseUint10 u [b]=X at d ⊢
  simp only [List.cons_append,Lib.parseUint10] at h ⊢
  split at h
  ·
   rename_i h1
   rw [if_pos h1]
   split at h
   ·
    cases h
   rename_i e
   rw [if_neg e]
   split at h
   ·
    cases h
   rename_i f
   rw [if_neg f];exact d _ h
  cases h
theorem uI(n:Nat) (hn:n≤99999):Lib.parseUint10 0 (Lib.decDigits n)=.ok n:=by
 by_cases h:n<10
 ·
  rw [Lib.decDigits,dif_pos h];have h1:=uH (acc:=0) h (by omega);rw [Nat.zero_mul,Nat.zero_add] at h1;exact h1
 rw [Lib.decDigits,dif_neg h,rY _ _ _ _ (uI (n / 10) (by omega)),uH (by omega) (by omega)]
 congr 1
 omega
termination_by n
decreasing_by omega
theorem x3(n:Nat):∃b r,Lib.decDigits n=b::r∧48≤b.toNat:=by
 by_cases h:n<10
 ·
  refine⟨UInt8.ofNat (48+n),[],by rw [Lib.decDigits,dif_pos h],?_⟩;rw [UInt8.toNat_ofNat']
  omega
 obtain⟨b,r,h1,d⟩:=x3 (n / 10);exact⟨b,r++[UInt8.ofNat (48+n % 10)],by rw [Lib.decDigits,dif_neg h,h1,List.cons_append],d⟩
termination_by n
decreasing_by omega
theorem B1(n:Nat):(Lib.decDigits n).length≤n+1:=by
 by_cases h:n<10
 ·
  rw [Lib.decDigits,dif_pos h,List.length_singleton]
  omega
 have h1:=B1 (n / 10);rw [Lib.decDigits,dif_neg h,List.length_append,List.length_singleton]
 omega
termination_by n
decreasing_by omega
theorem Fx{n:Nat}(hn:n≤99999):Lib.atoiAll (Lib.decDigits n)=.ok (n:Int):=by
 obtain⟨b,r,h1,e⟩:=x3 n;have d:=uI n hn;rw [h1] at d ⊢;rw [Lib.atoiAll_plain b r (by omega) (by omega)]
 unfold Lib.parseMag
 rw [if_neg (by simp),d]
 show(if 9223372036854775808≤n then Lib.NumEnd.range else .ok (n:Int))=.ok (n:Int)
 rw [if_neg (by omega)]
theorem x4{n:Nat}(h:n≤99999) (w:World):CR prog 153 #[.string (itoa n)] w (.tuple #[.int .i64 (n:Int),.nilIface]):=by
 have b:(itoa (n:Int)).data.toList=Lib.decDigits n:=(congrArg (fun x:ByteArray=>x.data.toList) (rX n)).trans rfl
 refine(strconv_Atoi_ok (itoa n) ?_ n (by rw [b];exact Fx h) w).mono fun e w' ⟨he,hw⟩=>⟨he,?_⟩
 ·
  have h1:=B1 n;rw [rX]
  show(Lib.decDigits n).toArray.size≤9223372036854775806
  rw [List.size_toArray]
  omega
 rcases hw with rfl | ⟨t,rfl⟩
 ·
  exact aK.refl _ _
 exact uG _ _ _
theorem An{n:Nat}(h:n≤99) (w:World):CR prog 153 #[.string (itoa n)] w (.tuple #[.int .i64 (n:Int),.nilIface]):=x4 (by omega) w
set_option maxHeartbeats 400000
theorem x5 :CR prog 131 #[.int .i64 n] w (.bool (jS n)):=by
 refine enter func131 rfl ntmps131 rfl<|?_;have c0:aK [] w w:=aK.refl _ _;refine fY ?_;refine WC.kj (t:=2) (v:=.bool (jS n)) (fun b=>w=b) ?_ ?_
 ·
  refine(cG) (fun g5=>?_) (fun g5=>?_)
  ·
   refine aQ ?_;exact(e8) (by unfold jS;simp only [g5];first | rfl | simp) rfl
  refine(cG) (fun g9=>?_) (fun g9=>?_)
  ·
   exact(e8) (by unfold jS;simp only [g5,g9];first | rfl | simp) rfl
  refine(cG) (fun g13=>?_) (fun g13=>?_)
  ·
   exact(e8) (by unfold jS;simp only [g5,g9,g13];first | rfl | simp) rfl
  exact(e8) (by unfold jS;simp only [g5,g9,g13];first | rfl | simp) rfl
 rintro _ rfl;refine(bF) ?_;exact⟨rfl,c0⟩
theorem cJ :CR prog 14 #[k.val] w (.bool (aw k)):=by
 refine enter func14 rfl ntmps14 rfl<|?_;have c0:aK [] w w:=aK.refl _ _;refine bJ ?_;refine WL.go rfl (OX.box rfl rfl rfl fun b1 w1 d b=>?_);have s1:=d.ext;have f:=d.gY c0;have c1:=c0.trans s1;refine cD ?_;refine WC.kj (t:=2) (v:=.bool (aw k)) (fun e=>w1=e) ?_ ?_
 ·
  refine nx ?_;refine WP .r (PV.fa cQ rfl)<|(bq) aL b.range<|(cG) (fun g6=>?_) (fun g6=>?_)
  ·
   exact(e8) (by unfold aw;simp only [g6];first | rfl | simp) rfl
  refine WP .r (PV.fa cQ rfl)<|(bq) aL b.range<|(cG) (fun g11=>?_) (fun g11=>?_)
  ·
   exact(e8) (by unfold aw;simp only [g6,g11];first | rfl | simp) rfl
  refine WP .r (PV.fa cQ rfl)<|(bq) aL b.range<|?_;exact(e8) (by unfold aw;simp only [g6,g11];first | rfl | simp) rfl
 rintro _ rfl;refine(bF) ?_;exact⟨rfl,c1⟩
theorem gG :CR prog 27 #[.int .i64 n] w ((bz n).val):=by
 refine enter func27 rfl ntmps27 rfl<|?_;have c0:aK [] w w:=aK.refl _ _;refine bJ ?_;refine WL.go rfl (OX.alloc Af rfl fun b2 w1 d b=>?_);have s1:=d.ext;have e:=d.gY c0;have c1:=c0.trans s1;refine cD ?_;refine WC.je (t:=8) (v:=.bool (decide (n<0) || decide (99<n))) (fun f=>w1=f) ?_ ?_
 ·
  refine(cG) (fun g5=>?_) (fun g5=>?_)
  ·
   exact(bY) (by simp only [g5];first | rfl | simp) rfl
  exact(bY) (by simp only [g5];first | rfl | simp) rfl
 rintro _ rfl;refine(aT) (fun g8=>?_) fun g8=>?_
 ·
  have hk:bz n=bO:=by unfold bz;rw [if_pos (by simp at g8;omega)]
  refine bJ ?_;refine WP .r (PV.br (us:=[.int .i64 0,.string ⟨#[]⟩]) vy rfl rfl rfl)<|?_;refine WL.go rfl (OX.kL fW b rfl rfl rfl rfl rfl fun w2 s2 _ b=>?_);have c2:=c1.own s2 e;refine(jt) ak b.range<|?_;rw [hk];exact⟨rfl,c2⟩
 simp at g8
 have hk:bz n=⟨30,itoa n⟩:=by unfold bz;rw [if_neg (by omega)]
 refine(cE) Ia (gF (n:=n) (by omega) (by omega) w1) ?_;rintro _ w2 ⟨rfl,s2⟩;have c2:=c1.trans s2;have b:=b.ext s2;refine WP .r (PV.br (us:=[.int .i64 30,.string (itoa n)]) vy rfl rfl rfl)<|?_;refine WL.go rfl (OX.kL fW b rfl rfl rfl rfl rfl fun w3 g _ b=>?_);have c3:=c2.own g e;refine(jt) ak b.range<|?_;rw [hk];exact⟨rfl,c3⟩
theorem ef(hr:eE A w a r c aa):CR prog 21 #[.slice a r c,.int .i64 n] w ((aH aa n).val):=by
 have hle:=hr.le;have hlen:=hr.len;refine enter func21 rfl ntmps21 rfl<|?_;have c0:aK [] w w:=aK.refl _ _;refine bJ ?_;refine WL.go rfl (OX.alloc Af rfl fun b4 w1 m b=>?_);have s1:=m.ext;have f:=m.gY c0;have c1:=c0.trans s1;refine cD ?_;refine WC.je (t:=17) (v:=.bool (decide (n<0) || (decide ((r:Int)≤n) || decide (99<n)))) (fun y=>w1=y) ?_ ?_
 ·
  refine(cG) (fun g8=>?_) (fun g8=>?_)
  ·
   exact(bY) (by simp only [g8];first | rfl | simp) rfl
  refine bJ ?_;refine WP .r (PV.fZ gT rfl)<|(cG) (fun g14=>?_) (fun g14=>?_)
  ·
   exact(bY) (by simp only [g8,g14];first | rfl | simp) rfl
  exact(bY) (by simp only [g8,g14];first | rfl | simp) rfl
 rintro _ rfl;refine(aT) (fun g17=>?_) fun g17=>?_
 ·
  have hk:aH aa n=bO:=by unfold aH;rw [if_pos (by simp at g17;omega)]
  refine bJ ?_;refine WP .r (PV.br (us:=[.int .i64 0,.string ⟨#[]⟩]) vy rfl rfl rfl)<|?_;refine WL.go rfl (OX.kL fW b rfl rfl rfl rfl rfl fun w2 s2 _ b=>?_);have c2:=c1.own s2 f;refine(jt) ak b.range<|?_;rw [hk];exact⟨rfl,c2⟩
 simp at g17
 obtain⟨i,rfl⟩:∃i:Nat,n=i:=⟨n.toNat,by omega⟩
 have hi:i<aa.length:=by omega
 have hk:aH aa i=⟨if ax aa i then 32 else 31,itoa i⟩:=by unfold aH;rw [if_neg (by omega)];rfl
 have o:=bE hi;refine(cE) Ia (gF (n:=(i:Int)) (by omega) (by omega) w1) ?_;rintro _ w2 ⟨rfl,s2⟩;have c2:=c1.trans s2;have b:=b.ext s2;refine WP .r (PV.br (us:=[.int .i64 31,.string (itoa i)]) vy rfl rfl rfl)<|?_;refine WL.go rfl (OX.alloc Af rfl fun b5 w3 g d=>?_);have p:=g.ext;have q:=g.gY c2;have h:b4≠b5:=g.ne b.lt;have s:b5≠b4:=Ne.symm h;have c3:=c2.trans p;have b:=b.ext p;refine WL.go rfl (OX.kL fW d rfl rfl rfl rfl rfl fun w4 u _ d=>?_);have c4:=c3.own u q;have b:=b.bS u (by simp [h]);refine cD ?_;obtain⟨b1,D,r1,z,_,⟨q1,E,F,rfl,_⟩,B,_⟩:=(hr.ext c4).at (ae hi);refine cq ?_;refine WP .r (PV.dO gT z rfl rfl (by omega))<|WP .r (PV.fa iK rfl)<|(bq) dm B<|(aT) (fun j=>?_) fun j=>?_
 ·
  have l:aH aa i=⟨32,itoa i⟩:=by rw [hk,o,j];rfl
  refine nx ?_;refine WP .r (PV.fa cQ rfl)<|?_;refine WL.go rfl (OX.st Of d rfl rfl (by first | (simp [nth];done) | exact OS rfl) rfl rfl fun w5 e _ d=>?_);have c5:=c4.own e q;have b:=b.bS e (by simp [h]);refine(bf) ak d.range<|?_;refine WL.go rfl (OX.kL fW b rfl rfl rfl rfl rfl fun w6 x _ b=>?_);have C:=c5.own x f;have d:=d.bS x (by simp [s]);refine(jt) ak b.range<|?_;rw [l];exact⟨rfl,C⟩
 have l:aH aa i=⟨31,itoa i⟩:=by rw [hk,o,j];rfl
 refine(bf) ak d.range<|?_;refine WL.go rfl (OX.kL fW b rfl rfl rfl rfl rfl fun w5 e _ b=>?_);have c5:=c4.own e f;have d:=d.bS e (by simp [s]);refine(jt) ak b.range<|?_;rw [l];exact⟨rfl,c5⟩
theorem oS{l:List Key}(hl:u0 A w a r c l):CR prog 25 #[.slice a r c,k.val] w (.bool (decide (k∈l))):=by
 have hle:=hl.le;have hlen:=hl.len;refine enter func25 rfl ntmps25 rfl<|?_;have c0:aK [] w w:=aK.refl _ _;refine bJ ?_;refine WL.go rfl (OX.box rfl rfl rfl fun b3 w1 j b=>?_);have s1:=j.ext;have D:=j.gY c0;have c1:=c0.trans s1;refine eX ?_;refine WP .r (PV.fZ dn rfl)<|cD ?_;refine WC.loop (σ:=Nat × World) (db:=fun s=>[(3,.pointer (some ⟨b3,0,none⟩)),(7,.slice a r c),(8,.int .i64 (r:Int)),(9,.int .i64 (s.1:Int))]) (I:=fun s w'=>aK [] w w'∧bM w' b3 43 [.int .i64 k.kind,.string k.text]∧s.1≤r∧k∉l.take s.1) (μ:=fun s=>r - s.1) (0,w) Sub.t ⟨c1,b,by omega,by simp⟩ ?_;rintro⟨i,_⟩ w2 ⟨c2,b,hi,m⟩;refine(aT) (fun g10=>?_) fun g10=>?_
 ·
  simp at g10
  have d:i<l.length:=by omega
  refine df ?_;obtain⟨b1,E,r1,y,_,rfl,z,_⟩:=(hl.ext c2).at (ae d);refine nx ?_;refine WP .r (PV.dO dn y rfl rfl (by omega))<|(bf) ak z<|?_;refine WL.go rfl (OX.alloc Af rfl fun o w3 f g=>?_);have u:=f.ext;have B:=f.gY c2;have v:b3≠o:=f.ne b.lt;have F:o≠b3:=Ne.symm v;have c3:=c2.trans u;have b:=b.ext u;refine WL.go rfl (OX.kL fW g rfl rfl rfl rfl rfl fun w4 x _ g=>?_);have c4:=c3.own x B;have b:=b.bS x (by simp [v]);refine(bf) ak g.range<|(bf) ak b.range<|?_;refine WP .r (PV.Ce eI (p:=l[i]) (q:=k) rfl rfl)<|(aT) (fun g15=>?_) fun g15=>?_
  ·
   simp at g15
   refine(bF) ?_;exact⟨by rw [decide_eq_true (g15 ▸ List.getElem_mem d)],c4⟩
  simp at g15
  refine eX ?_;refine EX.again (i+1,w) (Sub.k2 rfl rfl<|Sub.cons rfl<|Sub.gM rfl (by simp)<|Sub.nil) ⟨c4,b,by omega,by have h:=List.take_succ_eq_append_getElem d;simp only [h,List.mem_append,List.mem_singleton,not_or];exact⟨m,fun e=>g15 e.symm⟩⟩ (by simp;omega)
 simp at g10
 have C:k∉l:=by rw [← List.take_of_length_le (show l.length≤i by omega)];exact m
 refine(bF) ?_;exact⟨by rw [decide_eq_false C],c2⟩
theorem mn{s:ByteArray} :CR prog 105 #[.string s] w (.int .i64 (cY s)):=by
 have he:=tR s;have q:=qI s;refine enter func105 rfl ntmps105 rfl<|?_;have c0:aK [] w w:=aK.refl _ _;refine eX ?_;refine WC.je (t:=20) (v:=.bool (jT s)) (fun g=>w=g) ?_ ?_
 ·
  refine(cG) (fun g7=>?_) (fun g7=>?_)
  ·
   refine aQ ?_;exact(bY) (by unfold jT;first | (simp only [g7,b];done) | (simp only [g7,b];rfl) | (simp only [g7];rfl)) rfl
  skip
  refine nx ?_;refine WP .r (PV.uR rM rfl)<|(cG) (fun g12=>?_) (fun g12=>?_)
  ·
   exact(bY) (by unfold jT;first | (simp only [g7,g12,b];done) | (simp only [g7,g12,b];rfl) | (simp only [g7,g12];rfl)) rfl
  have o:=of_decide_eq_false g7;rw [he] at o;obtain⟨b0,d,b⟩:=xi s (by omega);refine nx ?_;refine WP .r (PV.GQ rM (i:=0) rfl rfl d)<|(cG) (fun g16=>?_) (fun g16=>?_)
  ·
   exact(bY) (by unfold jT;first | (simp only [g7,g12,g16,b];done) | (simp only [g7,g12,g16,b];rfl) | (simp only [g7,g12,g16];rfl)) rfl
  exact(bY) (by unfold jT;first | (simp only [g7,g12,g16,b];done) | (simp only [g7,g12,g16,b];rfl) | (simp only [g7,g12,g16];rfl)) rfl
 rintro _ rfl;refine(aT) (fun g20=>?_) fun g20=>?_
 ·
  have e:cY s = -1:=by rw [pa];rw [if_pos g20]
  refine(bF) ?_;rw [e];exact⟨rfl,c0⟩
 have e:cY s=decFrom s.data.toList 0:=by rw [pa,g20];rfl
 have u:=Cj g20;refine aQ ?_;refine bJ ?_;refine WC.loop (σ:=Nat × Nat) (db:=fun p=>[(0,.string s),(3,.int .i64 (p.2:Int)),(4,.int .i64 (p.1:Int))]) (I:=fun p w'=>aK [] w w'∧p.1≤s.size∧p.2<10 ^ p.1∧decFrom s.data.toList 0=decFrom (s.data.toList.drop p.1) p.2) (μ:=fun p=>s.size - p.1) (0,0) Sub.t ⟨c0,by simp,by simp,by simp⟩ ?_;rintro⟨i,n⟩ w1 ⟨c1,hi,hn,f⟩;simp only at hi hn f;have x:n<10 ^ 9:=Nat.lt_of_lt_of_le hn (Nat.pow_le_pow_right (by omega) (by omega));refine df ?_;refine WP .r (PV.uR rM rfl)<|(aT) (fun g24=>?_) fun g24=>?_
 ·
  simp at g24
  obtain⟨b0,d,h⟩:=u7 s (n:=(n:Int)) g24;refine fY ?_;refine WC.je (t:=36) (v:=.bool (decide ((b0.toNat:Int)<48) || decide (57<(b0.toNat:Int)))) (fun g=>w1=g) ?_ ?_
  ·
   refine cq ?_;refine WP .r (PV.GQ rM (i:=i) rfl rfl d)<|(cG) (fun j=>?_) (fun j=>?_)
   ·
    exact(bY) (by simp only [j];first | rfl | simp) rfl
   refine bJ ?_;refine WP .r (PV.GQ rM (i:=i) rfl rfl d)<|?_;exact(bY) (by simp only [j];first | rfl | simp) rfl
  rintro _ rfl;refine(aT) (fun l=>?_) fun l=>?_
  ·
   have m:cY s = -1:=by rw [e,f,h,if_pos (by simp at l;omega)]
   refine(bF) ?_;rw [m];exact⟨rfl,c1⟩
  simp at l
  rw [if_neg (by omega)] at h;have y:10 ^ (i+1)=10*10 ^ i:=Nat.pow_succ';refine cD ?_;refine WP .r (PV.mul rfl rfl (by omega) (by omega))<|bJ ?_;refine WP .r (PV.GQ rM (i:=i) rfl rfl d)<|WP .r (PV.OP rfl rfl (by omega) (by omega))<|WP .r (PV.conv ⟨_,V8⟩ V6 rfl (by omega) (by omega))<|lU ?_;refine EX.again (i+1,10*n+(b0.toNat - 48)) (Sub.cons rfl<|Sub.gM rfl (by simp;omega)<|Sub.gM rfl (by simp)<|Sub.nil) ⟨c1,by simp;omega,by simp only;omega,by simp only;rw [f,h];congr 1;omega⟩ (by simp only;omega)
 simp at g24
 have m:cY s=n:=by rw [e,f,List.drop_eq_nil_of_le (by rw [Array.length_toList];exact g24)];rfl
 refine(bF) ?_;rw [m];exact⟨rfl,c1⟩
theorem il :CR prog 64 #[k.val] w (.int .i64 (number k)):=by
 refine enter func64 rfl ntmps64 rfl<|?_;have c0:aK [] w w:=aK.refl _ _;refine bJ ?_;refine WL.go rfl (OX.box rfl rfl rfl fun b1 w1 d b=>?_);have s1:=d.ext;have f:=d.gY c0;have c1:=c0.trans s1;refine fY ?_;refine WP .r (PV.fa oM rfl)<|(bq) fq b.range<|(cE) Js (mn (s:=k.text)) ?_;rintro _ w2 ⟨rfl,s2⟩;have c2:=c1.trans s2;have b:=b.ext s2;refine cD ?_;refine WC.je (t:=18) (v:=.bool (decide (30≤k.kind) && (decide (k.kind≤32) && decide (cY k.text≤99)))) (fun e=>w2=e) ?_ ?_
 ·
  refine nx ?_;refine WP .r (PV.fa cQ rfl)<|(bq) aL b.range<|(cG) (fun g10=>?_) (fun g10=>?_)
  ·
   refine WP .r (PV.fa cQ rfl)<|(bq) aL b.range<|(cG) (fun g15=>?_) (fun g15=>?_)
   ·
    exact(bY) (by simp only [g10,g15];first | rfl | simp) rfl
   exact(bY) (by simp only [g10,g15];first | rfl | simp) rfl
  exact(bY) (by simp only [g10];first | rfl | simp) rfl
 rintro _ rfl;refine(aT) (fun g18=>?_) fun g18=>?_
 ·
  simp at g18
  have hn:number k=cY k.text:=by unfold number;rw [if_pos g18]
  refine(bF) ?_;rw [hn];exact⟨rfl,c2⟩
 simp at g18
 have hn:number k = -1:=by unfold number;rw [if_neg (by intro h;have:=g18 h.1 h.2.1;omega)]
 refine(bF) ?_;rw [hn];exact⟨rfl,c2⟩
theorem gl :CR prog 33 #[k.val] w (.bool (el k)):=by
 refine enter func33 rfl ntmps33 rfl<|?_;have c0:aK [] w w:=aK.refl _ _;refine bJ ?_;refine WL.go rfl (OX.box rfl rfl rfl fun b1 w1 i b=>?_);have s1:=i.ext;have j:=i.gY c0;have c1:=c0.trans s1;refine df ?_;refine WC.je (t:=10) (v:=.bool (decide (30≤k.kind) && decide (k.kind≤32))) (fun g=>w1=g) ?_ ?_
 ·
  refine nx ?_;refine WP .r (PV.fa cQ rfl)<|(bq) aL b.range<|(cG) (fun g6=>?_) (fun g6=>?_)
  ·
   refine WP .r (PV.fa cQ rfl)<|(bq) aL b.range<|?_;exact(bY) (by simp only [g6];first | rfl | simp) rfl
  exact(bY) (by simp only [g6];first | rfl | simp) rfl
 rintro _ rfl;refine(aT) (fun g10=>?_) fun g10=>?_
 ·
  simp at g10
  refine(bf) ak b.range<|(cE) Ib (il (k:=k)) ?_;rintro _ w2 ⟨rfl,s2⟩;have c2:=c1.trans s2;have b:=b.ext s2;refine(bF) ?_;exact⟨by unfold el;rw [if_pos (by omega)],c2⟩
 simp at g10
 have d:=xj k (by omega);refine cq ?_;refine WC.kj (t:=2) (v:=.bool (el k)) (fun g=>w1=g) ?_ ?_
 ·
  refine nx ?_;refine WP .r (PV.fa cQ rfl)<|(bq) aL b.range<|(cG) (fun g17=>?_) (fun g17=>?_)
  ·
   refine WP .r (PV.fa cQ rfl)<|(bq) aL b.range<|(cG) (fun g22=>?_) (fun g22=>?_)
   ·
    refine WP .r (PV.fa oM rfl)<|(bq) fq b.range<|?_;refine WP .r (PV.uR rM rfl)<|(cG) (fun e=>?_) (fun e=>?_)
    ·
     refine WP .r (PV.fa oM rfl)<|(bq) fq b.range<|(cG) (fun f=>?_) (fun f=>?_)
     ·
      exact(e8) (by rw [d];simp only [g17,g22,e,f];first | rfl | simp) rfl
     refine WP .r (PV.fa cQ rfl)<|(bq) aL b.range<|(cG) (fun h=>?_) (fun h=>?_)
     ·
      refine WP .r (PV.fa cQ rfl)<|(bq) aL b.range<|?_;exact(e8) (by rw [d];simp only [g17,g22,e,f,h];first | rfl | simp) rfl
     exact(e8) (by rw [d];simp only [g17,g22,e,f,h];first | rfl | simp) rfl
    refine aQ ?_;exact(e8) (by rw [d];simp only [g17,g22,e];first | rfl | simp) rfl
   refine aQ ?_;exact(e8) (by rw [d];simp only [g17,g22];first | rfl | simp) rfl
  refine aQ ?_;refine aQ ?_;exact(e8) (by rw [d];simp only [g17];first | rfl | simp) rfl
 rintro _ rfl;refine(bF) ?_;exact⟨rfl,c1⟩
theorem dD :CR prog 89 #[k.val] w (.bool (aB k)):=by
 refine enter func89 rfl ntmps89 rfl<|?_;have c0:aK [] w w:=aK.refl _ _;refine bJ ?_;refine WL.go rfl (OX.box rfl rfl rfl fun b1 w1 d b=>?_);have s1:=d.ext;have e:=d.gY c0;have c1:=c0.trans s1;refine cD ?_;refine WC.kj (t:=2) (v:=.bool (aB k)) (aK [] w1) ?_<|?_
 ·
  refine nx ?_;refine WP .r (PV.fa cQ rfl)<|(bq) aL b.range<|(cG) (fun g6=>?_) (fun g6=>?_)
  ·
   refine aQ ?_;exact(e8) (by unfold aB;simp only [g6];first | rfl | simp) (aK.refl _ _)
  refine WP .r (PV.fa cQ rfl)<|(bq) aL b.range<|(cG) (fun g10=>?_) (fun g10=>?_)
  ·
   refine WP .r (PV.fa cQ rfl)<|(bq) aL b.range<|(cG) (fun g15=>?_) (fun g15=>?_)
   ·
    refine WP .r (PV.fa cQ rfl)<|(bq) aL b.range<|(cE) QM (x5 (n:=k.kind)) ?_;rintro _ w2 ⟨rfl,s2⟩;have c2:=c1.trans s2;have b:=b.ext s2;exact(e8) (by unfold aB;simp only [g6,g10,g15];first | rfl | simp) s2
   exact(e8) (by unfold aB;simp only [g6,g10,g15];first | rfl | simp) (aK.refl _ _)
  exact(e8) (by unfold aB;simp only [g6,g10];first | rfl | simp) (aK.refl _ _)
 intro w2 s2;have c2:=c1.trans s2;have b:=b.ext s2;refine(bF) ?_;exact⟨rfl,c2⟩
theorem jJ{q:Key} :CR prog 35 #[k.val,q.val] w (.int .i64 (bl k q)):=by
 refine enter func35 rfl ntmps35 rfl<|?_;have c0:aK [] w w:=aK.refl _ _;refine bJ ?_;refine WL.go rfl (OX.box rfl rfl rfl fun b2 w1 g b=>?_);have s1:=g.ext;have i:=g.gY c0;have c1:=c0.trans s1;refine WL.go rfl (OX.box rfl rfl rfl fun b3 w2 e d=>?_);have s2:=e.ext;have j:=e.gY c1;have h:b2≠b3:=e.ne b.lt;have l:b3≠b2:=Ne.symm h;have c2:=c1.trans s2;have b:=b.ext s2;refine eX ?_;refine WP .r (PV.fa cQ rfl)<|(bq) aL b.range<|?_;refine WP .r (PV.fa cQ rfl)<|(bq) aL d.range<|(aT) (fun g5=>?_) fun g5=>?_
 ·
  simp at g5
  refine(bF) ?_;exact⟨by unfold bl;rw [if_pos g5],c2⟩
 simp at g5
 refine bJ ?_;refine WP .r (PV.fa cQ rfl)<|(bq) aL b.range<|?_;refine WP .r (PV.fa cQ rfl)<|(bq) aL d.range<|(aT) (fun g11=>?_) fun g11=>?_
 ·
  simp at g11
  refine(bF) ?_;exact⟨by unfold bl;rw [if_neg (by omega),if_pos g11],c2⟩
 simp at g11
 refine df ?_;refine WP .r (PV.fa oM rfl)<|(bq) fq b.range<|?_;refine WP .r (PV.fa oM rfl)<|(bq) fq d.range<|(cE) Qn (mj k.text q.text w2) ?_;rintro _ w3 ⟨rfl,f⟩;have c3:=c2.trans f;have b:=b.ext f;have d:=d.ext f;refine(bF) ?_;exact⟨by unfold bl;rw [if_neg (by omega),if_neg (by omega)],c3⟩
end Go.Rc

