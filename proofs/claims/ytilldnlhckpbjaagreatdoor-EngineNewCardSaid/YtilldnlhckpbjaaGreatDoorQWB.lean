/- Walks over the program, part WB. Conditions: as each theorem says. -/
import Derived.Test.YtilldnlhckpbjaaGreatDoorQFacts
import Derived.Test.YtilldnlhckpbjaaGreatDoorQBb
import Derived.Test.YtilldnlhckpbjaaGreatDoorQBd
import Derived.Test.YtilldnlhckpbjaaGreatDoorShelf
import Derived.Lib.UnsafeStr
set_option linter.all false
namespace Go.Rc
open Go Go.Proofs Go.Proofs.Tryz
variable {n:Int}{w:World}{aa:List aG}{A:Nat→Prop}{a:Option Addr}{r c:Nat}{k:Key}
set_option maxHeartbeats 400000
theorem CB{m:Int}(b:m≤4611686018427387904):CR prog 61 #[.int .i64 n,.int .i64 m] w (.int .i64 (if m<1 then 0 else n % m)):=by
 refine enter func61 rfl ntmps61 rfl<|?_;have c0:aQ [] w w:=aQ.refl _ _;refine(aX) (fun g6=>?_) fun g6=>?_
 ·
  simp at g6
  refine(bB) ?_;exact⟨by rw [if_pos (by omega)],c0⟩
 simp at g6
 have k1:=Int.tmod_lt_of_pos n (show 0<m by omega);have k2:=Int.lt_tmod_of_pos n (show 0<m by omega);refine fj ?_;refine WP .r (PV.rem rfl rfl (by omega))<|cv ?_;refine WP .r (PV.rem rfl rfl (by omega))<|(bB) ?_;refine⟨?_,c0⟩;rw [if_neg (by omega)]
 congr 2
 rw [Int.tmod_eq_emod_of_nonneg (by omega),Int.add_emod_right,BI]
theorem pe(hr:ei A w a r c aa):CR prog 30 #[.slice a r c,.int .i64 n] w (.tuple #[.int .i64 (block aa n).1,.int .i64 (block aa n).2]):=by
 have hle:=hr.le;have hlen:=hr.len;refine enter func30 rfl ntmps30 rfl<|?_;have c0:aQ [] w w:=aQ.refl _ _;refine gW ?_;refine WC.jF (t:=15) (v:=.bool (decide (n<0) || decide ((r:Int)≤n))) (fun f=>w=f) ?_ ?_
 ·
  refine(cO) (fun g10=>?_) (fun g10=>?_)
  ·
   exact(cp) (by simp only [g10];first | done | rfl | simp) rfl
  refine bM ?_;refine WP .r (PV.gT gR rfl)<|?_;exact(cp) (by simp only [g10];first | done | rfl | simp) rfl
 rintro _ rfl;refine(aX) (fun g15=>?_) fun g15=>?_
 ·
  have hb:=tu aa n (by simp at g15;omega);refine(wv) ?_;exact⟨by rw [hb],c0⟩
 obtain⟨b,rfl⟩:∃i:Nat,n=i:=⟨n.toNat,by simp at g15;omega⟩
 have e:b<aa.length:=by simp at g15;omega
 have B:block aa b=if aA aa b then ((bd aa b:Int),(cU aa (b+1):Int)) else ((b:Int),(b:Int)+1):=by
  unfold block;rw [if_neg (by omega)];rfl
 refine aT ?_;refine nx ?_;refine WC.loop (σ:=Nat) (db:=fun k=>[(0,.slice a r c),(1,.int .i64 (b:Int)),(6,.int .i64 (k:Int)),(7,.int .i64 ((b:Int)+1))]) (I:=fun k w'=>aQ [] w w'∧k≤b∧bd aa k=bd aa b∧(aA aa b=false→k=b)) (μ:=fun k=>k) b Sub.t ⟨c0,Nat.le_refl _,rfl,fun _=>rfl⟩ ?_;rintro k w1 ⟨c1,hk,C,E⟩;refine bM ?_;obtain⟨b1,F,r1,q,_,⟨q1,G,H,rfl,_⟩,d,_⟩:=(hr.ext c1).at (ah e);refine WC.jF (t:=35) (v:=.bool (aa[b].ring && (decide ((0:Int)<k) && aA aa (k - 1)))) (fun f=>w1=f) ?_ ?_
 ·
  refine cv ?_;refine WP .r (PV.dR gR q rfl rfl (by omega))<|WP .r (PV.fa iF rfl)<|(bp) dd d<|(cO) (fun g24=>?_) (fun g24=>?_)
  ·
   refine(cO) (fun s=>?_) (fun s=>?_)
   ·
    obtain⟨b2,J,r2,u,_,⟨K,L,M,rfl,_⟩,x,_⟩:=(hr.ext c1).at (ah (show k - 1<aa.length by omega))
    simp at s
    have o:aa[k-1].ring=aA aa (k-1):=(bs (by omega)).symm;refine cv ?_;refine WP .r (PV.BD gR (k - 1) u rfl rfl (by omega) (by omega))<|WP .r (PV.fa iF rfl)<|(bp) dd x<|?_;exact(cp) (by simp [*]) rfl
   simp at s
   have N:¬(0<k):=by omega
   exact(cp) (by simp [*]) rfl
  exact(cp) (by simp [*]) rfl
 rintro _ rfl;refine(aX) (fun g=>?_) fun g=>?_
 ·
  simp at g
  obtain⟨g1,g2,g3⟩:=g;obtain⟨j,rfl⟩:∃j,k=j+1:=⟨k - 1,by omega⟩;refine lW ?_;refine EX.again j (Sub.k2 rfl rfl<|Sub.ir rfl (by omega)<|Sub.cons rfl<|Sub.nil) ⟨c1,by omega,by rw [← C,mY (by simpa using g3)],fun h=>absurd (bs e) (by simp [h,g1])⟩ (by omega)
 simp at g
 have O:(block aa b).1=k:=by
  rw [B]
  by_cases d:aA aa b=true
  ·
   rw [if_pos d]
   show(bd aa b:Int)=k
   rw [← C,oM]
   by_cases h0:k=0
   ·
    exact .inl h0
   exact .inr (g (by rw [← bs e];exact d) (by omega))
  rw [if_neg d,E (by simpa using d)]
 refine fb ?_;refine WC.loop (σ:=Nat) (db:=fun m=>[(0,.slice a r c),(1,.int .i64 (b:Int)),(6,.int .i64 (k:Int)),(7,.int .i64 (m:Int))]) (I:=fun m w'=>aQ [] w w'∧b+1≤m∧m≤r∧cU aa m=cU aa (b+1)∧(aA aa b=false→m=b+1)) (μ:=fun m=>r - m) (b+1) Sub.t ⟨c1,Nat.le_refl _,by omega,rfl,fun _=>rfl⟩ ?_;rintro m w2 ⟨c2,R,S,D,P⟩;refine bM ?_;obtain⟨b1,F,r1,q,_,⟨q1,G,H,rfl,_⟩,d,_⟩:=(hr.ext c2).at (ah e);refine WC.jF (t:=55) (v:=.bool (aa[b].ring && (decide ((m:Int)<r) && aA aa m))) (fun f=>w2=f) ?_ ?_
 ·
  refine cv ?_;refine WP .r (PV.dR gR q rfl rfl (by omega))<|WP .r (PV.fa iF rfl)<|(bp) dd d<|(cO) (fun p=>?_) (fun p=>?_)
  ·
   refine bM ?_;refine WP .r (PV.gT gR rfl)<|(cO) (fun y=>?_) (fun y=>?_)
   ·
    simp at y
    obtain⟨b2,J,r2,u,_,⟨K,L,M,rfl,_⟩,x,_⟩:=(hr.ext c2).at (ah (show m<aa.length by omega));have o:aa[m].ring=aA aa m:=(bs (by omega)).symm
    have z:decide ((m:Int)<r)=true:=by simp;omega
    refine bM ?_;refine WP .r (PV.dR gR u rfl rfl (by omega))<|WP .r (PV.fa iF rfl)<|(bp) dd x<|?_;exact(cp) (by first | (rw [o,p,z];rfl) | simp [*]) rfl
   simp at y
   have N:¬(m<aa.length):=by omega
   exact(cp) (by first | (rw [o,p,z];rfl) | simp [*]) rfl
  refine aT ?_;exact(cp) (by first | (rw [o,p,z];rfl) | simp [*]) rfl
 rintro _ rfl;refine(aX) (fun l=>?_) fun l=>?_
 ·
  simp at l
  obtain⟨g1,g2,g3⟩:=l;refine lW ?_;refine EX.again (m+1) (Sub.k2 rfl rfl<|Sub.cons rfl<|Sub.ir rfl (by omega)<|Sub.nil) ⟨c2,by omega,by omega,by rw [← D,← oL g3],fun h=>absurd (bs e) (by simp [h,g1])⟩ (by omega)
 simp at l
 have Q:(block aa b).2=m:=by
  rw [B]
  by_cases d:aA aa b=true
  ·
   rw [if_pos d]
   show(cU aa (b+1):Int)=m
   rw [← D,qk]
   rcases Nat.lt_or_ge m r with h0 | h0
   ·
    exact l (by rw [← bs e];exact d) (by omega)
   exact jG (by omega)
  rw [if_neg d,P (by simpa using d)];rfl
 refine aT ?_;refine(wv) ?_;exact⟨by rw [O,Q],c2⟩
theorem EW(w:World) (k:Nat) (os:Array Obj):aQ [] w (Sort.grow (w.drewN k) os):=⟨rfl,rfl,rfl,by simp [Sort.grow],Nat.le_add_right _ _,fun i hi _=>Sort.heap_grow_old (w.drewN k) os (k:=i) hi⟩
theorem ue(w:World) (e:TypeId) (s:ByteArray):aQ [] w (Lib.bytesWorld w e s):=aQ.xd (Lib.bytesWorld_below _ _ _) (by
 unfold Lib.bytesWorld
 rw [nk];exact Nat.le_succ _)
theorem rA(i:Nat):itoa (i:Int)=⟨(Lib.decDigits i).toArray⟩:=by
 unfold itoa Lib.itoa
 rw [if_neg (by omega),Int.toNat_natCast]
theorem gG(h0:0≤n) (h1:n≤99) (w:World):CR prog 52 #[.int .i64 n] w (.string (itoa n)):=by
 obtain⟨i,rfl⟩:∃i:Nat,n=i:=⟨n.toNat,by omega⟩
 exact(strconv_Itoa_small i (by omega) w).mono fun e w' ⟨he,hw⟩=>⟨by rw [he,rA],by rw [hw];exact aQ.refl _ _⟩
theorem jY(ht:j5 prog A w) (h0:-9223372036854775808≤n) (h1:n≤9223372036854775807):CR prog 52 #[.int .i64 n] w (.string (itoa n)):=
 (strconv_Itoa n h0 h1 w (by obtain⟨⟨b,_,_,h⟩,_⟩:=ht;exact h w rfl)).mono fun e w' ⟨he,k,os,hw⟩=>⟨he,by rw [hw];exact EW _ _ _⟩
theorem l8(s t:ByteArray) (w:World):CR prog 66 #[.string s,.string t] w (.int .i64 (Lib.compareBytes s.data.toList t.data.toList)):=
 (strings_Compare s t w).mono fun e w' ⟨he,hw⟩=>⟨he,by rw [hw];exact aQ.refl _ _⟩
theorem uf{d acc:Nat}(b:d<10) (e:acc<100000000000000000):Lib.parseUint10 acc [UInt8.ofNat (48+d)]=.ok (acc*10+d):=by
 have h:(UInt8.ofNat (48+d)).toNat=48+d:=by
  rw [UInt8.toNat_ofNat']
  omega
 simp only [Lib.parseUint10,h];rw [if_pos (by omega),if_neg (by omega),if_neg (by omega)]
 congr 1
 omega
theorem rB(b:UInt8):∀(l:List UInt8) (acc u:Nat),Lib.parseUint10 acc l=.ok u→Lib.parseUint10 acc (l++[b])=Lib.parseUint10 u [b]
 | [],acc,u,h=>by
  simp only [Lib.parseUint10] at h
  injection h with h
  subst h
  rfl
 | c::r,acc,u,h=>by
  have d:=fun a=>rB b r a u
  generalize Lib.parseUint10 u [b]=X at d ⊢
  simp only [List.cons_append,Lib.parseUint10] at h ⊢
  split at h
  ·
   rename_i h1
   rw [if_pos h1]
   split at h
   ·
    cases h
   rename_i e
   rw [if_neg e]
   split at h
   ·
    cases h
   rename_i f
   rw [if_neg f];exact d _ h
  cases h
theorem ug(n:Nat) (hn:n≤99999):Lib.parseUint10 0 (Lib.decDigits n)=.ok n:=by
 by_cases h:n<10
 ·
  rw [Lib.decDigits,dif_pos h];have h1:=uf (acc:=0) h (by omega);rw [Nat.zero_mul,Nat.zero_add] at h1;exact h1
 rw [Lib.decDigits,dif_neg h,rB _ _ _ _ (ug (n / 10) (by omega)),uf (by omega) (by omega)]
 congr 1
 omega
termination_by n
decreasing_by omega
theorem xM(n:Nat):∃b r,Lib.decDigits n=b::r∧48≤b.toNat:=by
 by_cases h:n<10
 ·
  refine⟨UInt8.ofNat (48+n),[],by rw [Lib.decDigits,dif_pos h],?_⟩;rw [UInt8.toNat_ofNat']
  omega
 obtain⟨b,r,h1,d⟩:=xM (n / 10);exact⟨b,r++[UInt8.ofNat (48+n % 10)],by rw [Lib.decDigits,dif_neg h,h1,List.cons_append],d⟩
termination_by n
decreasing_by omega
theorem Bs(n:Nat):(Lib.decDigits n).length≤n+1:=by
 by_cases h:n<10
 ·
  rw [Lib.decDigits,dif_pos h,List.length_singleton]
  omega
 have h1:=Bs (n / 10);rw [Lib.decDigits,dif_neg h,List.length_append,List.length_singleton]
 omega
termination_by n
decreasing_by omega
theorem EY{n:Nat}(hn:n≤99999):Lib.atoiAll (Lib.decDigits n)=.ok (n:Int):=by
 obtain⟨b,r,h1,e⟩:=xM n;have d:=ug n hn;rw [h1] at d ⊢;rw [Lib.atoiAll_plain b r (by omega) (by omega)]
 unfold Lib.parseMag
 rw [if_neg (by simp),d]
 show(if 9223372036854775808≤n then Lib.NumEnd.range else .ok (n:Int))=.ok (n:Int)
 rw [if_neg (by omega)]
theorem xN{n:Nat}(h:n≤99999) (w:World):CR prog 153 #[.string (itoa n)] w (.tuple #[.int .i64 (n:Int),.nilIface]):=by
 have b:(itoa (n:Int)).data.toList=Lib.decDigits n:=(congrArg (fun x:ByteArray=>x.data.toList) (rA n)).trans rfl
 refine(strconv_Atoi_ok (itoa n) ?_ n (by rw [b];exact EY h) w).mono fun e w' ⟨he,hw⟩=>⟨he,?_⟩
 ·
  have h1:=Bs n;rw [rA]
  show(Lib.decDigits n).toArray.size≤9223372036854775806
  rw [List.size_toArray]
  omega
 rcases hw with rfl | ⟨t,rfl⟩
 ·
  exact aQ.refl _ _
 exact ue _ _ _
theorem zY{n:Nat}(h:n≤99) (w:World):CR prog 153 #[.string (itoa n)] w (.tuple #[.int .i64 (n:Int),.nilIface]):=xN (by omega) w
set_option maxHeartbeats 400000
theorem xO :CR prog 131 #[.int .i64 n] w (.bool (iR n)):=by
 refine enter func131 rfl ntmps131 rfl<|?_;have c0:aQ [] w w:=aQ.refl _ _;refine fj ?_;refine WC.kC (t:=2) (v:=.bool (iR n)) (fun b=>w=b) ?_ ?_
 ·
  refine(cO) (fun g5=>?_) (fun g5=>?_)
  ·
   refine aT ?_;exact(fF) (by unfold iR;simp only [g5];first | rfl | simp) rfl
  refine(cO) (fun g9=>?_) (fun g9=>?_)
  ·
   exact(fF) (by unfold iR;simp only [g5,g9];first | rfl | simp) rfl
  refine(cO) (fun g13=>?_) (fun g13=>?_)
  ·
   exact(fF) (by unfold iR;simp only [g5,g9,g13];first | rfl | simp) rfl
  exact(fF) (by unfold iR;simp only [g5,g9,g13];first | rfl | simp) rfl
 rintro _ rfl;refine(bB) ?_;exact⟨rfl,c0⟩
theorem dP :CR prog 14 #[k.val] w (.bool (aw k)):=by
 refine enter func14 rfl ntmps14 rfl<|?_;have c0:aQ [] w w:=aQ.refl _ _;refine bM ?_;refine WL.go rfl (OX.box rfl rfl rfl fun b1 w1 d b=>?_);have s1:=d.ext;have f:=d.kz c0;have c1:=c0.trans s1;refine cw ?_;refine WC.kC (t:=2) (v:=.bool (aw k)) (fun e=>w1=e) ?_ ?_
 ·
  refine nx ?_;refine WP .r (PV.fa cT rfl)<|(bp) aP b.range<|(cO) (fun g6=>?_) (fun g6=>?_)
  ·
   exact(fF) (by unfold aw;simp only [g6];first | rfl | simp) rfl
  refine WP .r (PV.fa cT rfl)<|(bp) aP b.range<|(cO) (fun g11=>?_) (fun g11=>?_)
  ·
   exact(fF) (by unfold aw;simp only [g6,g11];first | rfl | simp) rfl
  refine WP .r (PV.fa cT rfl)<|(bp) aP b.range<|?_;exact(fF) (by unfold aw;simp only [g6,g11];first | rfl | simp) rfl
 rintro _ rfl;refine(bB) ?_;exact⟨rfl,c1⟩
theorem gH :CR prog 27 #[.int .i64 n] w ((bO n).val):=by
 refine enter func27 rfl ntmps27 rfl<|?_;have c0:aQ [] w w:=aQ.refl _ _;refine bM ?_;refine WL.go rfl (OX.alloc ED rfl fun b2 w1 d b=>?_);have s1:=d.ext;have e:=d.kz c0;have c1:=c0.trans s1;refine cw ?_;refine WC.jF (t:=8) (v:=.bool (decide (n<0) || decide (99<n))) (fun f=>w1=f) ?_ ?_
 ·
  refine(cO) (fun g5=>?_) (fun g5=>?_)
  ·
   exact(cp) (by simp only [g5];first | rfl | simp) rfl
  exact(cp) (by simp only [g5];first | rfl | simp) rfl
 rintro _ rfl;refine(aX) (fun g8=>?_) fun g8=>?_
 ·
  have hk:bO n=dA:=by unfold bO;rw [if_pos (by simp at g8;omega)]
  refine bM ?_;refine WP .r (PV.br (us:=[.int .i64 0,.string ⟨#[]⟩]) xJ rfl rfl rfl)<|?_;refine WL.go rfl (OX.oH gk b rfl rfl rfl rfl rfl fun w2 s2 _ b=>?_);have c2:=c1.own s2 e;refine(kp) ak b.range<|?_;rw [hk];exact⟨rfl,c2⟩
 simp at g8
 have hk:bO n=⟨30,itoa n⟩:=by unfold bO;rw [if_neg (by omega)]
 refine(cJ) HH (gG (n:=n) (by omega) (by omega) w1) ?_;rintro _ w2 ⟨rfl,s2⟩;have c2:=c1.trans s2;have b:=b.ext s2;refine WP .r (PV.br (us:=[.int .i64 30,.string (itoa n)]) xJ rfl rfl rfl)<|?_;refine WL.go rfl (OX.oH gk b rfl rfl rfl rfl rfl fun w3 g _ b=>?_);have c3:=c2.own g e;refine(kp) ak b.range<|?_;rw [hk];exact⟨rfl,c3⟩
theorem fu(hr:ei A w a r c aa):CR prog 21 #[.slice a r c,.int .i64 n] w ((aN aa n).val):=by
 have hle:=hr.le;have hlen:=hr.len;refine enter func21 rfl ntmps21 rfl<|?_;have c0:aQ [] w w:=aQ.refl _ _;refine bM ?_;refine WL.go rfl (OX.alloc ED rfl fun b4 w1 m b=>?_);have s1:=m.ext;have f:=m.kz c0;have c1:=c0.trans s1;refine cw ?_;refine WC.jF (t:=17) (v:=.bool (decide (n<0) || (decide ((r:Int)≤n) || decide (99<n)))) (fun y=>w1=y) ?_ ?_
 ·
  refine(cO) (fun g8=>?_) (fun g8=>?_)
  ·
   exact(cp) (by simp only [g8];first | rfl | simp) rfl
  refine bM ?_;refine WP .r (PV.gT gR rfl)<|(cO) (fun g14=>?_) (fun g14=>?_)
  ·
   exact(cp) (by simp only [g8,g14];first | rfl | simp) rfl
  exact(cp) (by simp only [g8,g14];first | rfl | simp) rfl
 rintro _ rfl;refine(aX) (fun g17=>?_) fun g17=>?_
 ·
  have hk:aN aa n=dA:=by unfold aN;rw [if_pos (by simp at g17;omega)]
  refine bM ?_;refine WP .r (PV.br (us:=[.int .i64 0,.string ⟨#[]⟩]) xJ rfl rfl rfl)<|?_;refine WL.go rfl (OX.oH gk b rfl rfl rfl rfl rfl fun w2 s2 _ b=>?_);have c2:=c1.own s2 f;refine(kp) ak b.range<|?_;rw [hk];exact⟨rfl,c2⟩
 simp at g17
 obtain⟨i,rfl⟩:∃i:Nat,n=i:=⟨n.toNat,by omega⟩
 have hi:i<aa.length:=by omega
 have hk:aN aa i=⟨if aA aa i then 32 else 31,itoa i⟩:=by unfold aN;rw [if_neg (by omega)];rfl
 have o:=bs hi;refine(cJ) HH (gG (n:=(i:Int)) (by omega) (by omega) w1) ?_;rintro _ w2 ⟨rfl,s2⟩;have c2:=c1.trans s2;have b:=b.ext s2;refine WP .r (PV.br (us:=[.int .i64 31,.string (itoa i)]) xJ rfl rfl rfl)<|?_;refine WL.go rfl (OX.alloc ED rfl fun b5 w3 g d=>?_);have p:=g.ext;have q:=g.kz c2;have h:b4≠b5:=g.ne b.lt;have s:b5≠b4:=Ne.symm h;have c3:=c2.trans p;have b:=b.ext p;refine WL.go rfl (OX.oH gk d rfl rfl rfl rfl rfl fun w4 u _ d=>?_);have c4:=c3.own u q;have b:=b.cq u (by simp [h]);refine cw ?_;obtain⟨b1,D,r1,z,_,⟨q1,E,F,rfl,_⟩,B,_⟩:=(hr.ext c4).at (ah hi);refine cv ?_;refine WP .r (PV.dR gR z rfl rfl (by omega))<|WP .r (PV.fa iF rfl)<|(bp) dd B<|(aX) (fun j=>?_) fun j=>?_
 ·
  have l:aN aa i=⟨32,itoa i⟩:=by rw [hk,o,j];rfl
  refine nx ?_;refine WP .r (PV.fa cT rfl)<|?_;refine WL.go rfl (OX.st IW d rfl rfl (by first | (simp [nth];done) | exact SH rfl) rfl rfl fun w5 e _ d=>?_);have c5:=c4.own e q;have b:=b.cq e (by simp [h]);refine(bP) ak d.range<|?_;refine WL.go rfl (OX.oH gk b rfl rfl rfl rfl rfl fun w6 x _ b=>?_);have C:=c5.own x f;have d:=d.cq x (by simp [s]);refine(kp) ak b.range<|?_;rw [l];exact⟨rfl,C⟩
 have l:aN aa i=⟨31,itoa i⟩:=by rw [hk,o,j];rfl
 refine(bP) ak d.range<|?_;refine WL.go rfl (OX.oH gk b rfl rfl rfl rfl rfl fun w5 e _ b=>?_);have c5:=c4.own e f;have d:=d.cq e (by simp [s]);refine(kp) ak b.range<|?_;rw [l];exact⟨rfl,c5⟩
theorem l9{s:ByteArray} :CR prog 105 #[.string s] w (.int .i64 (cV s)):=by
 have he:=tv s;have q:=qm s;refine enter func105 rfl ntmps105 rfl<|?_;have c0:aQ [] w w:=aQ.refl _ _;refine fb ?_;refine WC.jF (t:=20) (v:=.bool (jH s)) (fun g=>w=g) ?_ ?_
 ·
  refine(cO) (fun g7=>?_) (fun g7=>?_)
  ·
   refine aT ?_;exact(cp) (by unfold jH;first | (simp only [g7,b];done) | (simp only [g7,b];rfl) | (simp only [g7];rfl)) rfl
  skip
  refine nx ?_;refine WP .r (PV.uu rj rfl)<|(cO) (fun g12=>?_) (fun g12=>?_)
  ·
   exact(cp) (by unfold jH;first | (simp only [g7,g12,b];done) | (simp only [g7,g12,b];rfl) | (simp only [g7,g12];rfl)) rfl
  have o:=of_decide_eq_false g7;rw [he] at o;obtain⟨b0,d,b⟩:=wW s (by omega);refine nx ?_;refine WP .r (PV.Gb rj (i:=0) rfl rfl d)<|(cO) (fun g16=>?_) (fun g16=>?_)
  ·
   exact(cp) (by unfold jH;first | (simp only [g7,g12,g16,b];done) | (simp only [g7,g12,g16,b];rfl) | (simp only [g7,g12,g16];rfl)) rfl
  exact(cp) (by unfold jH;first | (simp only [g7,g12,g16,b];done) | (simp only [g7,g12,g16,b];rfl) | (simp only [g7,g12,g16];rfl)) rfl
 rintro _ rfl;refine(aX) (fun g20=>?_) fun g20=>?_
 ·
  have e:cV s = -1:=by rw [oN];rw [if_pos g20]
  refine(bB) ?_;rw [e];exact⟨rfl,c0⟩
 have e:cV s=decFrom s.data.toList 0:=by rw [oN,g20];rfl
 have u:=BJ g20;refine aT ?_;refine bM ?_;refine WC.loop (σ:=Nat × Nat) (db:=fun p=>[(0,.string s),(3,.int .i64 (p.2:Int)),(4,.int .i64 (p.1:Int))]) (I:=fun p w'=>aQ [] w w'∧p.1≤s.size∧p.2<10 ^ p.1∧decFrom s.data.toList 0=decFrom (s.data.toList.drop p.1) p.2) (μ:=fun p=>s.size - p.1) (0,0) Sub.t ⟨c0,by simp,by simp,by simp⟩ ?_;rintro⟨i,n⟩ w1 ⟨c1,hi,hn,f⟩;simp only at hi hn f;have x:n<10 ^ 9:=Nat.lt_of_lt_of_le hn (Nat.pow_le_pow_right (by omega) (by omega));refine dp ?_;refine WP .r (PV.uu rj rfl)<|(aX) (fun g24=>?_) fun g24=>?_
 ·
  simp at g24
  obtain⟨b0,d,h⟩:=uD s (n:=(n:Int)) g24;refine fj ?_;refine WC.jF (t:=36) (v:=.bool (decide ((b0.toNat:Int)<48) || decide (57<(b0.toNat:Int)))) (fun g=>w1=g) ?_ ?_
  ·
   refine cv ?_;refine WP .r (PV.Gb rj (i:=i) rfl rfl d)<|(cO) (fun j=>?_) (fun j=>?_)
   ·
    exact(cp) (by simp only [j];first | rfl | simp) rfl
   refine bM ?_;refine WP .r (PV.Gb rj (i:=i) rfl rfl d)<|?_;exact(cp) (by simp only [j];first | rfl | simp) rfl
  rintro _ rfl;refine(aX) (fun l=>?_) fun l=>?_
  ·
   have m:cV s = -1:=by rw [e,f,h,if_pos (by simp at l;omega)]
   refine(bB) ?_;rw [m];exact⟨rfl,c1⟩
  simp at l
  rw [if_neg (by omega)] at h;have y:10 ^ (i+1)=10*10 ^ i:=Nat.pow_succ';refine cw ?_;refine WP .r (PV.mul rfl rfl (by omega) (by omega))<|bM ?_;refine WP .r (PV.Gb rj (i:=i) rfl rfl d)<|WP .r (PV.N0 rfl rfl (by omega) (by omega))<|WP .r (PV.conv ⟨_,UN⟩ UM rfl (by omega) (by omega))<|kL ?_;refine EX.again (i+1,10*n+(b0.toNat - 48)) (Sub.cons rfl<|Sub.ir rfl (by simp;omega)<|Sub.ir rfl (by simp)<|Sub.nil) ⟨c1,by simp;omega,by simp only;omega,by simp only;rw [f,h];congr 1;omega⟩ (by simp only;omega)
 simp at g24
 have m:cV s=n:=by rw [e,f,List.drop_eq_nil_of_le (by rw [Array.length_toList];exact g24)];rfl
 refine(bB) ?_;rw [m];exact⟨rfl,c1⟩
theorem ia :CR prog 64 #[k.val] w (.int .i64 (number k)):=by
 refine enter func64 rfl ntmps64 rfl<|?_;have c0:aQ [] w w:=aQ.refl _ _;refine bM ?_;refine WL.go rfl (OX.box rfl rfl rfl fun b1 w1 d b=>?_);have s1:=d.ext;have f:=d.kz c0;have c1:=c0.trans s1;refine fj ?_;refine WP .r (PV.fa ot rfl)<|(bp) ff b.range<|(cJ) I1 (l9 (s:=k.text)) ?_;rintro _ w2 ⟨rfl,s2⟩;have c2:=c1.trans s2;have b:=b.ext s2;refine cw ?_;refine WC.jF (t:=18) (v:=.bool (decide (30≤k.kind) && (decide (k.kind≤32) && decide (cV k.text≤99)))) (fun e=>w2=e) ?_ ?_
 ·
  refine nx ?_;refine WP .r (PV.fa cT rfl)<|(bp) aP b.range<|(cO) (fun g10=>?_) (fun g10=>?_)
  ·
   refine WP .r (PV.fa cT rfl)<|(bp) aP b.range<|(cO) (fun g15=>?_) (fun g15=>?_)
   ·
    exact(cp) (by simp only [g10,g15];first | rfl | simp) rfl
   exact(cp) (by simp only [g10,g15];first | rfl | simp) rfl
  exact(cp) (by simp only [g10];first | rfl | simp) rfl
 rintro _ rfl;refine(aX) (fun g18=>?_) fun g18=>?_
 ·
  simp at g18
  have hn:number k=cV k.text:=by unfold number;rw [if_pos g18]
  refine(bB) ?_;rw [hn];exact⟨rfl,c2⟩
 simp at g18
 have hn:number k = -1:=by unfold number;rw [if_neg (by intro h;have:=g18 h.1 h.2.1;omega)]
 refine(bB) ?_;rw [hn];exact⟨rfl,c2⟩
theorem gl :CR prog 33 #[k.val] w (.bool (ek k)):=by
 refine enter func33 rfl ntmps33 rfl<|?_;have c0:aQ [] w w:=aQ.refl _ _;refine bM ?_;refine WL.go rfl (OX.box rfl rfl rfl fun b1 w1 i b=>?_);have s1:=i.ext;have j:=i.kz c0;have c1:=c0.trans s1;refine dp ?_;refine WC.jF (t:=10) (v:=.bool (decide (30≤k.kind) && decide (k.kind≤32))) (fun g=>w1=g) ?_ ?_
 ·
  refine nx ?_;refine WP .r (PV.fa cT rfl)<|(bp) aP b.range<|(cO) (fun g6=>?_) (fun g6=>?_)
  ·
   refine WP .r (PV.fa cT rfl)<|(bp) aP b.range<|?_;exact(cp) (by simp only [g6];first | rfl | simp) rfl
  exact(cp) (by simp only [g6];first | rfl | simp) rfl
 rintro _ rfl;refine(aX) (fun g10=>?_) fun g10=>?_
 ·
  simp at g10
  refine(bP) ak b.range<|(cJ) HI (ia (k:=k)) ?_;rintro _ w2 ⟨rfl,s2⟩;have c2:=c1.trans s2;have b:=b.ext s2;refine(bB) ?_;exact⟨by unfold ek;rw [if_pos (by omega)],c2⟩
 simp at g10
 have d:=wX k (by omega);refine cv ?_;refine WC.kC (t:=2) (v:=.bool (ek k)) (fun g=>w1=g) ?_ ?_
 ·
  refine nx ?_;refine WP .r (PV.fa cT rfl)<|(bp) aP b.range<|(cO) (fun g17=>?_) (fun g17=>?_)
  ·
   refine WP .r (PV.fa cT rfl)<|(bp) aP b.range<|(cO) (fun g22=>?_) (fun g22=>?_)
   ·
    refine WP .r (PV.fa ot rfl)<|(bp) ff b.range<|?_;refine WP .r (PV.uu rj rfl)<|(cO) (fun e=>?_) (fun e=>?_)
    ·
     refine WP .r (PV.fa ot rfl)<|(bp) ff b.range<|(cO) (fun f=>?_) (fun f=>?_)
     ·
      exact(fF) (by rw [d];simp only [g17,g22,e,f];first | rfl | simp) rfl
     refine WP .r (PV.fa cT rfl)<|(bp) aP b.range<|(cO) (fun h=>?_) (fun h=>?_)
     ·
      refine WP .r (PV.fa cT rfl)<|(bp) aP b.range<|?_;exact(fF) (by rw [d];simp only [g17,g22,e,f,h];first | rfl | simp) rfl
     exact(fF) (by rw [d];simp only [g17,g22,e,f,h];first | rfl | simp) rfl
    refine aT ?_;exact(fF) (by rw [d];simp only [g17,g22,e];first | rfl | simp) rfl
   refine aT ?_;exact(fF) (by rw [d];simp only [g17,g22];first | rfl | simp) rfl
  refine aT ?_;refine aT ?_;exact(fF) (by rw [d];simp only [g17];first | rfl | simp) rfl
 rintro _ rfl;refine(bB) ?_;exact⟨rfl,c1⟩
theorem ib :CR prog 89 #[k.val] w (.bool (ax k)):=by
 refine enter func89 rfl ntmps89 rfl<|?_;have c0:aQ [] w w:=aQ.refl _ _;refine bM ?_;refine WL.go rfl (OX.box rfl rfl rfl fun b1 w1 d b=>?_);have s1:=d.ext;have e:=d.kz c0;have c1:=c0.trans s1;refine cw ?_;refine WC.kC (t:=2) (v:=.bool (ax k)) (aQ [] w1) ?_<|?_
 ·
  refine nx ?_;refine WP .r (PV.fa cT rfl)<|(bp) aP b.range<|(cO) (fun g6=>?_) (fun g6=>?_)
  ·
   refine aT ?_;exact(fF) (by unfold ax;simp only [g6];first | rfl | simp) (aQ.refl _ _)
  refine WP .r (PV.fa cT rfl)<|(bp) aP b.range<|(cO) (fun g10=>?_) (fun g10=>?_)
  ·
   refine WP .r (PV.fa cT rfl)<|(bp) aP b.range<|(cO) (fun g15=>?_) (fun g15=>?_)
   ·
    refine WP .r (PV.fa cT rfl)<|(bp) aP b.range<|(cJ) P1 (xO (n:=k.kind)) ?_;rintro _ w2 ⟨rfl,s2⟩;have c2:=c1.trans s2;have b:=b.ext s2;exact(fF) (by unfold ax;simp only [g6,g10,g15];first | rfl | simp) s2
   exact(fF) (by unfold ax;simp only [g6,g10,g15];first | rfl | simp) (aQ.refl _ _)
  exact(fF) (by unfold ax;simp only [g6,g10];first | rfl | simp) (aQ.refl _ _)
 intro w2 s2;have c2:=c1.trans s2;have b:=b.ext s2;refine(bB) ?_;exact⟨rfl,c2⟩
theorem lH{q:Key} :CR prog 35 #[k.val,q.val] w (.int .i64 (bl k q)):=by
 refine enter func35 rfl ntmps35 rfl<|?_;have c0:aQ [] w w:=aQ.refl _ _;refine bM ?_;refine WL.go rfl (OX.box rfl rfl rfl fun b2 w1 g b=>?_);have s1:=g.ext;have i:=g.kz c0;have c1:=c0.trans s1;refine WL.go rfl (OX.box rfl rfl rfl fun b3 w2 e d=>?_);have s2:=e.ext;have j:=e.kz c1;have h:b2≠b3:=e.ne b.lt;have l:b3≠b2:=Ne.symm h;have c2:=c1.trans s2;have b:=b.ext s2;refine fb ?_;refine WP .r (PV.fa cT rfl)<|(bp) aP b.range<|?_;refine WP .r (PV.fa cT rfl)<|(bp) aP d.range<|(aX) (fun g5=>?_) fun g5=>?_
 ·
  simp at g5
  refine(bB) ?_;exact⟨by unfold bl;rw [if_pos g5],c2⟩
 simp at g5
 refine bM ?_;refine WP .r (PV.fa cT rfl)<|(bp) aP b.range<|?_;refine WP .r (PV.fa cT rfl)<|(bp) aP d.range<|(aX) (fun g11=>?_) fun g11=>?_
 ·
  simp at g11
  refine(bB) ?_;exact⟨by unfold bl;rw [if_neg (by omega),if_pos g11],c2⟩
 simp at g11
 refine dp ?_;refine WP .r (PV.fa ot rfl)<|(bp) ff b.range<|?_;refine WP .r (PV.fa ot rfl)<|(bp) ff d.range<|(cJ) Ps (l8 k.text q.text w2) ?_;rintro _ w3 ⟨rfl,f⟩;have c3:=c2.trans f;have b:=b.ext f;have d:=d.ext f;refine(bB) ?_;exact⟨by unfold bl;rw [if_neg (by omega),if_neg (by omega)],c3⟩
end Go.Rc

