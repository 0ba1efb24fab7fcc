/- Walks over the program, part WB. Conditions: as each theorem says. -/
import Derived.Test.YtjpagoacbadijaaGreatDoorJFacts
import Derived.Test.YtjpagoacbadijaaGreatDoorJBb
import Derived.Test.YtjpagoacbadijaaGreatDoorJBe
import Derived.Test.YtjpagoacbadijaaGreatDoorShelf
import Derived.Lib.UnsafeStr
set_option linter.all false
namespace Go.Rc
open Go Go.Proofs Go.Proofs.Tryz
variable {n:Int}{w:World}{aa:List az}{A:Nat→Prop}{a:Option Addr}{r c:Nat}{k:Key}
set_option maxHeartbeats 400000
theorem CB{m:Int}(b:m≤4611686018427387904):CR prog 67 #[.int .i64 n,.int .i64 m] w (.int .i64 (if m<1 then 0 else n % m)):=by
 refine enter func67 rfl ntmps67 rfl<|?_;have c0:aJ [] w w:=aJ.refl _ _;refine(aP) (fun g6=>?_) fun g6=>?_
 ·
  simp at g6
  refine(bF) ?_;exact⟨by rw [if_pos (by omega)],c0⟩
 simp at g6
 have k1:=Int.tmod_lt_of_pos n (show 0<m by omega);have k2:=Int.lt_tmod_of_pos n (show 0<m by omega);refine fZ ?_;refine WP .r (PV.rem rfl rfl (by omega))<|ct ?_;refine WP .r (PV.rem rfl rfl (by omega))<|(bF) ?_;refine⟨?_,c0⟩;rw [if_neg (by omega)]
 congr 2
 rw [Int.tmod_eq_emod_of_nonneg (by omega),Int.add_emod_right,BW]
theorem o4(hr:ee A w a r c aa):CR prog 41 #[.slice a r c,.int .i64 n] w (.tuple #[.int .i64 (block aa n).1,.int .i64 (block aa n).2]):=by
 have hle:=hr.le;have hlen:=hr.len;refine enter func41 rfl ntmps41 rfl<|?_;have c0:aJ [] w w:=aJ.refl _ _;refine jx ?_;refine WC.i7 (t:=15) (v:=.bool (decide (n<0) || decide ((r:Int)≤n))) (fun f=>w=f) ?_ ?_
 ·
  refine(cz) (fun g10=>?_) (fun g10=>?_)
  ·
   exact(bW) (by simp only [g10];first | done | rfl | simp) rfl
  refine bP ?_;refine WP .r (PV.fV gn rfl)<|?_;exact(bW) (by simp only [g10];first | done | rfl | simp) rfl
 rintro _ rfl;refine(aP) (fun g15=>?_) fun g15=>?_
 ·
  have hb:=tp aa n (by simp at g15;omega);refine(sf) ?_;exact⟨by rw [hb],c0⟩
 obtain⟨b,rfl⟩:∃i:Nat,n=i:=⟨n.toNat,by simp at g15;omega⟩
 have e:b<aa.length:=by simp at g15;omega
 have B:block aa b=if ax aa b then ((bd aa b:Int),(cN aa (b+1):Int)) else ((b:Int),(b:Int)+1):=by
  unfold block;rw [if_neg (by omega)];rfl
 refine aN ?_;refine nx ?_;refine WC.loop (σ:=Nat) (cT:=fun k=>[(0,.slice a r c),(1,.int .i64 (b:Int)),(6,.int .i64 (k:Int)),(7,.int .i64 ((b:Int)+1))]) (I:=fun k w'=>aJ [] w w'∧k≤b∧bd aa k=bd aa b∧(ax aa b=false→k=b)) (μ:=fun k=>k) b Sub.t ⟨c0,Nat.le_refl _,rfl,fun _=>rfl⟩ ?_;rintro k w1 ⟨c1,hk,C,E⟩;refine bP ?_;obtain⟨b1,F,r1,q,_,⟨q1,G,H,rfl,_⟩,d,_⟩:=(hr.ext c1).at (ae e);refine WC.i7 (t:=35) (v:=.bool (aa[b].ring && (decide ((0:Int)<k) && ax aa (k - 1)))) (fun f=>w1=f) ?_ ?_
 ·
  refine ct ?_;refine WP .r (PV.dM gn q rfl rfl (by omega))<|WP .r (PV.fa iA rfl)<|(bp) di d<|(cz) (fun g24=>?_) (fun g24=>?_)
  ·
   refine(cz) (fun s=>?_) (fun s=>?_)
   ·
    obtain⟨b2,J,r2,u,_,⟨K,L,M,rfl,_⟩,x,_⟩:=(hr.ext c1).at (ae (show k - 1<aa.length by omega))
    simp at s
    have o:aa[k-1].ring=ax aa (k-1):=(bA (by omega)).symm;refine ct ?_;refine WP .r (PV.CZ gn (k - 1) u rfl rfl (by omega) (by omega))<|WP .r (PV.fa iA rfl)<|(bp) di x<|?_;exact(bW) (by simp [*]) rfl
   simp at s
   have N:¬(0<k):=by omega
   exact(bW) (by simp [*]) rfl
  exact(bW) (by simp [*]) rfl
 rintro _ rfl;refine(aP) (fun g=>?_) fun g=>?_
 ·
  simp at g
  obtain⟨g1,g2,g3⟩:=g;obtain⟨j,rfl⟩:∃j,k=j+1:=⟨k - 1,by omega⟩;refine px ?_;refine EX.again j (Sub.k2 rfl rfl<|Sub.gM rfl (by omega)<|Sub.cons rfl<|Sub.nil) ⟨c1,by omega,by rw [← C,mT (by simpa using g3)],fun h=>absurd (bA e) (by simp [h,g1])⟩ (by omega)
 simp at g
 have O:(block aa b).1=k:=by
  rw [B]
  by_cases d:ax aa b=true
  ·
   rw [if_pos d]
   show(bd aa b:Int)=k
   rw [← C,oI]
   by_cases h0:k=0
   ·
    exact .inl h0
   exact .inr (g (by rw [← bA e];exact d) (by omega))
  rw [if_neg d,E (by simpa using d)]
 refine eL ?_;refine WC.loop (σ:=Nat) (cT:=fun m=>[(0,.slice a r c),(1,.int .i64 (b:Int)),(6,.int .i64 (k:Int)),(7,.int .i64 (m:Int))]) (I:=fun m w'=>aJ [] w w'∧b+1≤m∧m≤r∧cN aa m=cN aa (b+1)∧(ax aa b=false→m=b+1)) (μ:=fun m=>r - m) (b+1) Sub.t ⟨c1,Nat.le_refl _,by omega,rfl,fun _=>rfl⟩ ?_;rintro m w2 ⟨c2,R,S,D,P⟩;refine bP ?_;obtain⟨b1,F,r1,q,_,⟨q1,G,H,rfl,_⟩,d,_⟩:=(hr.ext c2).at (ae e);refine WC.i7 (t:=55) (v:=.bool (aa[b].ring && (decide ((m:Int)<r) && ax aa m))) (fun f=>w2=f) ?_ ?_
 ·
  refine ct ?_;refine WP .r (PV.dM gn q rfl rfl (by omega))<|WP .r (PV.fa iA rfl)<|(bp) di d<|(cz) (fun p=>?_) (fun p=>?_)
  ·
   refine bP ?_;refine WP .r (PV.fV gn rfl)<|(cz) (fun y=>?_) (fun y=>?_)
   ·
    simp at y
    obtain⟨b2,J,r2,u,_,⟨K,L,M,rfl,_⟩,x,_⟩:=(hr.ext c2).at (ae (show m<aa.length by omega));have o:aa[m].ring=ax aa m:=(bA (by omega)).symm
    have z:decide ((m:Int)<r)=true:=by simp;omega
    refine bP ?_;refine WP .r (PV.dM gn u rfl rfl (by omega))<|WP .r (PV.fa iA rfl)<|(bp) di x<|?_;exact(bW) (by first | (rw [o,p,z];rfl) | simp [*]) rfl
   simp at y
   have N:¬(m<aa.length):=by omega
   exact(bW) (by first | (rw [o,p,z];rfl) | simp [*]) rfl
  refine aN ?_;exact(bW) (by first | (rw [o,p,z];rfl) | simp [*]) rfl
 rintro _ rfl;refine(aP) (fun l=>?_) fun l=>?_
 ·
  simp at l
  obtain⟨g1,g2,g3⟩:=l;refine px ?_;refine EX.again (m+1) (Sub.k2 rfl rfl<|Sub.cons rfl<|Sub.gM rfl (by omega)<|Sub.nil) ⟨c2,by omega,by omega,by rw [← D,← oH g3],fun h=>absurd (bA e) (by simp [h,g1])⟩ (by omega)
 simp at l
 have Q:(block aa b).2=m:=by
  rw [B]
  by_cases d:ax aa b=true
  ·
   rw [if_pos d]
   show(cN aa (b+1):Int)=m
   rw [← D,qh]
   rcases Nat.lt_or_ge m r with h0 | h0
   ·
    exact l (by rw [← bA e];exact d) (by omega)
   exact jO (by omega)
  rw [if_neg d,P (by simpa using d)];rfl
 refine aN ?_;refine(sf) ?_;exact⟨by rw [O,Q],c2⟩
theorem EY(w:World) (k:Nat) (os:Array Obj):aJ [] w (Sort.grow (w.drewN k) os):=⟨rfl,rfl,rfl,by simp [Sort.grow],Nat.le_add_right _ _,fun i hi _=>Sort.heap_grow_old (w.drewN k) os (k:=i) hi⟩
theorem uc(w:World) (e:TypeId) (s:ByteArray):aJ [] w (Lib.bytesWorld w e s):=aJ.wP (Lib.bytesWorld_below _ _ _) (by
 unfold Lib.bytesWorld
 rw [nb];exact Nat.le_succ _)
theorem ru(i:Nat):itoa (i:Int)=⟨(Lib.decDigits i).toArray⟩:=by
 unfold itoa Lib.itoa
 rw [if_neg (by omega),Int.toNat_natCast]
theorem gH(h0:0≤n) (h1:n≤99) (w:World):CR prog 29 #[.int .i64 n] w (.string (itoa n)):=by
 obtain⟨i,rfl⟩:∃i:Nat,n=i:=⟨n.toNat,by omega⟩
 exact(strconv_Itoa_small i (by omega) w).mono fun e w' ⟨he,hw⟩=>⟨by rw [he,ru],by rw [hw];exact aJ.refl _ _⟩
theorem j7(ht:jM prog A w) (h0:-9223372036854775808≤n) (h1:n≤9223372036854775807):CR prog 29 #[.int .i64 n] w (.string (itoa n)):=
 (strconv_Itoa n h0 h1 w (by obtain⟨⟨b,_,_,h⟩,_⟩:=ht;exact h w rfl)).mono fun e w' ⟨he,k,os,hw⟩=>⟨he,by rw [hw];exact EY _ _ _⟩
theorem lZ(s t:ByteArray) (w:World):CR prog 72 #[.string s,.string t] w (.int .i64 (Lib.compareBytes s.data.toList t.data.toList)):=
 (strings_Compare s t w).mono fun e w' ⟨he,hw⟩=>⟨he,by rw [hw];exact aJ.refl _ _⟩
theorem ud{d acc:Nat}(b:d<10) (e:acc<100000000000000000):Lib.parseUint10 acc [UInt8.ofNat (48+d)]=.ok (acc*10+d):=by
 have h:(UInt8.ofNat (48+d)).toNat=48+d:=by
  rw [UInt8.toNat_ofNat']
  omega
 simp only [Lib.parseUint10,h];rw [if_pos (by omega),if_neg (by omega),if_neg (by omega)]
 congr 1
 omega
theorem ry(b:UInt8):∀(l:List UInt8) (acc u:Nat),Lib.parseUint10 acc l=.ok u→Lib.parseUint10 acc (l++[b])=Lib.parseUint10 u [b]
 | [],acc,u,h=>by
  simp only [Lib.parseUint10] at h
  injection h with h
  subst h
  rfl
 | c::r,acc,u,h=>by
  have d:=fun a=>ry b r a u
  generalize Lib.parseUint10 u [b]=X at d ⊢
  simp only [List.cons_append,Lib.parseUint10] at h ⊢
  split at h
  ·
   rename_i h1
   rw [if_pos h1]
   split at h
   ·
    cases h
   rename_i e
   rw [if_neg e]
   split at h
   ·
    cases h
   rename_i f
   rw [if_neg f];exact d _ h
  cases h
theorem ue(n:Nat) (hn:n≤99999):Lib.parseUint10 0 (Lib.decDigits n)=.ok n:=by
 by_cases h:n<10
 ·
  rw [Lib.decDigits,dif_pos h];have h1:=ud (acc:=0) h (by omega);rw [Nat.zero_mul,Nat.zero_add] at h1;exact h1
 rw [Lib.decDigits,dif_neg h,ry _ _ _ _ (ue (n / 10) (by omega)),ud (by omega) (by omega)]
 congr 1
 omega
termination_by n
decreasing_by omega
theorem xD(n:Nat):∃b r,Lib.decDigits n=b::r∧48≤b.toNat:=by
 by_cases h:n<10
 ·
  refine⟨UInt8.ofNat (48+n),[],by rw [Lib.decDigits,dif_pos h],?_⟩;rw [UInt8.toNat_ofNat']
  omega
 obtain⟨b,r,h1,d⟩:=xD (n / 10);exact⟨b,r++[UInt8.ofNat (48+n % 10)],by rw [Lib.decDigits,dif_neg h,h1,List.cons_append],d⟩
termination_by n
decreasing_by omega
theorem Bz(n:Nat):(Lib.decDigits n).length≤n+1:=by
 by_cases h:n<10
 ·
  rw [Lib.decDigits,dif_pos h,List.length_singleton]
  omega
 have h1:=Bz (n / 10);rw [Lib.decDigits,dif_neg h,List.length_append,List.length_singleton]
 omega
termination_by n
decreasing_by omega
theorem EZ{n:Nat}(hn:n≤99999):Lib.atoiAll (Lib.decDigits n)=.ok (n:Int):=by
 obtain⟨b,r,h1,e⟩:=xD n;have d:=ue n hn;rw [h1] at d ⊢;rw [Lib.atoiAll_plain b r (by omega) (by omega)]
 unfold Lib.parseMag
 rw [if_neg (by simp),d]
 show(if 9223372036854775808≤n then Lib.NumEnd.range else .ok (n:Int))=.ok (n:Int)
 rw [if_neg (by omega)]
theorem xE{n:Nat}(h:n≤99999) (w:World):CR prog 154 #[.string (itoa n)] w (.tuple #[.int .i64 (n:Int),.nilIface]):=by
 have b:(itoa (n:Int)).data.toList=Lib.decDigits n:=(congrArg (fun x:ByteArray=>x.data.toList) (ru n)).trans rfl
 refine(strconv_Atoi_ok (itoa n) ?_ n (by rw [b];exact EZ h) w).mono fun e w' ⟨he,hw⟩=>⟨he,?_⟩
 ·
  have h1:=Bz n;rw [ru]
  show(Lib.decDigits n).toArray.size≤9223372036854775806
  rw [List.size_toArray]
  omega
 rcases hw with rfl | ⟨t,rfl⟩
 ·
  exact aJ.refl _ _
 exact uc _ _ _
theorem zS{n:Nat}(h:n≤99) (w:World):CR prog 154 #[.string (itoa n)] w (.tuple #[.int .i64 (n:Int),.nilIface]):=xE (by omega) w
set_option maxHeartbeats 400000
theorem xF :CR prog 96 #[.int .i64 n] w (.bool (jP n)):=by
 refine enter func96 rfl ntmps96 rfl<|?_;have c0:aJ [] w w:=aJ.refl _ _;refine fZ ?_;refine WC.ke (t:=2) (v:=.bool (jP n)) (fun b=>w=b) ?_ ?_
 ·
  refine(cz) (fun g5=>?_) (fun g5=>?_)
  ·
   refine aN ?_;exact(eT) (by unfold jP;simp only [g5];first | rfl | simp) rfl
  refine(cz) (fun g9=>?_) (fun g9=>?_)
  ·
   exact(eT) (by unfold jP;simp only [g5,g9];first | rfl | simp) rfl
  refine(cz) (fun g13=>?_) (fun g13=>?_)
  ·
   exact(eT) (by unfold jP;simp only [g5,g9,g13];first | rfl | simp) rfl
  exact(eT) (by unfold jP;simp only [g5,g9,g13];first | rfl | simp) rfl
 rintro _ rfl;refine(bF) ?_;exact⟨rfl,c0⟩
theorem dd :CR prog 44 #[k.val] w (.bool (aw k)):=by
 refine enter func44 rfl ntmps44 rfl<|?_;have c0:aJ [] w w:=aJ.refl _ _;refine bP ?_;refine WL.go rfl (OX.box rfl rfl rfl fun b1 w1 d b=>?_);have s1:=d.ext;have f:=d.gW c0;have c1:=c0.trans s1;refine cB ?_;refine WC.ke (t:=2) (v:=.bool (aw k)) (fun e=>w1=e) ?_ ?_
 ·
  refine nx ?_;refine WP .r (PV.fa cL rfl)<|(bp) aK b.range<|(cz) (fun g6=>?_) (fun g6=>?_)
  ·
   exact(eT) (by unfold aw;simp only [g6];first | rfl | simp) rfl
  refine WP .r (PV.fa cL rfl)<|(bp) aK b.range<|(cz) (fun g11=>?_) (fun g11=>?_)
  ·
   exact(eT) (by unfold aw;simp only [g6,g11];first | rfl | simp) rfl
  refine WP .r (PV.fa cL rfl)<|(bp) aK b.range<|?_;exact(eT) (by unfold aw;simp only [g6,g11];first | rfl | simp) rfl
 rintro _ rfl;refine(bF) ?_;exact⟨rfl,c1⟩
theorem gI :CR prog 19 #[.int .i64 n] w ((bB n).val):=by
 refine enter func19 rfl ntmps19 rfl<|?_;have c0:aJ [] w w:=aJ.refl _ _;refine bP ?_;refine WL.go rfl (OX.alloc zL rfl fun b2 w1 d b=>?_);have s1:=d.ext;have e:=d.gW c0;have c1:=c0.trans s1;refine cB ?_;refine WC.i7 (t:=8) (v:=.bool (decide (n<0) || decide (99<n))) (fun f=>w1=f) ?_ ?_
 ·
  refine(cz) (fun g5=>?_) (fun g5=>?_)
  ·
   exact(bW) (by simp only [g5];first | rfl | simp) rfl
  exact(bW) (by simp only [g5];first | rfl | simp) rfl
 rintro _ rfl;refine(aP) (fun g8=>?_) fun g8=>?_
 ·
  have hk:bB n=aW:=by unfold bB;rw [if_pos (by simp at g8;omega)]
  refine bP ?_;refine WP .r (PV.aY (us:=[.int .i64 0,.string ⟨#[]⟩]) q7 rfl rfl rfl)<|?_;refine WL.go rfl (OX.kB gi b rfl rfl rfl rfl rfl fun w2 s2 _ b=>?_);have c2:=c1.own s2 e;refine(jm) ak b.range<|?_;rw [hk];exact⟨rfl,c2⟩
 simp at g8
 have hk:bB n=⟨30,itoa n⟩:=by unfold bB;rw [if_neg (by omega)]
 refine(cA) HE (gH (n:=n) (by omega) (by omega) w1) ?_;rintro _ w2 ⟨rfl,s2⟩;have c2:=c1.trans s2;have b:=b.ext s2;refine WP .r (PV.aY (us:=[.int .i64 30,.string (itoa n)]) q7 rfl rfl rfl)<|?_;refine WL.go rfl (OX.kB gi b rfl rfl rfl rfl rfl fun w3 g _ b=>?_);have c3:=c2.own g e;refine(jm) ak b.range<|?_;rw [hk];exact⟨rfl,c3⟩
theorem ff(hr:ee A w a r c aa):CR prog 11 #[.slice a r c,.int .i64 n] w ((aH aa n).val):=by
 have hle:=hr.le;have hlen:=hr.len;refine enter func11 rfl ntmps11 rfl<|?_;have c0:aJ [] w w:=aJ.refl _ _;refine bP ?_;refine WL.go rfl (OX.alloc zL rfl fun b4 w1 m b=>?_);have s1:=m.ext;have f:=m.gW c0;have c1:=c0.trans s1;refine cB ?_;refine WC.i7 (t:=17) (v:=.bool (decide (n<0) || (decide ((r:Int)≤n) || decide (99<n)))) (fun y=>w1=y) ?_ ?_
 ·
  refine(cz) (fun g8=>?_) (fun g8=>?_)
  ·
   exact(bW) (by simp only [g8];first | rfl | simp) rfl
  refine bP ?_;refine WP .r (PV.fV gn rfl)<|(cz) (fun g14=>?_) (fun g14=>?_)
  ·
   exact(bW) (by simp only [g8,g14];first | rfl | simp) rfl
  exact(bW) (by simp only [g8,g14];first | rfl | simp) rfl
 rintro _ rfl;refine(aP) (fun g17=>?_) fun g17=>?_
 ·
  have hk:aH aa n=aW:=by unfold aH;rw [if_pos (by simp at g17;omega)]
  refine bP ?_;refine WP .r (PV.aY (us:=[.int .i64 0,.string ⟨#[]⟩]) q7 rfl rfl rfl)<|?_;refine WL.go rfl (OX.kB gi b rfl rfl rfl rfl rfl fun w2 s2 _ b=>?_);have c2:=c1.own s2 f;refine(jm) ak b.range<|?_;rw [hk];exact⟨rfl,c2⟩
 simp at g17
 obtain⟨i,rfl⟩:∃i:Nat,n=i:=⟨n.toNat,by omega⟩
 have hi:i<aa.length:=by omega
 have hk:aH aa i=⟨if ax aa i then 32 else 31,itoa i⟩:=by unfold aH;rw [if_neg (by omega)];rfl
 have o:=bA hi;refine(cA) HE (gH (n:=(i:Int)) (by omega) (by omega) w1) ?_;rintro _ w2 ⟨rfl,s2⟩;have c2:=c1.trans s2;have b:=b.ext s2;refine WP .r (PV.aY (us:=[.int .i64 31,.string (itoa i)]) q7 rfl rfl rfl)<|?_;refine WL.go rfl (OX.alloc zL rfl fun b5 w3 g d=>?_);have p:=g.ext;have q:=g.gW c2;have h:b4≠b5:=g.ne b.lt;have s:b5≠b4:=Ne.symm h;have c3:=c2.trans p;have b:=b.ext p;refine WL.go rfl (OX.kB gi d rfl rfl rfl rfl rfl fun w4 u _ d=>?_);have c4:=c3.own u q;have b:=b.bR u (by simp [h]);refine cB ?_;obtain⟨b1,D,r1,z,_,⟨q1,E,F,rfl,_⟩,B,_⟩:=(hr.ext c4).at (ae hi);refine ct ?_;refine WP .r (PV.dM gn z rfl rfl (by omega))<|WP .r (PV.fa iA rfl)<|(bp) di B<|(aP) (fun j=>?_) fun j=>?_
 ·
  have l:aH aa i=⟨32,itoa i⟩:=by rw [hk,o,j];rfl
  refine nx ?_;refine WP .r (PV.fa cL rfl)<|?_;refine WL.go rfl (OX.st Ni d rfl rfl (by first | (simp [nth];done) | exact NW rfl) rfl rfl fun w5 e _ d=>?_);have c5:=c4.own e q;have b:=b.bR e (by simp [h]);refine(bj) ak d.range<|?_;refine WL.go rfl (OX.kB gi b rfl rfl rfl rfl rfl fun w6 x _ b=>?_);have C:=c5.own x f;have d:=d.bR x (by simp [s]);refine(jm) ak b.range<|?_;rw [l];exact⟨rfl,C⟩
 have l:aH aa i=⟨31,itoa i⟩:=by rw [hk,o,j];rfl
 refine(bj) ak d.range<|?_;refine WL.go rfl (OX.kB gi b rfl rfl rfl rfl rfl fun w5 e _ b=>?_);have c5:=c4.own e f;have d:=d.bR e (by simp [s]);refine(jm) ak b.range<|?_;rw [l];exact⟨rfl,c5⟩
theorem uf{l:List Key}(hl:uF A w a r c l):CR prog 15 #[.slice a r c,k.val] w (.bool (decide (k∈l))):=by
 have hle:=hl.le;have hlen:=hl.len;refine enter func15 rfl ntmps15 rfl<|?_;have c0:aJ [] w w:=aJ.refl _ _;refine bP ?_;refine WL.go rfl (OX.box rfl rfl rfl fun b3 w1 j b=>?_);have s1:=j.ext;have D:=j.gW c0;have c1:=c0.trans s1;refine eL ?_;refine WP .r (PV.fV dL rfl)<|cB ?_;refine WC.loop (σ:=Nat × World) (cT:=fun s=>[(3,.pointer (some ⟨b3,0,none⟩)),(7,.slice a r c),(8,.int .i64 (r:Int)),(9,.int .i64 (s.1:Int))]) (I:=fun s w'=>aJ [] w w'∧bN w' b3 39 [.int .i64 k.kind,.string k.text]∧s.1≤r∧k∉l.take s.1) (μ:=fun s=>r - s.1) (0,w) Sub.t ⟨c1,b,by omega,by simp⟩ ?_;rintro⟨i,_⟩ w2 ⟨c2,b,hi,m⟩;refine(aP) (fun g10=>?_) fun g10=>?_
 ·
  simp at g10
  have d:i<l.length:=by omega
  refine cW ?_;obtain⟨b1,E,r1,y,_,rfl,z,_⟩:=(hl.ext c2).at (ae d);refine nx ?_;refine WP .r (PV.dM dL y rfl rfl (by omega))<|(bj) ak z<|?_;refine WL.go rfl (OX.alloc zL rfl fun o w3 f g=>?_);have u:=f.ext;have B:=f.gW c2;have v:b3≠o:=f.ne b.lt;have F:o≠b3:=Ne.symm v;have c3:=c2.trans u;have b:=b.ext u;refine WL.go rfl (OX.kB gi g rfl rfl rfl rfl rfl fun w4 x _ g=>?_);have c4:=c3.own x B;have b:=b.bR x (by simp [v]);refine(bj) ak g.range<|(bj) ak b.range<|?_;refine WP .r (PV.yR ek (p:=l[i]) (q:=k) rfl rfl)<|(aP) (fun g15=>?_) fun g15=>?_
  ·
   simp at g15
   refine(bF) ?_;exact⟨by rw [decide_eq_true (g15 ▸ List.getElem_mem d)],c4⟩
  simp at g15
  refine eL ?_;refine EX.again (i+1,w) (Sub.k2 rfl rfl<|Sub.cons rfl<|Sub.gM rfl (by simp)<|Sub.nil) ⟨c4,b,by omega,by have h:=List.take_succ_eq_append_getElem d;simp only [h,List.mem_append,List.mem_singleton,not_or];exact⟨m,fun e=>g15 e.symm⟩⟩ (by simp;omega)
 simp at g10
 have C:k∉l:=by rw [← List.take_of_length_le (show l.length≤i by omega)];exact m
 refine(bF) ?_;exact⟨by rw [decide_eq_false C],c2⟩
theorem l3{s:ByteArray} :CR prog 105 #[.string s] w (.int .i64 (cP s)):=by
 have he:=tq s;have q:=qi s;refine enter func105 rfl ntmps105 rfl<|?_;have c0:aJ [] w w:=aJ.refl _ _;refine eL ?_;refine WC.i7 (t:=20) (v:=.bool (jQ s)) (fun g=>w=g) ?_ ?_
 ·
  refine(cz) (fun g7=>?_) (fun g7=>?_)
  ·
   refine aN ?_;exact(bW) (by unfold jQ;first | (simp only [g7,b];done) | (simp only [g7,b];rfl) | (simp only [g7];rfl)) rfl
  skip
  refine nx ?_;refine WP .r (PV.uw re rfl)<|(cz) (fun g12=>?_) (fun g12=>?_)
  ·
   exact(bW) (by unfold jQ;first | (simp only [g7,g12,b];done) | (simp only [g7,g12,b];rfl) | (simp only [g7,g12];rfl)) rfl
  have o:=of_decide_eq_false g7;rw [he] at o;obtain⟨b0,d,b⟩:=wI s (by omega);refine nx ?_;refine WP .r (PV.Gl re (i:=0) rfl rfl d)<|(cz) (fun g16=>?_) (fun g16=>?_)
  ·
   exact(bW) (by unfold jQ;first | (simp only [g7,g12,g16,b];done) | (simp only [g7,g12,g16,b];rfl) | (simp only [g7,g12,g16];rfl)) rfl
  exact(bW) (by unfold jQ;first | (simp only [g7,g12,g16,b];done) | (simp only [g7,g12,g16,b];rfl) | (simp only [g7,g12,g16];rfl)) rfl
 rintro _ rfl;refine(aP) (fun g20=>?_) fun g20=>?_
 ·
  have e:cP s = -1:=by rw [oJ];rw [if_pos g20]
  refine(bF) ?_;rw [e];exact⟨rfl,c0⟩
 have e:cP s=decFrom s.data.toList 0:=by rw [oJ,g20];rfl
 have u:=BX g20;refine aN ?_;refine bP ?_;refine WC.loop (σ:=Nat × Nat) (cT:=fun p=>[(0,.string s),(3,.int .i64 (p.2:Int)),(4,.int .i64 (p.1:Int))]) (I:=fun p w'=>aJ [] w w'∧p.1≤s.size∧p.2<10 ^ p.1∧decFrom s.data.toList 0=decFrom (s.data.toList.drop p.1) p.2) (μ:=fun p=>s.size - p.1) (0,0) Sub.t ⟨c0,by simp,by simp,by simp⟩ ?_;rintro⟨i,n⟩ w1 ⟨c1,hi,hn,f⟩;simp only at hi hn f;have x:n<10 ^ 9:=Nat.lt_of_lt_of_le hn (Nat.pow_le_pow_right (by omega) (by omega));refine cW ?_;refine WP .r (PV.uw re rfl)<|(aP) (fun g24=>?_) fun g24=>?_
 ·
  simp at g24
  obtain⟨b0,d,h⟩:=uJ s (n:=(n:Int)) g24;refine fZ ?_;refine WC.i7 (t:=36) (v:=.bool (decide ((b0.toNat:Int)<48) || decide (57<(b0.toNat:Int)))) (fun g=>w1=g) ?_ ?_
  ·
   refine ct ?_;refine WP .r (PV.Gl re (i:=i) rfl rfl d)<|(cz) (fun j=>?_) (fun j=>?_)
   ·
    exact(bW) (by simp only [j];first | rfl | simp) rfl
   refine bP ?_;refine WP .r (PV.Gl re (i:=i) rfl rfl d)<|?_;exact(bW) (by simp only [j];first | rfl | simp) rfl
  rintro _ rfl;refine(aP) (fun l=>?_) fun l=>?_
  ·
   have m:cP s = -1:=by rw [e,f,h,if_pos (by simp at l;omega)]
   refine(bF) ?_;rw [m];exact⟨rfl,c1⟩
  simp at l
  rw [if_neg (by omega)] at h;have y:10 ^ (i+1)=10*10 ^ i:=Nat.pow_succ';refine cB ?_;refine WP .r (PV.mul rfl rfl (by omega) (by omega))<|bP ?_;refine WP .r (PV.Gl re (i:=i) rfl rfl d)<|WP .r (PV.NU rfl rfl (by omega) (by omega))<|WP .r (PV.conv ⟨_,U9⟩ U8 rfl (by omega) (by omega))<|mo ?_;refine EX.again (i+1,10*n+(b0.toNat - 48)) (Sub.cons rfl<|Sub.gM rfl (by simp;omega)<|Sub.gM rfl (by simp)<|Sub.nil) ⟨c1,by simp;omega,by simp only;omega,by simp only;rw [f,h];congr 1;omega⟩ (by simp only;omega)
 simp at g24
 have m:cP s=n:=by rw [e,f,List.drop_eq_nil_of_le (by rw [Array.length_toList];exact g24)];rfl
 refine(bF) ?_;rw [m];exact⟨rfl,c1⟩
theorem ib :CR prog 70 #[k.val] w (.int .i64 (number k)):=by
 refine enter func70 rfl ntmps70 rfl<|?_;have c0:aJ [] w w:=aJ.refl _ _;refine bP ?_;refine WL.go rfl (OX.box rfl rfl rfl fun b1 w1 d b=>?_);have s1:=d.ext;have f:=d.gW c0;have c1:=c0.trans s1;refine fZ ?_;refine WP .r (PV.fa oo rfl)<|(bp) eV b.range<|(cA) IC (l3 (s:=k.text)) ?_;rintro _ w2 ⟨rfl,s2⟩;have c2:=c1.trans s2;have b:=b.ext s2;refine cB ?_;refine WC.i7 (t:=18) (v:=.bool (decide (30≤k.kind) && (decide (k.kind≤32) && decide (cP k.text≤99)))) (fun e=>w2=e) ?_ ?_
 ·
  refine nx ?_;refine WP .r (PV.fa cL rfl)<|(bp) aK b.range<|(cz) (fun g10=>?_) (fun g10=>?_)
  ·
   refine WP .r (PV.fa cL rfl)<|(bp) aK b.range<|(cz) (fun g15=>?_) (fun g15=>?_)
   ·
    exact(bW) (by simp only [g10,g15];first | rfl | simp) rfl
   exact(bW) (by simp only [g10,g15];first | rfl | simp) rfl
  exact(bW) (by simp only [g10];first | rfl | simp) rfl
 rintro _ rfl;refine(aP) (fun g18=>?_) fun g18=>?_
 ·
  simp at g18
  have hn:number k=cP k.text:=by unfold number;rw [if_pos g18]
  refine(bF) ?_;rw [hn];exact⟨rfl,c2⟩
 simp at g18
 have hn:number k = -1:=by unfold number;rw [if_neg (by intro h;have:=g18 h.1 h.2.1;omega)]
 refine(bF) ?_;rw [hn];exact⟨rfl,c2⟩
theorem gj :CR prog 43 #[k.val] w (.bool (dW k)):=by
 refine enter func43 rfl ntmps43 rfl<|?_;have c0:aJ [] w w:=aJ.refl _ _;refine bP ?_;refine WL.go rfl (OX.box rfl rfl rfl fun b1 w1 i b=>?_);have s1:=i.ext;have j:=i.gW c0;have c1:=c0.trans s1;refine cW ?_;refine WC.i7 (t:=10) (v:=.bool (decide (30≤k.kind) && decide (k.kind≤32))) (fun g=>w1=g) ?_ ?_
 ·
  refine nx ?_;refine WP .r (PV.fa cL rfl)<|(bp) aK b.range<|(cz) (fun g6=>?_) (fun g6=>?_)
  ·
   refine WP .r (PV.fa cL rfl)<|(bp) aK b.range<|?_;exact(bW) (by simp only [g6];first | rfl | simp) rfl
  exact(bW) (by simp only [g6];first | rfl | simp) rfl
 rintro _ rfl;refine(aP) (fun g10=>?_) fun g10=>?_
 ·
  simp at g10
  refine(bj) ak b.range<|(cA) HH (ib (k:=k)) ?_;rintro _ w2 ⟨rfl,s2⟩;have c2:=c1.trans s2;have b:=b.ext s2;refine(bF) ?_;exact⟨by unfold dW;rw [if_pos (by omega)],c2⟩
 simp at g10
 have d:=wJ k (by omega);refine ct ?_;refine WC.ke (t:=2) (v:=.bool (dW k)) (fun g=>w1=g) ?_ ?_
 ·
  refine nx ?_;refine WP .r (PV.fa cL rfl)<|(bp) aK b.range<|(cz) (fun g17=>?_) (fun g17=>?_)
  ·
   refine WP .r (PV.fa cL rfl)<|(bp) aK b.range<|(cz) (fun g22=>?_) (fun g22=>?_)
   ·
    refine WP .r (PV.fa oo rfl)<|(bp) eV b.range<|?_;refine WP .r (PV.uw re rfl)<|(cz) (fun e=>?_) (fun e=>?_)
    ·
     refine WP .r (PV.fa oo rfl)<|(bp) eV b.range<|(cz) (fun f=>?_) (fun f=>?_)
     ·
      exact(eT) (by rw [d];simp only [g17,g22,e,f];first | rfl | simp) rfl
     refine WP .r (PV.fa cL rfl)<|(bp) aK b.range<|(cz) (fun h=>?_) (fun h=>?_)
     ·
      refine WP .r (PV.fa cL rfl)<|(bp) aK b.range<|?_;exact(eT) (by rw [d];simp only [g17,g22,e,f,h];first | rfl | simp) rfl
     exact(eT) (by rw [d];simp only [g17,g22,e,f,h];first | rfl | simp) rfl
    refine aN ?_;exact(eT) (by rw [d];simp only [g17,g22,e];first | rfl | simp) rfl
   refine aN ?_;exact(eT) (by rw [d];simp only [g17,g22];first | rfl | simp) rfl
  refine aN ?_;refine aN ?_;exact(eT) (by rw [d];simp only [g17];first | rfl | simp) rfl
 rintro _ rfl;refine(bF) ?_;exact⟨rfl,c1⟩
theorem dz :CR prog 64 #[k.val] w (.bool (aA k)):=by
 refine enter func64 rfl ntmps64 rfl<|?_;have c0:aJ [] w w:=aJ.refl _ _;refine bP ?_;refine WL.go rfl (OX.box rfl rfl rfl fun b1 w1 d b=>?_);have s1:=d.ext;have e:=d.gW c0;have c1:=c0.trans s1;refine cB ?_;refine WC.ke (t:=2) (v:=.bool (aA k)) (aJ [] w1) ?_<|?_
 ·
  refine nx ?_;refine WP .r (PV.fa cL rfl)<|(bp) aK b.range<|(cz) (fun g6=>?_) (fun g6=>?_)
  ·
   refine aN ?_;exact(eT) (by unfold aA;simp only [g6];first | rfl | simp) (aJ.refl _ _)
  refine WP .r (PV.fa cL rfl)<|(bp) aK b.range<|(cz) (fun g10=>?_) (fun g10=>?_)
  ·
   refine WP .r (PV.fa cL rfl)<|(bp) aK b.range<|(cz) (fun g15=>?_) (fun g15=>?_)
   ·
    refine WP .r (PV.fa cL rfl)<|(bp) aK b.range<|(cA) VR (xF (n:=k.kind)) ?_;rintro _ w2 ⟨rfl,s2⟩;have c2:=c1.trans s2;have b:=b.ext s2;exact(eT) (by unfold aA;simp only [g6,g10,g15];first | rfl | simp) s2
   exact(eT) (by unfold aA;simp only [g6,g10,g15];first | rfl | simp) (aJ.refl _ _)
  exact(eT) (by unfold aA;simp only [g6,g10];first | rfl | simp) (aJ.refl _ _)
 intro w2 s2;have c2:=c1.trans s2;have b:=b.ext s2;refine(bF) ?_;exact⟨rfl,c2⟩
theorem jF{q:Key} :CR prog 46 #[k.val,q.val] w (.int .i64 (bm k q)):=by
 refine enter func46 rfl ntmps46 rfl<|?_;have c0:aJ [] w w:=aJ.refl _ _;refine bP ?_;refine WL.go rfl (OX.box rfl rfl rfl fun b2 w1 g b=>?_);have s1:=g.ext;have i:=g.gW c0;have c1:=c0.trans s1;refine WL.go rfl (OX.box rfl rfl rfl fun b3 w2 e d=>?_);have s2:=e.ext;have j:=e.gW c1;have h:b2≠b3:=e.ne b.lt;have l:b3≠b2:=Ne.symm h;have c2:=c1.trans s2;have b:=b.ext s2;refine eL ?_;refine WP .r (PV.fa cL rfl)<|(bp) aK b.range<|?_;refine WP .r (PV.fa cL rfl)<|(bp) aK d.range<|(aP) (fun g5=>?_) fun g5=>?_
 ·
  simp at g5
  refine(bF) ?_;exact⟨by unfold bm;rw [if_pos g5],c2⟩
 simp at g5
 refine bP ?_;refine WP .r (PV.fa cL rfl)<|(bp) aK b.range<|?_;refine WP .r (PV.fa cL rfl)<|(bp) aK d.range<|(aP) (fun g11=>?_) fun g11=>?_
 ·
  simp at g11
  refine(bF) ?_;exact⟨by unfold bm;rw [if_neg (by omega),if_pos g11],c2⟩
 simp at g11
 refine cW ?_;refine WP .r (PV.fa oo rfl)<|(bp) eV b.range<|?_;refine WP .r (PV.fa oo rfl)<|(bp) eV d.range<|(cA) PC (lZ k.text q.text w2) ?_;rintro _ w3 ⟨rfl,f⟩;have c3:=c2.trans f;have b:=b.ext f;have d:=d.ext f;refine(bF) ?_;exact⟨by unfold bm;rw [if_neg (by omega),if_neg (by omega)],c3⟩
end Go.Rc

