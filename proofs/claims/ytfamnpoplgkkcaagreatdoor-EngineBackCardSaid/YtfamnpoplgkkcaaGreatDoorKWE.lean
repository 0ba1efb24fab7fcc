/- Walks over the program, part WE. Conditions: as each theorem says. -/
import Derived.Test.YtfamnpoplgkkcaaGreatDoorKFacts
import Derived.Test.YtfamnpoplgkkcaaGreatDoorKBb
import Derived.Test.YtfamnpoplgkkcaaGreatDoorKBd
import Derived.Test.YtfamnpoplgkkcaaGreatDoorShelf
import Derived.Lib.UnsafeStr
set_option linter.all false
namespace Go.Rc
open Go Go.Proofs Go.Proofs.Tryz
variable {n r c d:Nat}{m:Int}{w:World}{aa:List aF}{A M Z:Nat→Prop}{a:Option Addr}{k:Key}{l:List Rec}{x:Rec}
set_option maxHeartbeats 400000
theorem An{n:Int}(b:m≤4611686018427387904):CR prog 54 #[.int .i64 n,.int .i64 m] w (.int .i64 (if m<1 then 0 else n % m)):=by
 refine enter func54 rfl ntmps54 rfl<|?_;have c0:aQ [] w w:=aQ.refl _ _;refine(bl) (fun g6=>?_) fun g6=>?_
 ·
  simp at g6
  refine(bJ) ?_;exact⟨by rw [if_pos (by omega)],c0⟩
 simp at g6
 have k1:=Int.tmod_lt_of_pos n (show 0<m by omega);have k2:=Int.lt_tmod_of_pos n (show 0<m by omega);refine fE ?_;refine WP .r (PV.rem rfl rfl (by omega))<|cM ?_;refine WP .r (PV.rem rfl rfl (by omega))<|(bJ) ?_;refine⟨?_,c0⟩;rw [if_neg (by omega)]
 congr 2
 rw [Int.tmod_eq_emod_of_nonneg (by omega),Int.add_emod_right,zo]
theorem vI{n:Int}(hr:eJ A w a r c aa):CR prog 53 #[.slice a r c,.int .i64 n] w (.tuple #[.int .i64 (block aa n).1,.int .i64 (block aa n).2]):=by
 have hle:=hr.le;have hlen:=hr.len;refine enter func53 rfl ntmps53 rfl<|?_;have c0:aQ [] w w:=aQ.refl _ _;refine ho ?_;refine WC.nX (t:=15) (v:=.bool (decide (n<0) || decide ((r:Int)≤n))) (fun g=>w=g) ?_ ?_
 ·
  refine(c7) (fun g10=>?_) (fun g10=>?_)
  ·
   exact(cP) (by simp only [g10];first | done | rfl | simp) rfl
  refine cm ?_;refine WP .r (PV.jv iI rfl)<|?_;exact(cP) (by simp only [g10];first | done | rfl | simp) rfl
 rintro _ rfl;refine(bl) (fun g15=>?_) fun g15=>?_
 ·
  have hb:=rA aa n (by simp at g15;omega);refine(xt) ?_;exact⟨by rw [hb],c0⟩
 obtain⟨b,rfl⟩:∃i:Nat,n=i:=⟨n.toNat,by simp at g15;omega⟩
 have f:b<aa.length:=by simp at g15;omega
 have E:block aa b=if az aa b then ((aZ aa b:Int),(cF aa (b+1):Int)) else ((b:Int),(b:Int)+1):=by
  unfold block;rw [if_neg (by omega)];rfl
 refine ba ?_;refine nx ?_;refine WC.loop (σ:=Nat) (cX:=fun k=>[(0,.slice a r c),(1,.int .i64 (b:Int)),(6,.int .i64 (k:Int)),(7,.int .i64 ((b:Int)+1))]) (I:=fun k w'=>aQ [] w w'∧k≤b∧aZ aa k=aZ aa b∧(az aa b=false→k=b)) (μ:=fun k=>k) b Sub.t ⟨c0,Nat.le_refl _,rfl,fun _=>rfl⟩ ?_;rintro k w1 ⟨c1,hk,F,H⟩;refine cm ?_;obtain⟨b1,J,r1,u,_,⟨q1,K,L,rfl,_⟩,e,_⟩:=(hr.ext c1).at (ah f);refine WC.nX (t:=35) (v:=.bool (aa[b].ring && (decide ((0:Int)<k) && az aa (k - 1)))) (fun g=>w1=g) ?_ ?_
 ·
  refine cM ?_;refine WP .r (PV.ef iI u rfl rfl (by omega))<|WP .r (PV.fa mX rfl)<|(bF) ed e<|(c7) (fun g24=>?_) (fun g24=>?_)
  ·
   refine(c7) (fun y=>?_) (fun y=>?_)
   ·
    obtain⟨b2,N,r2,z,_,⟨O,P,Q,rfl,_⟩,B,_⟩:=(hr.ext c1).at (ah (show k - 1<aa.length by omega))
    simp at y
    have q:aa[k-1].ring=az aa (k-1):=(bm (by omega)).symm;refine cM ?_;refine WP .r (PV.Bb iI (k - 1) z rfl rfl (by omega) (by omega))<|WP .r (PV.fa mX rfl)<|(bF) ed B<|?_;exact(cP) (by simp [*]) rfl
   simp at y
   have R:¬(0<k):=by omega
   exact(cP) (by simp [*]) rfl
  exact(cP) (by simp [*]) rfl
 rintro _ rfl;refine(bl) (fun o=>?_) fun o=>?_
 ·
  simp at o
  obtain⟨g1,g2,g3⟩:=o;obtain⟨j,rfl⟩:∃j,k=j+1:=⟨k - 1,by omega⟩;refine oa ?_;refine EX.again j (Sub.k2 rfl rfl<|Sub.kn rfl (by omega)<|Sub.cons rfl<|Sub.nil) ⟨c1,by omega,by rw [← F,lA (by simpa using g3)],fun h=>absurd (bm f) (by simp [h,g1])⟩ (by omega)
 simp at o
 have S:(block aa b).1=k:=by
  rw [E]
  by_cases e:az aa b=true
  ·
   rw [if_pos e]
   show(aZ aa b:Int)=k
   rw [← F,ny]
   by_cases h0:k=0
   ·
    exact .inl h0
   exact .inr (o (by rw [← bm f];exact e) (by omega))
  rw [if_neg e,H (by simpa using e)]
 refine eE ?_;refine WC.loop (σ:=Nat) (cX:=fun m=>[(0,.slice a r c),(1,.int .i64 (b:Int)),(6,.int .i64 (k:Int)),(7,.int .i64 (m:Int))]) (I:=fun m w'=>aQ [] w w'∧b+1≤m∧m≤r∧cF aa m=cF aa (b+1)∧(az aa b=false→m=b+1)) (μ:=fun m=>r - m) (b+1) Sub.t ⟨c1,Nat.le_refl _,by omega,rfl,fun _=>rfl⟩ ?_;rintro m w2 ⟨c2,V,W,G,T⟩;refine cm ?_;obtain⟨b1,J,r1,u,_,⟨q1,K,L,rfl,_⟩,e,_⟩:=(hr.ext c2).at (ah f);refine WC.nX (t:=55) (v:=.bool (aa[b].ring && (decide ((m:Int)<r) && az aa m))) (fun g=>w2=g) ?_ ?_
 ·
  refine cM ?_;refine WP .r (PV.ef iI u rfl rfl (by omega))<|WP .r (PV.fa mX rfl)<|(bF) ed e<|(c7) (fun s=>?_) (fun s=>?_)
  ·
   refine cm ?_;refine WP .r (PV.jv iI rfl)<|(c7) (fun C=>?_) (fun C=>?_)
   ·
    simp at C
    obtain⟨b2,N,r2,z,_,⟨O,P,Q,rfl,_⟩,B,_⟩:=(hr.ext c2).at (ah (show m<aa.length by omega));have q:aa[m].ring=az aa m:=(bm (by omega)).symm
    have D:decide ((m:Int)<r)=true:=by simp;omega
    refine cm ?_;refine WP .r (PV.ef iI z rfl rfl (by omega))<|WP .r (PV.fa mX rfl)<|(bF) ed B<|?_;exact(cP) (by first | (rw [q,s,D];rfl) | simp [*]) rfl
   simp at C
   have R:¬(m<aa.length):=by omega
   exact(cP) (by first | (rw [q,s,D];rfl) | simp [*]) rfl
  refine ba ?_;exact(cP) (by first | (rw [q,s,D];rfl) | simp [*]) rfl
 rintro _ rfl;refine(bl) (fun p=>?_) fun p=>?_
 ·
  simp at p
  obtain⟨g1,g2,g3⟩:=p;refine oa ?_;refine EX.again (m+1) (Sub.k2 rfl rfl<|Sub.cons rfl<|Sub.kn rfl (by omega)<|Sub.nil) ⟨c2,by omega,by omega,by rw [← G,← nv g3],fun h=>absurd (bm f) (by simp [h,g1])⟩ (by omega)
 simp at p
 have U:(block aa b).2=m:=by
  rw [E]
  by_cases e:az aa b=true
  ·
   rw [if_pos e]
   show(cF aa (b+1):Int)=m
   rw [← G,oO]
   rcases Nat.lt_or_ge m r with h0 | h0
   ·
    exact p (by rw [← bm f];exact e) (by omega)
   exact iR (by omega)
  rw [if_neg e,T (by simpa using e)];rfl
 refine ba ?_;refine(xt) ?_;exact⟨by rw [S,U],c2⟩
theorem CU(w:World) (k:Nat) (os:Array Obj):aQ [] w (Sort.grow (w.drewN k) os):=⟨rfl,rfl,rfl,by simp [Sort.grow],Nat.le_add_right _ _,fun i hi _=>Sort.heap_grow_old (w.drewN k) os (k:=i) hi⟩
theorem sg(w:World) (e:TypeId) (s:ByteArray):aQ [] w (Lib.bytesWorld w e s):=aQ.uY (Lib.bytesWorld_below _ _ _) (by
 unfold Lib.bytesWorld
 rw [lL];exact Nat.le_succ _)
theorem pQ(i:Nat):itoa (i:Int)=⟨(Lib.decDigits i).toArray⟩:=by
 unfold itoa Lib.itoa
 rw [if_neg (by omega),Int.toNat_natCast]
theorem fS{n:Int}(h0:0≤n) (h1:n≤99) (w:World):CR prog 50 #[.int .i64 n] w (.string (itoa n)):=by
 obtain⟨i,rfl⟩:∃i:Nat,n=i:=⟨n.toNat,by omega⟩
 exact(strconv_Itoa_small i (by omega) w).mono fun e w' ⟨he,hw⟩=>⟨by rw [he,pQ],by rw [hw];exact aQ.refl _ _⟩
theorem kY{n:Int}(ht:kb prog A w) (h0:-9223372036854775808≤n) (h1:n≤9223372036854775807):CR prog 50 #[.int .i64 n] w (.string (itoa n)):=
 (strconv_Itoa n h0 h1 w (by obtain⟨⟨b,_,_,h⟩,_⟩:=ht;exact h w rfl)).mono fun e w' ⟨he,k,os,hw⟩=>⟨he,by rw [hw];exact CU _ _ _⟩
theorem kB(s t:ByteArray) (w:World):CR prog 82 #[.string s,.string t] w (.int .i64 (Lib.compareBytes s.data.toList t.data.toList)):=
 (strings_Compare s t w).mono fun e w' ⟨he,hw⟩=>⟨he,by rw [hw];exact aQ.refl _ _⟩
theorem si{acc:Nat}(b:d<10) (e:acc<100000000000000000):Lib.parseUint10 acc [UInt8.ofNat (48+d)]=.ok (acc*10+d):=by
 have h:(UInt8.ofNat (48+d)).toNat=48+d:=by
  rw [UInt8.toNat_ofNat']
  omega
 simp only [Lib.parseUint10,h];rw [if_pos (by omega),if_neg (by omega),if_neg (by omega)]
 congr 1
 omega
theorem pR(b:UInt8):∀(l:List UInt8) (acc u:Nat),Lib.parseUint10 acc l=.ok u→Lib.parseUint10 acc (l++[b])=Lib.parseUint10 u [b]
 | [],acc,u,h=>by
  simp only [Lib.parseUint10] at h
  injection h with h
  subst h
  rfl
 | c::r,acc,u,h=>by
  have e:=fun a=>pR b r a u
  generalize Lib.parseUint10 u [b]=X at e ⊢
  simp only [List.cons_append,Lib.parseUint10] at h ⊢
  split at h
  ·
   rename_i h1
   rw [if_pos h1]
   split at h
   ·
    cases h
   rename_i f
   rw [if_neg f]
   split at h
   ·
    cases h
   rename_i g
   rw [if_neg g];exact e _ h
  cases h
theorem sj(n:Nat) (hn:n≤99999):Lib.parseUint10 0 (Lib.decDigits n)=.ok n:=by
 by_cases h:n<10
 ·
  rw [Lib.decDigits,dif_pos h];have h1:=si (acc:=0) h (by omega);rw [Nat.zero_mul,Nat.zero_add] at h1;exact h1
 rw [Lib.decDigits,dif_neg h,pR _ _ _ _ (sj (n / 10) (by omega)),si (by omega) (by omega)]
 congr 1
 omega
termination_by n
decreasing_by omega
theorem vJ(n:Nat):∃b r,Lib.decDigits n=b::r∧48≤b.toNat:=by
 by_cases h:n<10
 ·
  refine⟨UInt8.ofNat (48+n),[],by rw [Lib.decDigits,dif_pos h],?_⟩;rw [UInt8.toNat_ofNat']
  omega
 obtain⟨b,r,h1,e⟩:=vJ (n / 10);exact⟨b,r++[UInt8.ofNat (48+n % 10)],by rw [Lib.decDigits,dif_neg h,h1,List.cons_append],e⟩
termination_by n
decreasing_by omega
theorem y8(n:Nat):(Lib.decDigits n).length≤n+1:=by
 by_cases h:n<10
 ·
  rw [Lib.decDigits,dif_pos h,List.length_singleton]
  omega
 have h1:=y8 (n / 10);rw [Lib.decDigits,dif_neg h,List.length_append,List.length_singleton]
 omega
termination_by n
decreasing_by omega
theorem CV(hn:n≤99999):Lib.atoiAll (Lib.decDigits n)=.ok (n:Int):=by
 obtain⟨b,r,h1,f⟩:=vJ n;have e:=sj n hn;rw [h1] at e ⊢;rw [Lib.atoiAll_plain b r (by omega) (by omega)]
 unfold Lib.parseMag
 rw [if_neg (by simp),e]
 show(if 9223372036854775808≤n then Lib.NumEnd.range else .ok (n:Int))=.ok (n:Int)
 rw [if_neg (by omega)]
theorem vK(h:n≤99999) (w:World):CR prog 152 #[.string (itoa n)] w (.tuple #[.int .i64 (n:Int),.nilIface]):=by
 have b:(itoa (n:Int)).data.toList=Lib.decDigits n:=(congrArg (fun x:ByteArray=>x.data.toList) (pQ n)).trans rfl
 refine(strconv_Atoi_ok (itoa n) ?_ n (by rw [b];exact CV h) w).mono fun e w' ⟨he,hw⟩=>⟨he,?_⟩
 ·
  have h1:=y8 n;rw [pQ]
  show(Lib.decDigits n).toArray.size≤9223372036854775806
  rw [List.size_toArray]
  omega
 rcases hw with rfl | ⟨t,rfl⟩
 ·
  exact aQ.refl _ _
 exact sg _ _ _
theorem yi(h:n≤99) (w:World):CR prog 152 #[.string (itoa n)] w (.tuple #[.int .i64 (n:Int),.nilIface]):=vK (by omega) w
set_option maxHeartbeats 400000
theorem vL{n:Int} :CR prog 56 #[.int .i64 n] w (.bool (gZ n)):=by
 refine enter func56 rfl ntmps56 rfl<|?_;have c0:aQ [] w w:=aQ.refl _ _;refine fE ?_;refine WC.oI (t:=2) (v:=.bool (gZ n)) (fun b=>w=b) ?_ ?_
 ·
  refine(c7) (fun g5=>?_) (fun g5=>?_)
  ·
   refine ba ?_;exact(fB) (by unfold gZ;simp only [g5];first | rfl | simp) rfl
  refine(c7) (fun g9=>?_) (fun g9=>?_)
  ·
   exact(fB) (by unfold gZ;simp only [g5,g9];first | rfl | simp) rfl
  refine(c7) (fun g13=>?_) (fun g13=>?_)
  ·
   exact(fB) (by unfold gZ;simp only [g5,g9,g13];first | rfl | simp) rfl
  exact(fB) (by unfold gZ;simp only [g5,g9,g13];first | rfl | simp) rfl
 rintro _ rfl;refine(bJ) ?_;exact⟨rfl,c0⟩
theorem jR :CR prog 39 #[k.val] w (.bool (ax k)):=by
 refine enter func39 rfl ntmps39 rfl<|?_;have c0:aQ [] w w:=aQ.refl _ _;refine cm ?_;refine WL.go rfl (OX.box rfl rfl rfl fun b1 w1 e b=>?_);have s1:=e.ext;have g:=e.nt c0;have c1:=c0.trans s1;refine cv ?_;refine WC.oI (t:=2) (v:=.bool (ax k)) (fun f=>w1=f) ?_ ?_
 ·
  refine nx ?_;refine WP .r (PV.fa dp rfl)<|(bF) aT b.range<|(c7) (fun g6=>?_) (fun g6=>?_)
  ·
   exact(fB) (by unfold ax;simp only [g6];first | rfl | simp) rfl
  refine WP .r (PV.fa dp rfl)<|(bF) aT b.range<|(c7) (fun g11=>?_) (fun g11=>?_)
  ·
   exact(fB) (by unfold ax;simp only [g6,g11];first | rfl | simp) rfl
  refine WP .r (PV.fa dp rfl)<|(bF) aT b.range<|?_;exact(fB) (by unfold ax;simp only [g6,g11];first | rfl | simp) rfl
 rintro _ rfl;refine(bJ) ?_;exact⟨rfl,c1⟩
theorem jd{n:Int} :CR prog 22 #[.int .i64 n] w ((bd n).val):=by
 refine enter func22 rfl ntmps22 rfl<|?_;have c0:aQ [] w w:=aQ.refl _ _;refine cm ?_;refine WL.go rfl (OX.alloc Ai rfl fun b2 w1 e b=>?_);have s1:=e.ext;have f:=e.nt c0;have c1:=c0.trans s1;refine cv ?_;refine WC.nX (t:=8) (v:=.bool (decide (n<0) || decide (99<n))) (fun g=>w1=g) ?_ ?_
 ·
  refine(c7) (fun g5=>?_) (fun g5=>?_)
  ·
   exact(cP) (by simp only [g5];first | rfl | simp) rfl
  exact(cP) (by simp only [g5];first | rfl | simp) rfl
 rintro _ rfl;refine(bl) (fun g8=>?_) fun g8=>?_
 ·
  have hk:bd n=de:=by unfold bd;rw [if_pos (by simp at g8;omega)]
  refine cm ?_;refine WP .r (PV.bA (us:=[.int .i64 0,.string ⟨#[]⟩]) vA rfl rfl rfl)<|?_;refine WL.go rfl (OX.xb gz b rfl rfl rfl rfl rfl fun w2 s2 _ b=>?_);have c2:=c1.own s2 f;refine(nC) aq b.range<|?_;rw [hk];exact⟨rfl,c2⟩
 simp at g8
 have hk:bd n=⟨30,itoa n⟩:=by unfold bd;rw [if_neg (by omega)]
 refine(c6) Ja (fS (n:=n) (by omega) (by omega) w1) ?_;rintro _ w2 ⟨rfl,s2⟩;have c2:=c1.trans s2;have b:=b.ext s2;refine WP .r (PV.bA (us:=[.int .i64 30,.string (itoa n)]) vA rfl rfl rfl)<|?_;refine WL.go rfl (OX.xb gz b rfl rfl rfl rfl rfl fun w3 h _ b=>?_);have c3:=c2.own h f;refine(nC) aq b.range<|?_;rw [hk];exact⟨rfl,c3⟩
theorem jS{n:Int}(hr:eJ A w a r c aa):CR prog 17 #[.slice a r c,.int .i64 n] w ((aK aa n).val):=by
 have hle:=hr.le;have hlen:=hr.len;refine enter func17 rfl ntmps17 rfl<|?_;have c0:aQ [] w w:=aQ.refl _ _;refine cm ?_;refine WL.go rfl (OX.alloc Ai rfl fun b4 w1 q b=>?_);have s1:=q.ext;have g:=q.nt c0;have c1:=c0.trans s1;refine cv ?_;refine WC.nX (t:=17) (v:=.bool (decide (n<0) || (decide ((r:Int)≤n) || decide (99<n)))) (fun D=>w1=D) ?_ ?_
 ·
  refine(c7) (fun g8=>?_) (fun g8=>?_)
  ·
   exact(cP) (by simp only [g8];first | rfl | simp) rfl
  refine cm ?_;refine WP .r (PV.jv iI rfl)<|(c7) (fun g14=>?_) (fun g14=>?_)
  ·
   exact(cP) (by simp only [g8,g14];first | rfl | simp) rfl
  exact(cP) (by simp only [g8,g14];first | rfl | simp) rfl
 rintro _ rfl;refine(bl) (fun g17=>?_) fun g17=>?_
 ·
  have hk:aK aa n=de:=by unfold aK;rw [if_pos (by simp at g17;omega)]
  refine cm ?_;refine WP .r (PV.bA (us:=[.int .i64 0,.string ⟨#[]⟩]) vA rfl rfl rfl)<|?_;refine WL.go rfl (OX.xb gz b rfl rfl rfl rfl rfl fun w2 s2 _ b=>?_);have c2:=c1.own s2 g;refine(nC) aq b.range<|?_;rw [hk];exact⟨rfl,c2⟩
 simp at g17
 obtain⟨i,rfl⟩:∃i:Nat,n=i:=⟨n.toNat,by omega⟩
 have hi:i<aa.length:=by omega
 have hk:aK aa i=⟨if az aa i then 32 else 31,itoa i⟩:=by unfold aK;rw [if_neg (by omega)];rfl
 have s:=bm hi;refine(c6) Ja (fS (n:=(i:Int)) (by omega) (by omega) w1) ?_;rintro _ w2 ⟨rfl,s2⟩;have c2:=c1.trans s2;have b:=b.ext s2;refine WP .r (PV.bA (us:=[.int .i64 31,.string (itoa i)]) vA rfl rfl rfl)<|?_;refine WL.go rfl (OX.alloc Ai rfl fun b5 w3 h e=>?_);have u:=h.ext;have y:=h.nt c2;have j:b4≠b5:=h.ne b.lt;have z:b5≠b4:=Ne.symm j;have c3:=c2.trans u;have b:=b.ext u;refine WL.go rfl (OX.xb gz e rfl rfl rfl rfl rfl fun w4 B _ e=>?_);have c4:=c3.own B y;have b:=b.cH B (by simp [j]);refine cv ?_;obtain⟨b1,H,r1,E,_,⟨q1,I,J,rfl,_⟩,F,_⟩:=(hr.ext c4).at (ah hi);refine cM ?_;refine WP .r (PV.ef iI E rfl rfl (by omega))<|WP .r (PV.fa mX rfl)<|(bF) ed F<|(bl) (fun o=>?_) fun o=>?_
 ·
  have p:aK aa i=⟨32,itoa i⟩:=by rw [hk,s,o];rfl
  refine nx ?_;refine WP .r (PV.fa dp rfl)<|?_;refine WL.go rfl (OX.st GF e rfl rfl (by first | (simp [nth];done) | exact Qu rfl) rfl rfl fun w5 f _ e=>?_);have c5:=c4.own f y;have b:=b.cH f (by simp [j]);refine(bS) aq e.range<|?_;refine WL.go rfl (OX.xb gz b rfl rfl rfl rfl rfl fun w6 C _ b=>?_);have G:=c5.own C g;have e:=e.cH C (by simp [z]);refine(nC) aq b.range<|?_;rw [p];exact⟨rfl,G⟩
 have p:aK aa i=⟨31,itoa i⟩:=by rw [hk,s,o];rfl
 refine(bS) aq e.range<|?_;refine WL.go rfl (OX.xb gz b rfl rfl rfl rfl rfl fun w5 f _ b=>?_);have c5:=c4.own f g;have e:=e.cH f (by simp [z]);refine(nC) aq b.range<|?_;rw [p];exact⟨rfl,c5⟩
theorem Ao{l:List Key}(hl:uL A w a r c l):CR prog 20 #[.slice a r c,k.val] w (.bool (decide (k∈l))):=by
 have hle:=hl.le;have hlen:=hl.len;refine enter func20 rfl ntmps20 rfl<|?_;have c0:aQ [] w w:=aQ.refl _ _;refine cm ?_;refine WL.go rfl (OX.box rfl rfl rfl fun b3 w1 o b=>?_);have s1:=o.ext;have G:=o.nt c0;have c1:=c0.trans s1;refine eE ?_;refine WP .r (PV.jv fR rfl)<|cv ?_;refine WC.loop (σ:=Nat × World) (cX:=fun s=>[(3,.pointer (some ⟨b3,0,none⟩)),(7,.slice a r c),(8,.int .i64 (r:Int)),(9,.int .i64 (s.1:Int))]) (I:=fun s w'=>aQ [] w w'∧bC w' b3 41 [.int .i64 k.kind,.string k.text]∧s.1≤r∧k∉l.take s.1) (μ:=fun s=>r - s.1) (0,w) Sub.t ⟨c1,b,by omega,by simp⟩ ?_;rintro⟨i,_⟩ w2 ⟨c2,b,hi,u⟩;refine(bl) (fun g10=>?_) fun g10=>?_
 ·
  simp at g10
  have f:i<l.length:=by omega
  refine dz ?_;obtain⟨b1,H,r1,C,_,rfl,D,_⟩:=(hl.ext c2).at (ah f);refine nx ?_;refine WP .r (PV.ef fR C rfl rfl (by omega))<|(bS) aq D<|?_;refine WL.go rfl (OX.alloc Ai rfl fun v w3 g j=>?_);have y:=g.ext;have E:=g.nt c2;have z:b3≠v:=g.ne b.lt;have J:v≠b3:=Ne.symm z;have c3:=c2.trans y;have b:=b.ext y;refine WL.go rfl (OX.xb gz j rfl rfl rfl rfl rfl fun w4 B _ j=>?_);have c4:=c3.own B E;have b:=b.cH B (by simp [z]);refine(bS) aq j.range<|(bS) aq b.range<|?_;refine WP .r (PV.Be fP (p:=l[i]) (q:=k) rfl rfl)<|(bl) (fun g15=>?_) fun g15=>?_
  ·
   simp at g15
   refine(bJ) ?_;exact⟨by rw [decide_eq_true (g15 ▸ List.getElem_mem f)],c4⟩
  simp at g15
  refine eE ?_;refine EX.again (i+1,w) (Sub.k2 rfl rfl<|Sub.cons rfl<|Sub.kn rfl (by simp)<|Sub.nil) ⟨c4,b,by omega,by have h:=List.take_succ_eq_append_getElem f;simp only [h,List.mem_append,List.mem_singleton,not_or];exact⟨u,fun e=>g15 e.symm⟩⟩ (by simp;omega)
 simp at g10
 have F:k∉l:=by rw [← List.take_of_length_le (show l.length≤i by omega)];exact u
 refine(bJ) ?_;exact⟨by rw [decide_eq_false F],c2⟩
theorem qL{s:ByteArray} :CR prog 130 #[.string s] w (.int .i64 (cT s)):=by
 have he:=rB s;have z:=oP s;refine enter func130 rfl ntmps130 rfl<|?_;have c0:aQ [] w w:=aQ.refl _ _;refine eE ?_;refine WC.nX (t:=20) (v:=.bool (iS s)) (fun h=>w=h) ?_ ?_
 ·
  refine(c7) (fun g7=>?_) (fun g7=>?_)
  ·
   refine ba ?_;exact(cP) (by unfold iS;first | (simp only [g7,b];done) | (simp only [g7,b];rfl) | (simp only [g7];rfl)) rfl
  skip
  refine nx ?_;refine WP .r (PV.sq pM rfl)<|(c7) (fun g12=>?_) (fun g12=>?_)
  ·
   exact(cP) (by unfold iS;first | (simp only [g7,g12,b];done) | (simp only [g7,g12,b];rfl) | (simp only [g7,g12];rfl)) rfl
  have y:=of_decide_eq_false g7;rw [he] at y;obtain⟨b0,e,b⟩:=uP s (by omega);refine nx ?_;refine WP .r (PV.DO pM (i:=0) rfl rfl e)<|(c7) (fun g16=>?_) (fun g16=>?_)
  ·
   exact(cP) (by unfold iS;first | (simp only [g7,g12,g16,b];done) | (simp only [g7,g12,g16,b];rfl) | (simp only [g7,g12,g16];rfl)) rfl
  exact(cP) (by unfold iS;first | (simp only [g7,g12,g16,b];done) | (simp only [g7,g12,g16,b];rfl) | (simp only [g7,g12,g16];rfl)) rfl
 rintro _ rfl;refine(bl) (fun g20=>?_) fun g20=>?_
 ·
  have f:cT s = -1:=by rw [nz];rw [if_pos g20]
  refine(bJ) ?_;rw [f];exact⟨rfl,c0⟩
 have f:cT s=decFrom s.data.toList 0:=by rw [nz,g20];rfl
 have B:=zp g20;refine ba ?_;refine cm ?_;refine WC.loop (σ:=Nat × Nat) (cX:=fun p=>[(0,.string s),(3,.int .i64 (p.2:Int)),(4,.int .i64 (p.1:Int))]) (I:=fun p w'=>aQ [] w w'∧p.1≤s.size∧p.2<10 ^ p.1∧decFrom s.data.toList 0=decFrom (s.data.toList.drop p.1) p.2) (μ:=fun p=>s.size - p.1) (0,0) Sub.t ⟨c0,by simp,by simp,by simp⟩ ?_;rintro⟨i,n⟩ w1 ⟨c1,hi,hn,g⟩;simp only at hi hn g;have C:n<10 ^ 9:=Nat.lt_of_lt_of_le hn (Nat.pow_le_pow_right (by omega) (by omega));refine dz ?_;refine WP .r (PV.sq pM rfl)<|(bl) (fun g24=>?_) fun g24=>?_
 ·
  simp at g24
  obtain⟨b0,e,j⟩:=sE s (n:=(n:Int)) g24;refine fE ?_;refine WC.nX (t:=36) (v:=.bool (decide ((b0.toNat:Int)<48) || decide (57<(b0.toNat:Int)))) (fun h=>w1=h) ?_ ?_
  ·
   refine cM ?_;refine WP .r (PV.DO pM (i:=i) rfl rfl e)<|(c7) (fun o=>?_) (fun o=>?_)
   ·
    exact(cP) (by simp only [o];first | rfl | simp) rfl
   refine cm ?_;refine WP .r (PV.DO pM (i:=i) rfl rfl e)<|?_;exact(cP) (by simp only [o];first | rfl | simp) rfl
  rintro _ rfl;refine(bl) (fun q=>?_) fun q=>?_
  ·
   have u:cT s = -1:=by rw [f,g,j,if_pos (by simp at q;omega)]
   refine(bJ) ?_;rw [u];exact⟨rfl,c1⟩
  simp at q
  rw [if_neg (by omega)] at j;have D:10 ^ (i+1)=10*10 ^ i:=Nat.pow_succ';refine cv ?_;refine WP .r (PV.mul rfl rfl (by omega) (by omega))<|cm ?_;refine WP .r (PV.DO pM (i:=i) rfl rfl e)<|WP .r (PV.Ln rfl rfl (by omega) (by omega))<|WP .r (PV.conv ⟨_,SO⟩ SN rfl (by omega) (by omega))<|mG ?_;refine EX.again (i+1,10*n+(b0.toNat - 48)) (Sub.cons rfl<|Sub.kn rfl (by simp;omega)<|Sub.kn rfl (by simp)<|Sub.nil) ⟨c1,by simp;omega,by simp only;omega,by simp only;rw [g,j];congr 1;omega⟩ (by simp only;omega)
 simp at g24
 have u:cT s=n:=by rw [f,g,List.drop_eq_nil_of_le (by rw [Array.length_toList];exact g24)];rfl
 refine(bJ) ?_;rw [u];exact⟨rfl,c1⟩
theorem tv :CR prog 81 #[k.val] w (.int .i64 (number k)):=by
 refine enter func81 rfl ntmps81 rfl<|?_;have c0:aQ [] w w:=aQ.refl _ _;refine cm ?_;refine WL.go rfl (OX.box rfl rfl rfl fun b1 w1 e b=>?_);have s1:=e.ext;have g:=e.nt c0;have c1:=c0.trans s1;refine fE ?_;refine WP .r (PV.fa mV rfl)<|(bF) e4 b.range<|(c6) Nx (qL (s:=k.text)) ?_;rintro _ w2 ⟨rfl,s2⟩;have c2:=c1.trans s2;have b:=b.ext s2;refine cv ?_;refine WC.nX (t:=18) (v:=.bool (decide (30≤k.kind) && (decide (k.kind≤32) && decide (cT k.text≤99)))) (fun f=>w2=f) ?_ ?_
 ·
  refine nx ?_;refine WP .r (PV.fa dp rfl)<|(bF) aT b.range<|(c7) (fun g10=>?_) (fun g10=>?_)
  ·
   refine WP .r (PV.fa dp rfl)<|(bF) aT b.range<|(c7) (fun g15=>?_) (fun g15=>?_)
   ·
    exact(cP) (by simp only [g10,g15];first | rfl | simp) rfl
   exact(cP) (by simp only [g10,g15];first | rfl | simp) rfl
  exact(cP) (by simp only [g10];first | rfl | simp) rfl
 rintro _ rfl;refine(bl) (fun g18=>?_) fun g18=>?_
 ·
  simp at g18
  have hn:number k=cT k.text:=by unfold number;rw [if_pos g18]
  refine(bJ) ?_;rw [hn];exact⟨rfl,c2⟩
 simp at g18
 have hn:number k = -1:=by unfold number;rw [if_neg (by intro h;have:=g18 h.1 h.2.1;omega)]
 refine(bJ) ?_;rw [hn];exact⟨rfl,c2⟩
theorem gA :CR prog 38 #[k.val] w (.bool (dZ k)):=by
 refine enter func38 rfl ntmps38 rfl<|?_;have c0:aQ [] w w:=aQ.refl _ _;refine cm ?_;refine WL.go rfl (OX.box rfl rfl rfl fun b1 w1 j b=>?_);have s1:=j.ext;have o:=j.nt c0;have c1:=c0.trans s1;refine dz ?_;refine WC.nX (t:=10) (v:=.bool (decide (30≤k.kind) && decide (k.kind≤32))) (fun h=>w1=h) ?_ ?_
 ·
  refine nx ?_;refine WP .r (PV.fa dp rfl)<|(bF) aT b.range<|(c7) (fun g6=>?_) (fun g6=>?_)
  ·
   refine WP .r (PV.fa dp rfl)<|(bF) aT b.range<|?_;exact(cP) (by simp only [g6];first | rfl | simp) rfl
  exact(cP) (by simp only [g6];first | rfl | simp) rfl
 rintro _ rfl;refine(bl) (fun g10=>?_) fun g10=>?_
 ·
  simp at g10
  refine(bS) aq b.range<|(c6) Ty (tv (k:=k)) ?_;rintro _ w2 ⟨rfl,s2⟩;have c2:=c1.trans s2;have b:=b.ext s2;refine(bJ) ?_;exact⟨by unfold dZ;rw [if_pos (by omega)],c2⟩
 simp at g10
 have e:=uQ k (by omega);refine cM ?_;refine WC.oI (t:=2) (v:=.bool (dZ k)) (fun h=>w1=h) ?_ ?_
 ·
  refine nx ?_;refine WP .r (PV.fa dp rfl)<|(bF) aT b.range<|(c7) (fun g17=>?_) (fun g17=>?_)
  ·
   refine WP .r (PV.fa dp rfl)<|(bF) aT b.range<|(c7) (fun g22=>?_) (fun g22=>?_)
   ·
    refine WP .r (PV.fa mV rfl)<|(bF) e4 b.range<|?_;refine WP .r (PV.sq pM rfl)<|(c7) (fun f=>?_) (fun f=>?_)
    ·
     refine WP .r (PV.fa mV rfl)<|(bF) e4 b.range<|(c7) (fun g=>?_) (fun g=>?_)
     ·
      exact(fB) (by rw [e];simp only [g17,g22,f,g];first | rfl | simp) rfl
     refine WP .r (PV.fa dp rfl)<|(bF) aT b.range<|(c7) (fun i=>?_) (fun i=>?_)
     ·
      refine WP .r (PV.fa dp rfl)<|(bF) aT b.range<|?_;exact(fB) (by rw [e];simp only [g17,g22,f,g,i];first | rfl | simp) rfl
     exact(fB) (by rw [e];simp only [g17,g22,f,g,i];first | rfl | simp) rfl
    refine ba ?_;exact(fB) (by rw [e];simp only [g17,g22,f];first | rfl | simp) rfl
   refine ba ?_;exact(fB) (by rw [e];simp only [g17,g22];first | rfl | simp) rfl
  refine ba ?_;refine ba ?_;exact(fB) (by rw [e];simp only [g17];first | rfl | simp) rfl
 rintro _ rfl;refine(bJ) ?_;exact⟨rfl,c1⟩
theorem mc :CR prog 25 #[k.val] w (.bool (aw k)):=by
 refine enter func25 rfl ntmps25 rfl<|?_;have c0:aQ [] w w:=aQ.refl _ _;refine cm ?_;refine WL.go rfl (OX.box rfl rfl rfl fun b1 w1 e b=>?_);have s1:=e.ext;have f:=e.nt c0;have c1:=c0.trans s1;refine cv ?_;refine WC.oI (t:=2) (v:=.bool (aw k)) (aQ [] w1) ?_<|?_
 ·
  refine nx ?_;refine WP .r (PV.fa dp rfl)<|(bF) aT b.range<|(c7) (fun g6=>?_) (fun g6=>?_)
  ·
   refine ba ?_;exact(fB) (by unfold aw;simp only [g6];first | rfl | simp) (aQ.refl _ _)
  refine WP .r (PV.fa dp rfl)<|(bF) aT b.range<|(c7) (fun g10=>?_) (fun g10=>?_)
  ·
   refine WP .r (PV.fa dp rfl)<|(bF) aT b.range<|(c7) (fun g15=>?_) (fun g15=>?_)
   ·
    refine WP .r (PV.fa dp rfl)<|(bF) aT b.range<|(c6) Tl (vL (n:=k.kind)) ?_;rintro _ w2 ⟨rfl,s2⟩;have c2:=c1.trans s2;have b:=b.ext s2;exact(fB) (by unfold aw;simp only [g6,g10,g15];first | rfl | simp) s2
   exact(fB) (by unfold aw;simp only [g6,g10,g15];first | rfl | simp) (aQ.refl _ _)
  exact(fB) (by unfold aw;simp only [g6,g10];first | rfl | simp) (aQ.refl _ _)
 intro w2 s2;have c2:=c1.trans s2;have b:=b.ext s2;refine(bJ) ?_;exact⟨rfl,c2⟩
theorem nb{q:Key} :CR prog 40 #[k.val,q.val] w (.int .i64 (bj k q)):=by
 refine enter func40 rfl ntmps40 rfl<|?_;have c0:aQ [] w w:=aQ.refl _ _;refine cm ?_;refine WL.go rfl (OX.box rfl rfl rfl fun b2 w1 h b=>?_);have s1:=h.ext;have j:=h.nt c0;have c1:=c0.trans s1;refine WL.go rfl (OX.box rfl rfl rfl fun b3 w2 f e=>?_);have s2:=f.ext;have o:=f.nt c1;have i:b2≠b3:=f.ne b.lt;have p:b3≠b2:=Ne.symm i;have c2:=c1.trans s2;have b:=b.ext s2;refine eE ?_;refine WP .r (PV.fa dp rfl)<|(bF) aT b.range<|?_;refine WP .r (PV.fa dp rfl)<|(bF) aT e.range<|(bl) (fun g5=>?_) fun g5=>?_
 ·
  simp at g5
  refine(bJ) ?_;exact⟨by unfold bj;rw [if_pos g5],c2⟩
 simp at g5
 refine cm ?_;refine WP .r (PV.fa dp rfl)<|(bF) aT b.range<|?_;refine WP .r (PV.fa dp rfl)<|(bF) aT e.range<|(bl) (fun g11=>?_) fun g11=>?_
 ·
  simp at g11
  refine(bJ) ?_;exact⟨by unfold bj;rw [if_neg (by omega),if_pos g11],c2⟩
 simp at g11
 refine dz ?_;refine WP .r (PV.fa mV rfl)<|(bF) e4 b.range<|?_;refine WP .r (PV.fa mV rfl)<|(bF) e4 e.range<|(c6) MU (kB k.text q.text w2) ?_;rintro _ w3 ⟨rfl,g⟩;have c3:=c2.trans g;have b:=b.ext g;have e:=e.ext g;refine(bJ) ?_;exact⟨by unfold bj;rw [if_neg (by omega),if_neg (by omega)],c3⟩
set_option maxHeartbeats 400000
set_option maxHeartbeats 400000
theorem vM :CR prog 6 #[.slice a n c] w (.bool (decide (n≤400))):=by
 refine enter func6 rfl ntmps6 rfl<|?_;have c0:aQ [] w w:=aQ.refl _ _;refine ho ?_;refine WP .r (PV.jv x8 rfl)<|(bJ) ?_;exact⟨by congr 2;exact decide_eq_decide.2 (by omega),c0⟩
theorem yj{l:List Int}(hl:Ints A w a n c l) (f:n≤400):Calls prog 8 #[.slice a n c] w fun e w'=>∃d,e=.returned (.pointer (some ⟨d,0,none⟩))∧w.heap.size≤d∧xr A w' 70 d∧aQ [] w w':=by
 refine enter func8 rfl ntmps8 rfl<|?_;have c0:aQ [] w w:=aQ.refl _ _;refine ho ?_;refine WP .r (PV.bA (us:=[.slice a n c,.int .i64 0]) SB rfl rfl rfl)<|?_;refine WL.go rfl (OX.box rfl rfl rfl fun b5 w1 b g=>?_);have s1:=b.ext;have h:=b.nt c0;have c1:=c0.trans s1;refine(bJ) ?_;exact⟨_,rfl,h,⟨l,a,n,c,0,g,SR.ext hl c1,f,by omega⟩,c1⟩
theorem yk(p:xr A w 70 d) (f:¬A d) (hm:m≤4611686018427387904):Calls prog 23 #[.pointer (some ⟨d,0,none⟩),.int .i64 m] w fun e w'=>∃z:Int,e=.returned (.int .i64 z)∧0≤z∧(1≤m→z<m)∧aQ [d] w w'∧xr A w' 70 d:=by
 obtain⟨l,a,n,c,t,hb,hl,i,q⟩:=p;have hlen:=SR.len hl;refine enter func23 rfl ntmps23 rfl<|?_;have c0:aQ [d] w w:=aQ.refl _ _;refine eE ?_;refine WC.drawn (m:=9) (C:=aQ [] w) (T:=fun _=>aQ []) (E:=cO []) (ca (trivial)) mixed (by kernel_rfl) (aQ.drew _ _)<|cm ?_;refine DP .r (fun _ b=>PV.fa tt rfl)<|DP .r (fun _ b=>PV.ld1 aT (hb.ext b).range rfl rfl)<|cm ?_;refine DP .r (fun _ b=>PV.fa CK rfl)<|DP .r (fun _ b=>PV.ld1 GB (hb.ext b).range rfl rfl)<|DP .r (fun _ b=>PV.jv x8 rfl)<|(da)<|?_;rintro w1 s1 _;have c1:=c0.trans s1.nil;have hb:=hb.ext s1;refine(bl) (fun g14=>?_) fun g14=>?_
 ·
  skip
  refine(bJ) ?_;exact⟨0,rfl,by omega,fun h=>by omega,c1,l,a,n,c,t,hb,SR.cH hl c1 (by simpa using f) (fun _ _ h=>h),i,q⟩
 simp at g14
 obtain⟨y,B,D,s,_,u,g,v⟩:=SR.at hl (ah (show t<l.length by omega));subst u;refine fE ?_;refine WP .r (PV.fa tt rfl)<|(bF) aT hb.range<|cm ?_;refine WP .r (PV.fa tt rfl)<|?_;refine WL.go rfl (OX.st GF hb rfl rfl (by first | (simp [nth];done) | exact Qu rfl) rfl rfl fun w2 s2 _ hb=>?_);have c2:=c1.trans s2;refine cM ?_;have g:=aS g c2 (by simp;rintro rfl;exact f v);refine WC.drawn (m:=12) (C:=aQ [] w2) (T:=fun _=>aQ []) (E:=cO []) (ca (trivial)) mixed (by kernel_rfl) (aQ.drew _ _)<|cm ?_;refine DP .r (fun _ b=>PV.fa CK rfl)<|DP .r (fun _ b=>PV.ld1 GB (hb.ext b).range rfl rfl)<|cm ?_;refine DP .r (fun _ b=>PV.fa tt rfl)<|DP .r (fun _ b=>PV.ld1 aT (hb.ext b).range rfl rfl)<|nx ?_;refine DP .r (fun _ b=>PV.Bb x8 (t) s rfl rfl (by omega) (by omega))<|DP .r (fun _ b=>PV.j1 aT (aS g b (by simp)) rfl rfl)<|(da) ?_;rintro w3 j _;have c3:=c2.trans j.nil;have hb:=hb.ext j;refine(c6) Tj (An (n:=l[t]) (m:=m) (by omega)) ?_;rintro _ w4 ⟨rfl,o⟩;have c4:=c3.trans o.nil;have hb:=hb.ext o;refine(bJ) ?_;refine⟨_,rfl,?_,?_,c4,l,a,n,c,t+1,?_,SR.cH hl c4 (by simpa using f) (fun _ _ h=>h),i,by omega⟩
 ·
  split
  ·
   omega
  exact Int.emod_nonneg _ (by omega)
 ·
  intro h;rw [if_neg (by omega)];exact Int.emod_lt_of_pos _ (by omega)
 exact hb
def words:List ByteArray:=[⟨#[48]⟩,⟨#[49]⟩,⟨#[50]⟩,⟨#[51]⟩,⟨#[55]⟩,⟨#[49,48,48]⟩,⟨#[]⟩,⟨#[120]⟩,⟨#[49,54]⟩,⟨#[49]⟩]
theorem CW:∀s∈words,s.size≤100:=by decide
set_option maxHeartbeats 400000
theorem kC(o:St w M Z w []) (hk:Rd RR.key 2 Z w a n c x.reads) (s:x.reads.length≤4000):Calls prog 48 #[.agg (x.row a n c).toArray] w fun e w'=>∃f g h,e=.returned (.agg (x.row f g h).toArray)∧St w M Z w' [As.os RR.key 41 2 f g h x.reads]:=by
 have t:=hk.len;refine enter func48 rfl ntmps48 rfl<|?_;have aM:=o;have st1:=aM.fr hk;have st2:=st1.gx RR.key 41 2;refine(dt) st2 fun b1 w1 u v p=>?_;refine(fF) p fun b2 w2 y z b=>?_;refine(bF) eD b.b1<|?_;refine WL.ap rfl rfl b.p2 ((As.gr b.g3)) fun a5 B w3 C D q=>?_;refine nx ?_;refine WL.s1 q.p2 fun w4 _ i=>?_;refine(bS) dV i.b0<|(dH) iK i.p2 fun w5 E F j=>?_;refine(nC) dV j.b0<|?_;exact⟨_,_,_,rfl,j.p2.k1⟩
theorem vN(G:St w M Z w []) (hl:Rd RR.iz 8 Z w a n c l) (h6:l.length≤1000000):Calls prog 93 #[.slice a n c] w fun e w'=>∃u v y Z',e=.returned (.slice u v y)∧eI w.heap.size Z Z'∧St w M Z' w' [As.os RR.iz 47 8 u v y l]:=by
 have hlen:=hl.len;have hle:=hl.le;refine enter func93 rfl ntmps93 rfl<|?_;have aM:=G;have st1:=aM.fr hl;have st2:=st1.gx RR.iz 47 8;refine ba ?_;refine eE ?_;refine WC.lG (σ:=Nat × (Nat→Prop) × (List Rec) × (Option Addr) × Nat × Nat) (cX:=fun(i,f,acc,g,b,h)=>[(3,.slice g b h),(6,.slice a n c),(7,.int .i64 (n:Int)),(8,.int .i64 (i:Int))]) (F:=fun(i,f,acc,g,b,h)=>[As.os RR.iz 47 8 g b h (acc)]) (I:=fun(i,f,acc,g,b,h)=>(i≤n)∧(eI w.heap.size Z f)∧(acc=l.take i)∧True) (μ:=fun(i,f,acc,g,b,h)=>n - i) (Zf:=fun(i,f,acc,g,b,h)=>f) (0,Z,[],none,0,0) (st2) Sub.t (⟨by omega,eI.refl _ _,by simp,trivial⟩)<|?_;rintro⟨i,f,acc,g,b,h⟩ w1 j ⟨hi,q,o,_⟩;simp only [CA,NA] at j hi q o ⊢;have y9:=((As.gs j.g0)).len
 have X5:acc.length≤1000000:=by rw [o,List.length_take];omega
 refine(bl) (fun g9=>?_) fun g9=>?_
 ·
  simp at g9
  have z:i<l.length:=by omega
  refine dz ?_;obtain⟨jq,tw,pS,H,jT,J,K,L⟩:=Rd.at (As.gr j.g1) z;obtain⟨q1,q2,q3,rfl,N,B⟩:=J;have O:=j.fg L K;have C:=O.fr N;refine nx ?_;refine WP .r (PV.ef jQ H rfl rfl (by omega))<|(bS) dV (As.mF C.g1)<|(fF) C fun b5 w2 TK TL P=>?_;refine(dH) iK P fun w3 oB qx D=>?_;refine(bS) dV D.b0<|?_;have p:=D;refine(c6) MP (kC p.e0 (As.gr p.g1) B) ?_;rintro _ w4 ⟨e1,e2,e3,rfl,E⟩;have Q:=St.lr p E;have R:=St.gg E;have hsz:=p.size;have S:=Q.dM (by omega);have T:=q.trans (eI.uS (F:=fun x=>x∈bN e1) R) hsz;refine WL.go rfl (OX.bf (us:=l[i].row e1 e2 e3) Cw rfl rfl rfl rfl fun QO w5 U V=>?_);have s:=S.dG U V;refine WL.ap rfl rfl s.p5 (SR.dU (A:=fun _=>True) (x:=l[i]) (As.gb s.g0) trivial rfl (Rec.one _ _ _ _) ⟨e1,e2,e3,rfl,(As.gr s.g1),B⟩) fun W X w6 abc abd Y=>?_;refine ho ?_;refine fJ (i+1,_,acc++[l[i]],W,(b+1),X) ⟨Y.p6.p1.k2,⟨by omega,T,by rw [o,List.take_succ_eq_append_getElem z],trivial⟩⟩
 simp at g9
 have lH:acc=l:=by rw [o];exact List.take_of_length_le (by omega)
 subst lH;refine(bJ) ?_;exact⟨_,_,_,_,rfl,q,j.p1.drop⟩
theorem nN(H:St w M Z w []) (hl:Rd RR.iz 8 Z w a n c l):Calls prog 15 #[.slice a n c,k.val] w fun e w'=>∃B C D,e=.returned (.tuple #[.agg ((aD l k).row B C D).toArray,.bool (ay l k).isSome])∧(aD l k).reads.length≤4000∧St w M Z w' [As.os RR.key 41 2 B C D (aD l k).reads]:=by
 have hlen:=hl.len;have hle:=hl.le;refine enter func15 rfl ntmps15 rfl<|?_;have aM:=H;have st1:=aM.fr hl;refine(dt) st1 fun b3 w1 T U st2=>?_;refine(fF) st2 fun b4 w2 V W J=>?_;refine ba ?_;refine WC.bq (σ:=Nat) (cX:=fun i=>[(3,.pointer (some ⟨b3,0,none⟩)),(4,.pointer (some ⟨b4,0,none⟩)),(8,.slice a n c),(9,.int .i64 (n:Int)),(10,.int .i64 (i:Int))]) (F:=fun i=>[]) (I:=fun i=>(i≤n)∧(∀j x,j<i→l[j]?=some x→(x.key == k)=false)∧True) (μ:=fun i=>n - i) (0) (J) Sub.t (⟨by omega,fun j x h=>by omega,trivial⟩)<|?_;rintro i w3 s ⟨hi,u,_⟩;simp only [CA,NA] at s hi u ⊢;refine(bl) (fun g11=>?_) fun g11=>?_
 ·
  simp at g11
  have v:i<l.length:=by omega
  refine dz ?_;obtain⟨X,Y,pS,K,jT,L,N,O⟩:=Rd.at (As.gr s.g2) v;obtain⟨q1,q2,q3,rfl,P,E⟩:=L;have y:=s.fg O N;have f:=y.fr P;refine nx ?_;refine WP .r (PV.ef jQ K rfl rfl (by omega))<|(bS) dV (As.mF f.g1)<|(fF) f fun b7 w4 TM TN Q=>?_;refine(dH) iK Q fun w5 oB qx g=>?_;refine(lj) aq g.b0<|(bS) aq g.b4<|?_;refine WP .r (PV.Be fP (p:=l[i].key) (q:=k) rfl rfl)<|(bl) (fun g17=>?_) fun g17=>?_
  ·
   simp at g17
   have o:ay l k=some l[i]:=fV v u (by simpa using g17)
   have b:aD l k=l[i]:=by unfold aD;rw [o];rfl
   refine(bS) dV g.b0<|?_;have z:=g;refine(c6) MP (kC z.e0 (As.gr z.g1) E) ?_;rintro _ w6 ⟨e1,e2,e3,rfl,R⟩;have S:=St.lr z R;refine(dH) iK S.p4 fun w7 Ap uV G=>?_;refine oa ?_;refine EX.gJ rfl (RS.cell dV rfl G.b0 rfl<|RS.tmp rfl<|RS.nil) rfl<|?_;exact⟨e1,e2,e3,by rw [o,b];rfl,by rw [b];exact E,by rw [b];exact G.p1.k1⟩
  simp at g17
  refine eE ?_;refine fJ (i+1) ⟨g.p5.p5.p5.k3,⟨by omega,cL v u (by simpa using g17),trivial⟩⟩
 simp at g11
 have o:ay l k=none:=lD (i:=i) (by omega) u
 have b:aD l k=jB:=by unfold aD;rw [o];rfl
 have y:=s.gx RR.key 41 2;refine(dH) iK y.p1 fun w4 Jj zt f=>?_;refine cv ?_;refine EX.gJ rfl (RS.cell dV rfl f.b0 rfl<|RS.tmp rfl<|RS.nil) rfl<|?_;exact⟨none,0,0,by rw [o,b];rfl,by rw [b];simp [jB],by rw [b];exact f.p1.k1⟩
theorem tx(hk:Rd RR.key 2 Z w a n c x.reads):CR prog 83 #[.agg (x.row a n c).toArray] w (.bool (cR x)):=by
 have hlen:=SR.len hk;have hle:=SR.le hk;refine enter func83 rfl ntmps83 rfl<|?_;have c0:aQ [] w w:=aQ.refl _ _;refine cm ?_;refine WL.go rfl (OX.box rfl rfl rfl fun b1 w1 L b=>?_);have s1:=L.ext;have T:=L.nt c0;have c1:=c0.trans s1;refine fE ?_;refine WP .r (PV.fa ya rfl)<|(bF) eD b.range<|?_;refine WP .r (PV.jv fR rfl)<|cv ?_;refine WC.loop (σ:=Nat) (cX:=fun i=>[(1,.pointer (some ⟨b1,0,none⟩)),(6,.slice a n c),(7,.int .i64 (n:Int)),(8,.int .i64 (i:Int))]) (I:=fun i w'=>aQ [] w w'∧bC w' b1 47 (x.row a n c)∧i≤n∧∀j y,j<i→x.reads[j]?=some y→dZ y=true) (μ:=fun i=>n - i) 0 Sub.t ⟨c1,b,by omega,fun j y h=>by omega⟩ ?_;rintro i w2 ⟨c2,b,hi,N⟩;refine(bl) (fun g9=>?_) fun g9=>?_
 ·
  simp at g9
  have E:i<x.reads.length:=by omega
  refine dz ?_;obtain⟨U,V,W,P,_,F,G,_⟩:=SR.at hk (ah E);have F:=RR.bp F;subst F;have G:=aS G c2 (by simp);refine nx ?_;refine WP .r (PV.ef fR P rfl rfl (by omega))<|(bS) aq G<|?_;refine WL.go rfl (OX.alloc Ai rfl fun b4 w3 H B=>?_);have e:=H.ext;have Q:=H.nt c2;have O:b1≠b4:=H.ne b.lt;have X:b4≠b1:=Ne.symm O;have c3:=c2.trans e;have b:=b.ext e;refine WL.go rfl (OX.xb gz B rfl rfl rfl rfl rfl fun w4 f _ B=>?_);have c4:=c3.own f Q;have b:=b.cH f (by simp [O]);refine(bS) aq B.range<|(c6) FE (gA (k:=x.reads[i])) ?_;rintro _ w5 ⟨rfl,s⟩;have c5:=c4.trans s;have b:=b.ext s;have B:=B.ext s;refine(bl) (fun g14=>?_) fun g14=>?_
  ·
   simp at g14
   have J:cR x=false:=by unfold cR;rw [Bool.and_eq_false_iff];left;rw [List.all_eq_false];exact⟨_,List.getElem_mem E,by simp [g14]⟩
   refine(bJ) ?_;exact⟨by rw [J],c5⟩
  simp at g14
  refine eE ?_;refine EX.again (i+1) (Sub.k2 rfl rfl<|Sub.cons rfl<|Sub.kn rfl (by simp)<|Sub.nil) ⟨c5,b,by omega,cL E N g14⟩ (by omega)
 simp at g9
 have J:cR x=dL x:=by
  unfold cR
  rw [show x.reads.all dZ=true from List.all_eq_true.2 fun y R=>by obtain⟨j,S,rfl⟩:=List.mem_iff_getElem.1 R;exact N j _ (by omega) (ah S)]
  rfl
 refine fE ?_;refine WC.oI (t:=2) (v:=.bool (dL x)) (aQ [] w2) ?_<|?_
 ·
  refine nx ?_;refine WP .r (PV.fa mW rfl)<|(lj) aq b.range<|(c6) FE (gA (k:=x.key)) ?_;rintro _ w3 ⟨rfl,e⟩;have c3:=c2.trans e;have b:=b.ext e;refine(c7) (fun g19=>?_) (fun g19=>?_)
  ·
   refine WP .r (PV.fa mW rfl)<|(lj) aq b.range<|(c6) I8 (jR (k:=x.key)) ?_;rintro _ w4 ⟨rfl,f⟩;have c4:=c3.trans f;have b:=b.ext f;refine(c7) (fun g=>?_) (fun g=>?_)
   ·
    refine WP .r (PV.fa CI rfl)<|(bF) e4 b.range<|?_;refine WP .r (PV.sq pM rfl)<|(c7) (fun o=>?_) (fun o=>?_)
    ·
     refine WP .r (PV.fa ya rfl)<|(bF) eD b.range<|?_;refine WP .r (PV.jv fR rfl)<|(c7) (fun p=>?_) (fun p=>?_)
     ·
      refine WP .r (PV.fa yb rfl)<|(bF) aT b.range<|(c7) (fun q=>?_) (fun q=>?_)
      ·
       refine WP .r (PV.fa yb rfl)<|(bF) aT b.range<|?_;refine WP .r (PV.fa ts rfl)<|(bF) aT b.range<|(c7) (fun u=>?_) (fun u=>?_)
       ·
        refine WP .r (PV.fa ts rfl)<|(bF) aT b.range<|(c7) (fun z=>?_) (fun z=>?_)
        ·
         refine WP .r (PV.fa ye rfl)<|(bF) aT b.range<|(c7) (fun C=>?_) (fun C=>?_)
         ·
          refine WP .r (PV.fa ye rfl)<|(bF) aT b.range<|(c7) (fun D=>?_) (fun D=>?_)
          ·
           refine WP .r (PV.fa CJ rfl)<|(bF) ed b.range<|(c7) (fun K=>?_) (fun K=>?_)
           ·
            exact(fB) (by unfold dL;simp only [g19,g,o,p,q,u,z,C,D,K,← hlen];first | rfl | simp) (e.trans f)
           refine WP .r (PV.fa mW rfl)<|(lj) aq b.range<|(c6) MN (mc (k:=x.key)) ?_;rintro _ w5 ⟨rfl,s⟩;have c5:=c4.trans s;have b:=b.ext s;exact(fB) (by unfold dL;simp only [g19,g,o,p,q,u,z,C,D,K,← hlen];first | rfl | simp) ((e.trans f).trans s)
          exact(fB) (by unfold dL;simp only [g19,g,o,p,q,u,z,C,D,← hlen];first | rfl | simp) (e.trans f)
         refine ba ?_;exact(fB) (by unfold dL;simp only [g19,g,o,p,q,u,z,C,← hlen];first | rfl | simp) (e.trans f)
        refine ba ?_;exact(fB) (by unfold dL;simp only [g19,g,o,p,q,u,z,← hlen];first | rfl | simp) (e.trans f)
       refine ba ?_;refine ba ?_;exact(fB) (by unfold dL;simp only [g19,g,o,p,q,u,← hlen];first | rfl | simp) (e.trans f)
      refine ba ?_;refine ba ?_;exact(fB) (by unfold dL;simp only [g19,g,o,p,q,← hlen];first | rfl | simp) (e.trans f)
     refine ba ?_;refine ba ?_;refine ba ?_;exact(fB) (by unfold dL;simp only [g19,g,o,p,← hlen];first | rfl | simp) (e.trans f)
    refine ba ?_;refine ba ?_;refine ba ?_;exact(fB) (by unfold dL;simp only [g19,g,o,← hlen];first | rfl | simp) (e.trans f)
   refine ba ?_;refine ba ?_;refine ba ?_;refine ba ?_;exact(fB) (by unfold dL;simp only [g19,g,← hlen];first | rfl | simp) (e.trans f)
  refine ba ?_;refine ba ?_;refine ba ?_;refine ba ?_;exact(fB) (by unfold dL;simp only [g19,← hlen];first | rfl | simp) e
 intro w3 e;have c3:=c2.trans e;have b:=b.ext e;refine(bJ) ?_;exact⟨by rw [J],c3⟩
theorem om(hl:Rd RR.iz 8 Z w a n c l):Calls prog 41 #[.slice a n c] w fun e w'=>∃b:Bool,e=.returned (.bool b)∧(b=true↔jC l)∧aQ [] w w':=by
 have hlen:=SR.len hl;have hle:=SR.le hl;refine enter func41 rfl ntmps41 rfl<|?_;have c0:aQ [] w w:=aQ.refl _ _;refine oa ?_;refine WP .r (PV.jv jQ rfl)<|cv ?_;refine WC.loop (σ:=Nat) (cX:=fun i=>[(0,.slice a n c),(5,.slice a n c),(6,.int .i64 (n:Int)),(7,.int .i64 (i:Int))]) (I:=fun i w'=>aQ [] w w'∧i≤n∧∀j y,j<i→l[j]?=some y→lE l j y) (μ:=fun i=>n - i) 0 Sub.t ⟨c0,by omega,fun j y h=>by omega⟩ ?_;rintro i w1 ⟨c1,hi,z⟩;refine(bl) (fun g8=>?_) fun g8=>?_
 ·
  simp at g8
  have s:i<l.length:=by omega
  have f:=getElem!_pos l i s;obtain⟨S,U,V,N,_,⟨q1,W,X,rfl,O,Y⟩,B,_⟩:=SR.at hl (ah s);refine dz ?_;have B:=aS B c1 (by simp);refine cm ?_;refine WP .r (PV.ef jQ N rfl rfl (by omega))<|(bS) dV B<|?_;refine WL.go rfl (OX.alloc CH rfl fun b4 w2 H g=>?_);have s2:=H.ext;have P:=H.nt c1;have c2:=c1.trans s2;refine nx ?_;refine WL.go rfl (OX.xb iK g rfl rfl rfl rfl rfl fun w3 Q _ g=>?_);have c3:=c2.own Q P;refine cM ?_;refine WC.nX (t:=30) (v:=.bool (mD l i)) (aQ [] w3) ?_<|?_
  ·
   refine WC.drawn (m:=15) (C:=aQ [] w3) (T:=fun _=>aQ []) (E:=cO [(1,fun v _=>v=.bool (cR l[i]))]) (ca (⟨fun _ _ _ _ _ _ _ h=>h,trivial⟩)) mixed (by kernel_rfl) (aQ.drew _ _)<|?_;refine DP .r (fun _ p=>PV.Kw dV (g.ext p).range rfl rfl)<|?_;refine DW.e rfl rfl rfl rfl rfl (fun wx p hF=>OX.call Tz rfl rfl ((tx (O.ext (c3.trans p))).mono ?_))<|?_
   ·
    rintro _ wy ⟨rfl,J⟩;exact⟨_,rfl,p.trans J,J,_,rfl,rfl⟩
   rintro _ wz _ rfl;refine(uv) (fun g15=>?_) (fun g15=>?_)
   ·
    refine(da) ?_;rintro w4 o _;have c4:=c3.trans o;have g:=g.ext o;exact(cP) (by unfold mD;first | (simp only [f,u,g15];done) | (simp only [f,u,g15];rfl) | (simp only [f,g15];rfl) | (simp only [f];rw [Bool.not_eq_true'] at g15;simp [g15]) | (simp only [f];simp at g15 g18;simp [g15,g18])) o
   refine(uv) (fun g18=>?_) (fun g18=>?_)
   ·
    have K:i - 1<l.length:=by omega
    have u:=getElem!_pos l (i - 1) K;have TP:=of_decide_eq_true g18;obtain⟨bx2,ox2,rx2,R,_,⟨p1,p2,p3,rfl,_,_⟩,D,_⟩:=SR.at hl (ah K);have D:=aS D c3 (by simp);refine cM ?_;refine DP .r (fun _ p=>PV.Bb jQ (i - 1) R rfl rfl (by omega) (by omega))<|DP .r (fun _ p=>PV.fa mW rfl)<|DP .r (fun _ p=>PV.uD aq (aS D p (by simp)) rfl rfl)<|DP .r (fun _ p=>PV.fa mW rfl)<|DP .r (fun _ p=>PV.uD aq (g.ext p).range rfl rfl)<|(da)<|?_;rintro w4 o _;have c4:=c3.trans o;have g:=g.ext o;refine(c6) I9 (nb (k:=l[i - 1].key) (q:=l[i].key)) ?_;rintro _ w5 ⟨rfl,F⟩;have c5:=c4.trans F;have g:=g.ext F;exact(cP) (by unfold mD;first | (simp only [f,u,g15,g18];done) | (simp only [f,u,g15,g18];rfl) | (simp only [f,g15,g18];rfl) | (simp only [f];rw [Bool.not_eq_true'] at g15;simp [g15]) | (simp only [f];simp at g15 g18;simp [g15,g18])) (o.trans F)
   refine(da) ?_;rintro w4 o _;have c4:=c3.trans o;have g:=g.ext o;exact(cP) (by unfold mD;first | (simp only [f,u,g15,g18];done) | (simp only [f,u,g15,g18];rfl) | (simp only [f,g15,g18];rfl) | (simp only [f];rw [Bool.not_eq_true'] at g15;simp [g15]) | (simp only [f];simp at g15 g18;simp [g15,g18])) o
  intro w4 o;have c4:=c3.trans o;have g:=g.ext o;refine(bl) (fun G=>?_) fun G=>?_
  ·
   skip
   refine(bJ) ?_;exact⟨false,rfl,⟨fun h=>(by cases h),fun h=>absurd ((lF s).2 (h.2 i _ (ah s))) (by simp [G])⟩,c4⟩
  refine eE ?_;refine EX.again (i+1) (Sub.k2 rfl rfl<|Sub.cons rfl<|Sub.kn rfl (by simp)<|Sub.nil) ⟨c4,by omega,cL s z ((lF s).1 G)⟩ (by omega)
 ·
  simp at g8
  have z:∀j y,l[j]?=some y→lE l j y:=fun j x L=>z j x (by have:=(List.getElem?_eq_some_iff.1 L).1;omega) L;refine ho ?_;refine WP .r (PV.jv jQ rfl)<|(bJ) ?_;exact⟨_,rfl,⟨fun h=>⟨by simp at h;omega,z⟩,fun h=>by have:=h.1;simp;omega⟩,c1⟩
 -- jU dK G17.T
end Go.Rc

