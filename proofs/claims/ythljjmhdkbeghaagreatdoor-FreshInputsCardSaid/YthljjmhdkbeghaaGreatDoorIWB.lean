/- Walks over the program, part WB. Conditions: as each theorem says. -/
import Derived.Test.YthljjmhdkbeghaaGreatDoorIFacts
import Derived.Test.YthljjmhdkbeghaaGreatDoorIBb
import Derived.Test.YthljjmhdkbeghaaGreatDoorIBc
import Derived.Test.YthljjmhdkbeghaaGreatDoorIBe
import Derived.Test.YthljjmhdkbeghaaGreatDoorShelf
import Derived.Lib.UnsafeStr
set_option linter.unusedVariables false
set_option linter.unusedSimpArgs false
set_option linter.unusedSectionVars false
namespace Go.Rc
open Go Go.Proofs
set_option maxHeartbeats 400000
theorem mod_calls {n m:Int} {w:World} (h4:m≤4611686018427387904):Calls Tryz.prog 12 #[.int .i64 n,.int .i64 m] w fun e w'=>e=.returned (.int .i64 (if m<1 then 0 else n % m))∧Chg [] w w':=by
 refine enter Tryz.func12 rfl Tryz.ntmps12 rfl<|?_;have c0:Chg [] w w:=Chg.refl _ _;refine nx12 ?_;refine WC.cd (fun g6=>?_) fun g6=>?_
 ·
  simp at g6
  refine nx7 ?_;refine EX.ret1 rfl rfl<|?_;exact ⟨by rw [if_pos (by omega)],c0⟩
 simp at g6
 have k1:=Int.tmod_lt_of_pos n (show 0<m by omega);have k2:=Int.lt_tmod_of_pos n (show 0<m by omega);refine nx6 ?_;refine WP .r (PV.rem rfl rfl (by omega))<|nx3 ?_;refine WP .r (PV.rem rfl rfl (by omega))<|nx4 ?_;refine EX.ret1 rfl rfl<|?_;refine ⟨?_,c0⟩;rw [if_neg (by omega)]
 congr 2
 rw [Int.tmod_eq_emod_of_nonneg (by omega),Int.add_emod_right,tmod_emod]
theorem block_calls {rules:List Rule} {A:Nat→Prop} {a:Option Addr} {r c:Nat} {n:Int} {w:World} (hr:Rules A w a r c rules):Calls Tryz.prog 20 #[.slice a r c,.int .i64 n] w fun e w'=>e=.returned (.tuple #[.int .i64 (block rules n).1,.int .i64 (block rules n).2])∧Chg [] w w':=by
 have hle:=hr.le;have hlen:=hr.len;refine enter Tryz.func20 rfl Tryz.ntmps20 rfl<|?_;have c0:Chg [] w w:=Chg.refl _ _;refine nx8 ?_;refine WC.cut1 (t:=15) (v:=.bool (decide (n<0) || decide ((r:Int)≤n))) (fun wx=>w=wx) ?_ ?_
 ·
  refine nx4 ?_;refine WL.gsplit (t:=10) rfl (fun g10=>?_) (fun g10=>?_)
  ·
   refine nx6 ?_;exact EX.meet1 9 rfl rfl rfl (by simp only [g10];first | done | rfl | simp) rfl
  refine nx2 ?_;refine WP .r (PV.len' sl27 rfl)<|nx3 ?_;exact EX.meet1 9 rfl rfl rfl (by simp only [g10];first | done | rfl | simp) rfl
 rintro _ rfl;refine nx ?_;refine WC.cd (fun g15=>?_) fun g15=>?_
 ·
  have hb:=block_out rules n (by simp at g15;omega);refine nx8 ?_;refine EX.ret2 rfl rfl rfl<|?_;exact ⟨by rw [hb],c0⟩
 obtain ⟨nn,rfl⟩:∃i:Nat,n=i:=⟨n.toNat,by simp at g15;omega⟩
 have hnl:nn<rules.length:=by simp at g15;omega
 have hbl:block rules nn=if ringAt rules nn then ((blockLo rules nn:Int),(hiFrom rules (nn+1):Int)) else ((nn:Int),(nn:Int)+1):=by
  unfold block;rw [if_neg (by omega)];rfl
 refine nx12 ?_;refine nx ?_;refine WC.loop (σ:=Nat) (kvs:=fun k=>[(0,.slice a r c),(1,.int .i64 (nn:Int)),(6,.int .i64 (k:Int)),(7,.int .i64 ((nn:Int)+1))]) (I:=fun k w'=>Chg [] w w'∧k≤nn∧blockLo rules k=blockLo rules nn∧(ringAt rules nn=false→k=nn)) (μ:=fun k=>k) nn (Sub.k4 rfl rfl rfl rfl<|Sub.nil) ⟨c0,Nat.le_refl _,rfl,fun _=>rfl⟩ ?_;rintro k w1 ⟨c1,hk,hlo,hnr⟩;refine nx2 ?_;obtain ⟨b1,o1,r1,ha1,_,⟨q1,q2,q3,rfl,_⟩,hr1,_⟩:=(hr.ext c1).at (getElem_some hnl);refine WC.cut1 (t:=35) (v:=.bool (rules[nn].ring && (decide ((0:Int)<k) && ringAt rules (k - 1)))) (fun wx=>w1=wx) ?_ ?_
 ·
  refine nx3 ?_;refine WP .r (PV.ixS sl27 ha1 rfl rfl (by omega))<|WP .r (PV.fa fa56_0 rfl)<|WP .r (V1 one4 hr1 .r)<|nx ?_;refine WL.gsplit (t:=24) rfl (fun g24=>?_) (fun g24=>?_)
  ·
   refine nx4 ?_;refine WL.gsplit (t:=28) rfl (fun g28=>?_) (fun g28=>?_)
   ·
    obtain ⟨b2,o2,r2,ha2,_,⟨q4,q5,q6,rfl,_⟩,hr2,_⟩:=(hr.ext c1).at (getElem_some (show k - 1<rules.length by omega))
    simp at g28
    have hk1:rules[k-1].ring=ringAt rules (k-1):=(ringAt_get (by omega)).symm;refine nx3 ?_;refine WP .r (PV.ixZ sl27 (k - 1) ha2 rfl rfl (by omega) (by omega))<|WP .r (PV.fa fa56_0 rfl)<|WP .r (V1 one4 hr2 .r)<|nx2 ?_;exact EX.meet1 19 rfl rfl rfl (by simp [*]) rfl
   simp at g28
   have hk0:¬(0<k):=by omega
   refine nx8 ?_;exact EX.meet1 19 rfl rfl rfl (by simp [*]) rfl
  refine nx12 ?_;exact EX.meet1 18 rfl rfl rfl (by simp [*]) rfl
 rintro _ rfl;refine nx ?_;refine WC.cd (fun g35=>?_) fun g35=>?_
 ·
  simp at g35
  obtain ⟨g1,g2,g3⟩:=g35;obtain ⟨j,rfl⟩:∃j,k=j+1:=⟨k - 1,by omega⟩;refine nx9 ?_;refine EX.again j (Sub.k2 rfl rfl<|Sub.consI rfl (by omega)<|Sub.cons rfl<|Sub.nil) ⟨c1,by omega,by rw [← hlo,blockLo_step (by simpa using g3)],fun h=>absurd (ringAt_get hnl) (by simp [h,g1])⟩ (by omega)
 simp at g35
 have hfst:(block rules nn).1=k:=by
  rw [hbl]
  by_cases hr1:ringAt rules nn=true
  ·
   rw [if_pos hr1]
   show (blockLo rules nn:Int)=k
   rw [← hlo,blockLo_end]
   by_cases h0:k=0
   ·
    exact .inl h0
   exact .inr (g35 (by rw [← ringAt_get hnl];exact hr1) (by omega))
  rw [if_neg hr1,hnr (by simpa using hr1)]
 refine nx7 ?_;refine WC.loop (σ:=Nat) (kvs:=fun m=>[(0,.slice a r c),(1,.int .i64 (nn:Int)),(6,.int .i64 (k:Int)),(7,.int .i64 (m:Int))]) (I:=fun m w'=>Chg [] w w'∧nn+1≤m∧m≤r∧hiFrom rules m=hiFrom rules (nn+1)∧(ringAt rules nn=false→m=nn+1)) (μ:=fun m=>r - m) (nn+1) (Sub.k4 rfl rfl rfl rfl<|Sub.nil) ⟨c1,Nat.le_refl _,by omega,rfl,fun _=>rfl⟩ ?_;rintro m w2 ⟨c2,hm1,hm2,hhi,hnr2⟩;refine nx2 ?_;obtain ⟨b1,o1,r1,ha1,_,⟨q1,q2,q3,rfl,_⟩,hr1,_⟩:=(hr.ext c2).at (getElem_some hnl);refine WC.cut1 (t:=55) (v:=.bool (rules[nn].ring && (decide ((m:Int)<r) && ringAt rules m))) (fun wx=>w2=wx) ?_ ?_
 ·
  refine nx3 ?_;refine WP .r (PV.ixS sl27 ha1 rfl rfl (by omega))<|WP .r (PV.fa fa56_0 rfl)<|WP .r (V1 one4 hr1 .r)<|nx ?_;refine WL.gsplit (t:=43) rfl (fun g43=>?_) (fun g43=>?_)
  ·
   refine nx2 ?_;refine WP .r (PV.len' sl27 rfl)<|nx3 ?_;refine WL.gsplit (t:=49) rfl (fun g49=>?_) (fun g49=>?_)
   ·
    simp at g49
    obtain ⟨b2,o2,r2,ha2,_,⟨q4,q5,q6,rfl,_⟩,hr2,_⟩:=(hr.ext c2).at (getElem_some (show m<rules.length by omega));have hk1:rules[m].ring=ringAt rules m:=(ringAt_get (by omega)).symm
    have hdec:decide ((m:Int)<r)=true:=by simp;omega
    refine nx2 ?_;refine WP .r (PV.ixS sl27 ha2 rfl rfl (by omega))<|WP .r (PV.fa fa56_0 rfl)<|WP .r (V1 one4 hr2 .r)<|nx2 ?_;exact EX.meet1 20 rfl rfl rfl (by first | (rw [hk1,g43,hdec];rfl) | simp [*]) rfl
   simp at g49
   have hk0:¬(m<rules.length):=by omega
   refine nx7 ?_;exact EX.meet1 20 rfl rfl rfl (by first | (rw [hk1,g43,hdec];rfl) | simp [*]) rfl
  refine nx12 ?_;refine nx ?_;exact EX.meet1 19 rfl rfl rfl (by first | (rw [hk1,g43,hdec];rfl) | simp [*]) rfl
 rintro _ rfl;refine nx ?_;refine WC.cd (fun g55=>?_) fun g55=>?_
 ·
  simp at g55
  obtain ⟨g1,g2,g3⟩:=g55;refine nx9 ?_;refine EX.again (m+1) (Sub.k2 rfl rfl<|Sub.cons rfl<|Sub.consI rfl (by omega)<|Sub.nil) ⟨c2,by omega,by omega,by rw [← hhi,← hiFrom_step g3],fun h=>absurd (ringAt_get hnl) (by simp [h,g1])⟩ (by omega)
 simp at g55
 have hsnd:(block rules nn).2=m:=by
  rw [hbl]
  by_cases hr1:ringAt rules nn=true
  ·
   rw [if_pos hr1]
   show (hiFrom rules (nn+1):Int)=m
   rw [← hhi,hiFrom_end]
   rcases Nat.lt_or_ge m r with h0 | h0
   ·
    exact g55 (by rw [← ringAt_get hnl];exact hr1) (by omega)
   exact ringAt_out (by omega)
  rw [if_neg hr1,hnr2 (by simpa using hr1)];rfl
 refine nx12 ?_;refine nx2 ?_;refine EX.ret2 rfl rfl rfl<|?_;exact ⟨by rw [hfst,hsnd],c2⟩
theorem chg_grow (w:World) (k:Nat) (os:Array Obj):Chg [] w (Sort.grow (w.drewN k) os):=⟨rfl,rfl,rfl,by simp [Sort.grow],Nat.le_add_right _ _,fun i hi _=>Sort.heap_grow_old (w.drewN k) os (k:=i) hi⟩
theorem chg_bytes (w:World) (e:TypeId) (s:ByteArray):Chg [] w (Lib.bytesWorld w e s):=Chg.of_below (Lib.bytesWorld_below _ _ _) (by
 unfold Lib.bytesWorld
 rw [freeze_drawn];exact Nat.le_succ _)
theorem itoa_nat (i:Nat):itoa (i:Int)=⟨(Lib.decDigits i).toArray⟩:=by
 unfold itoa Lib.itoa
 rw [if_neg (by omega),Int.toNat_natCast]
theorem itoa_small {n:Int} (h0:0≤n) (h1:n≤99) (w:World):Calls Tryz.prog 17 #[.int .i64 n] w fun e w'=>e=.returned (.string (itoa n))∧Chg [] w w':=by
 obtain ⟨i,rfl⟩:∃i:Nat,n=i:=⟨n.toNat,by omega⟩
 exact (Tryz.strconv_Itoa_small i (by omega) w).mono fun e w' ⟨he,hw⟩=>⟨by rw [he,itoa_nat],by rw [hw];exact Chg.refl _ _⟩
theorem itoa_calls {A:Nat→Prop} {n:Int} {w:World} (ht:Tab Tryz.prog A w) (h0:-9223372036854775808≤n) (h1:n≤9223372036854775807):Calls Tryz.prog 17 #[.int .i64 n] w fun e w'=>e=.returned (.string (itoa n))∧Chg [] w w':=
 (Tryz.strconv_Itoa n h0 h1 w (by obtain ⟨⟨b,_,_,h⟩,_⟩:=ht;exact h w rfl)).mono fun e w' ⟨he,k,os,hw⟩=>⟨he,by rw [hw];exact chg_grow _ _ _⟩
theorem compare_calls (s t:ByteArray) (w:World):Calls Tryz.prog 42 #[.string s,.string t] w fun e w'=>e=.returned (.int .i64 (Lib.compareBytes s.data.toList t.data.toList))∧Chg [] w w':=
 (Tryz.strings_Compare s t w).mono fun e w' ⟨he,hw⟩=>⟨he,by rw [hw];exact Chg.refl _ _⟩
theorem parse_one {d acc:Nat} (hd:d<10) (ha:acc<100000000000000000):Lib.parseUint10 acc [UInt8.ofNat (48+d)]=.ok (acc*10+d):=by
 have h:(UInt8.ofNat (48+d)).toNat=48+d:=by
  rw [UInt8.toNat_ofNat']
  omega
 simp only [Lib.parseUint10,h];rw [if_pos (by omega),if_neg (by omega),if_neg (by omega)]
 congr 1
 omega
theorem parse_more (b:UInt8):∀(l:List UInt8) (acc u:Nat),Lib.parseUint10 acc l=.ok u→Lib.parseUint10 acc (l++[b])=Lib.parseUint10 u [b]
 | [],acc,u,h=>by
  simp only [Lib.parseUint10] at h
  injection h with h
  subst h
  rfl
 | c::r,acc,u,h=>by
  have ih:=fun a=>parse_more b r a u
  generalize Lib.parseUint10 u [b]=X at ih ⊢
  simp only [List.cons_append,Lib.parseUint10] at h ⊢
  split at h
  ·
   rename_i h1
   rw [if_pos h1]
   split at h
   ·
    cases h
   rename_i h2
   rw [if_neg h2]
   split at h
   ·
    cases h
   rename_i h3
   rw [if_neg h3];exact ih _ h
  cases h
theorem parse_dec (n:Nat) (hn:n≤99999):Lib.parseUint10 0 (Lib.decDigits n)=.ok n:=by
 by_cases h:n<10
 ·
  rw [Lib.decDigits,dif_pos h];have h1:=parse_one (acc:=0) h (by omega);rw [Nat.zero_mul,Nat.zero_add] at h1;exact h1
 rw [Lib.decDigits,dif_neg h,parse_more _ _ _ _ (parse_dec (n / 10) (by omega)),parse_one (by omega) (by omega)]
 congr 1
 omega
termination_by n
decreasing_by omega
theorem dec_head (n:Nat):∃b r,Lib.decDigits n=b::r∧48≤b.toNat:=by
 by_cases h:n<10
 ·
  refine ⟨UInt8.ofNat (48+n),[],by rw [Lib.decDigits,dif_pos h],?_⟩;rw [UInt8.toNat_ofNat']
  omega
 obtain ⟨b,r,h1,h2⟩:=dec_head (n / 10);exact ⟨b,r++[UInt8.ofNat (48+n % 10)],by rw [Lib.decDigits,dif_neg h,h1,List.cons_append],h2⟩
termination_by n
decreasing_by omega
theorem dec_len (n:Nat):(Lib.decDigits n).length≤n+1:=by
 by_cases h:n<10
 ·
  rw [Lib.decDigits,dif_pos h,List.length_singleton]
  omega
 have h1:=dec_len (n / 10);rw [Lib.decDigits,dif_neg h,List.length_append,List.length_singleton]
 omega
termination_by n
decreasing_by omega
theorem atoi_dec {n:Nat} (hn:n≤99999):Lib.atoiAll (Lib.decDigits n)=.ok (n:Int):=by
 obtain ⟨b,r,h1,h2⟩:=dec_head n;have h3:=parse_dec n hn;rw [h1] at h3 ⊢;rw [Lib.atoiAll_plain b r (by omega) (by omega)]
 unfold Lib.parseMag
 rw [if_neg (by simp),h3]
 show (if 9223372036854775808≤n then Lib.NumEnd.range else .ok (n:Int))=.ok (n:Int)
 rw [if_neg (by omega)]
theorem atoi_num {n:Nat} (h:n≤99999) (w:World):Calls Tryz.prog 124 #[.string (itoa n)] w fun e w'=>e=.returned (.tuple #[.int .i64 (n:Int),.nilIface])∧Chg [] w w':=by
 have hs:(itoa (n:Int)).data.toList=Lib.decDigits n:=(congrArg (fun x:ByteArray=>x.data.toList) (itoa_nat n)).trans rfl
 refine (Tryz.strconv_Atoi_ok (itoa n) ?_ n (by rw [hs];exact atoi_dec h) w).mono fun e w' ⟨he,hw⟩=>⟨he,?_⟩
 ·
  have h1:=dec_len n;rw [itoa_nat]
  show (Lib.decDigits n).toArray.size≤9223372036854775806
  rw [List.size_toArray]
  omega
 rcases hw with rfl | ⟨t,rfl⟩
 ·
  exact Chg.refl _ _
 exact chg_bytes _ _ _
theorem atoi_small {n:Nat} (h:n≤99) (w:World):Calls Tryz.prog 124 #[.string (itoa n)] w fun e w'=>e=.returned (.tuple #[.int .i64 (n:Int),.nilIface])∧Chg [] w w':=atoi_num (by omega) w
set_option maxHeartbeats 400000
theorem cyc22_calls {n:Int} {w:World}:Calls Tryz.prog 114 #[.int .i64 n] w fun e w'=>e=.returned (.bool (isCyc22 n))∧Chg [] w w':=by
 refine enter Tryz.func114 rfl Tryz.ntmps114 rfl<|?_;have c0:Chg [] w w:=Chg.refl _ _;refine nx6 ?_;refine WC.cut1e (t:=2) (v:=.bool (isCyc22 n)) (fun wx=>w=wx) ?_ ?_
 ·
  refine nx4 ?_;refine WL.gsplit (t:=5) rfl (fun g5=>?_) (fun g5=>?_)
  ·
   refine nx12 ?_;refine nx ?_;exact EX.meet1e 16 rfl rfl rfl (by unfold isCyc22;simp only [g5];first | rfl | simp) rfl
  refine nx4 ?_;refine WL.gsplit (t:=9) rfl (fun g9=>?_) (fun g9=>?_)
  ·
   refine nx9 ?_;exact EX.meet1e 17 rfl rfl rfl (by unfold isCyc22;simp only [g5,g9];first | rfl | simp) rfl
  refine nx4 ?_;refine WL.gsplit (t:=13) rfl (fun g13=>?_) (fun g13=>?_)
  ·
   refine nx5 ?_;exact EX.meet1e 18 rfl rfl rfl (by unfold isCyc22;simp only [g5,g9,g13];first | rfl | simp) rfl
  refine nx5 ?_;exact EX.meet1e 18 rfl rfl rfl (by unfold isCyc22;simp only [g5,g9,g13];first | rfl | simp) rfl
 rintro _ rfl;refine nx2 ?_;refine EX.ret1 rfl rfl<|?_;exact ⟨rfl,c0⟩
theorem input_calls {k:Key} {w:World}:Calls Tryz.prog 25 #[k.val] w fun e w'=>e=.returned (.bool (isInput k))∧Chg [] w w':=by
 refine enter Tryz.func25 rfl Tryz.ntmps25 rfl<|?_;have c0:Chg [] w w:=Chg.refl _ _;refine nx2 ?_;refine WL.go rfl (OX.box rfl rfl rfl fun b1 w1 nw1 hb1=>?_);have s1:=nw1.ext;have ge_hb1:=nw1.ge' c0;have c1:=c0.trans s1;refine nx4 ?_;refine WC.cut1e (t:=2) (v:=.bool (isInput k)) (fun wx=>w1=wx) ?_ ?_
 ·
  refine nx ?_;refine WP .r (PV.fa fa35_0 rfl)<|WP .r (V1 one3 hb1.range .r)<|nx2 ?_;refine WL.gsplit (t:=6) rfl (fun g6=>?_) (fun g6=>?_)
  ·
   refine nx11 ?_;exact EX.meet1e 15 rfl rfl rfl (by unfold isInput;simp only [g6];first | rfl | simp) rfl
  refine WP .r (PV.fa fa35_0 rfl)<|WP .r (V1 one3 hb1.range .r)<|nx3 ?_;refine WL.gsplit (t:=11) rfl (fun g11=>?_) (fun g11=>?_)
  ·
   refine nx6 ?_;exact EX.meet1e 16 rfl rfl rfl (by unfold isInput;simp only [g6,g11];first | rfl | simp) rfl
  refine WP .r (PV.fa fa35_0 rfl)<|WP .r (V1 one3 hb1.range .r)<|nx4 ?_;exact EX.meet1e 16 rfl rfl rfl (by unfold isInput;simp only [g6,g11];first | rfl | simp) rfl
 rintro _ rfl;refine nx2 ?_;refine EX.ret1 rfl rfl<|?_;exact ⟨rfl,c1⟩
theorem cell_calls {n:Int} {w:World}:Calls Tryz.prog 15 #[.int .i64 n] w fun e w'=>e=.returned (cellK n).val∧Chg [] w w':=by
 refine enter Tryz.func15 rfl Tryz.ntmps15 rfl<|?_;have c0:Chg [] w w:=Chg.refl _ _;refine nx2 ?_;refine WL.go rfl (OX.alloc zv35 rfl fun b2 w1 nw2 hb2=>?_);have s1:=nw2.ext;have ge_hb2:=nw2.ge' c0;have c1:=c0.trans s1;refine nx4 ?_;refine WC.cut1 (t:=8) (v:=.bool (decide (n<0) || decide (99<n))) (fun wx=>w1=wx) ?_ ?_
 ·
  refine nx4 ?_;refine WL.gsplit (t:=5) rfl (fun g5=>?_) (fun g5=>?_)
  ·
   refine nx4 ?_;exact EX.meet1 7 rfl rfl rfl (by simp only [g5];first | rfl | simp) rfl
  refine nx4 ?_;exact EX.meet1 7 rfl rfl rfl (by simp only [g5];first | rfl | simp) rfl
 rintro _ rfl;refine nx ?_;refine WC.cd (fun g8=>?_) fun g8=>?_
 ·
  have hk:cellK n=noKey:=by unfold cellK;rw [if_pos (by simp at g8;omega)]
  refine nx2 ?_;refine WP .r (PV.build' (us:=[.int .i64 0,.string ⟨#[]⟩]) bt35 rfl rfl rfl)<|?_;refine WL.go rfl (OX.stW sz35 hb2 rfl rfl rfl rfl rfl fun w2 s2 _ hb2=>?_);have c2:=c1.own s2 ge_hb2;refine nx4 ?_;refine EX.retC agg35 rfl rfl hb2.range rfl<|?_;rw [hk];exact ⟨rfl,c2⟩
 simp at g8
 have hk:cellK n=⟨30,itoa n⟩:=by unfold cellK;rw [if_neg (by omega)]
 refine nx5 ?_;refine WL.go rfl (OX.call cf17 rfl rfl ((itoa_small (n:=n) (by omega) (by omega) w1).mono ?_));rintro _ w2 ⟨rfl,s2⟩;refine ⟨_,rfl,?_⟩;have c2:=c1.trans s2;have hb2:=hb2.ext s2;refine WP .r (PV.build' (us:=[.int .i64 30,.string (itoa n)]) bt35 rfl rfl rfl)<|?_;refine WL.go rfl (OX.stW sz35 hb2 rfl rfl rfl rfl rfl fun w3 s3 _ hb2=>?_);have c3:=c2.own s3 ge_hb2;refine nx3 ?_;refine EX.retC agg35 rfl rfl hb2.range rfl<|?_;rw [hk];exact ⟨rfl,c3⟩
theorem of_calls {rules:List Rule} {A:Nat→Prop} {a:Option Addr} {r c:Nat} {n:Int} {w:World} (hr:Rules A w a r c rules):Calls Tryz.prog 11 #[.slice a r c,.int .i64 n] w fun e w'=>e=.returned (ofK rules n).val∧Chg [] w w':=by
 have hle:=hr.le;have hlen:=hr.len;refine enter Tryz.func11 rfl Tryz.ntmps11 rfl<|?_;have c0:Chg [] w w:=Chg.refl _ _;refine nx2 ?_;refine WL.go rfl (OX.alloc zv35 rfl fun b4 w1 nw4 hb4=>?_);have s1:=nw4.ext;have ge_hb4:=nw4.ge' c0;have c1:=c0.trans s1;refine nx4 ?_;refine WC.cut1 (t:=17) (v:=.bool (decide (n<0) || (decide ((r:Int)≤n) || decide (99<n)))) (fun wx=>w1=wx) ?_ ?_
 ·
  refine nx4 ?_;refine WL.gsplit (t:=8) rfl (fun g8=>?_) (fun g8=>?_)
  ·
   refine nx10 ?_;exact EX.meet1 13 rfl rfl rfl (by simp only [g8];first | rfl | simp) rfl
  refine nx2 ?_;refine WP .r (PV.len' sl27 rfl)<|nx3 ?_;refine WL.gsplit (t:=14) rfl (fun g14=>?_) (fun g14=>?_)
  ·
   refine nx4 ?_;exact EX.meet1 14 rfl rfl rfl (by simp only [g8,g14];first | rfl | simp) rfl
  refine nx4 ?_;exact EX.meet1 14 rfl rfl rfl (by simp only [g8,g14];first | rfl | simp) rfl
 rintro _ rfl;refine nx ?_;refine WC.cd (fun g17=>?_) fun g17=>?_
 ·
  have hk:ofK rules n=noKey:=by unfold ofK;rw [if_pos (by simp at g17;omega)]
  refine nx2 ?_;refine WP .r (PV.build' (us:=[.int .i64 0,.string ⟨#[]⟩]) bt35 rfl rfl rfl)<|?_;refine WL.go rfl (OX.stW sz35 hb4 rfl rfl rfl rfl rfl fun w2 s2 _ hb4=>?_);have c2:=c1.own s2 ge_hb4;refine nx4 ?_;refine EX.retC agg35 rfl rfl hb4.range rfl<|?_;rw [hk];exact ⟨rfl,c2⟩
 simp at g17
 obtain ⟨i,rfl⟩:∃i:Nat,n=i:=⟨n.toNat,by omega⟩
 have hi:i<rules.length:=by omega
 have hk:ofK rules i=⟨if ringAt rules i then 32 else 31,itoa i⟩:=by unfold ofK;rw [if_neg (by omega)];rfl
 have hri:=ringAt_get hi;refine nx5 ?_;refine WL.go rfl (OX.call cf17 rfl rfl ((itoa_small (n:=(i:Int)) (by omega) (by omega) w1).mono ?_));rintro _ w2 ⟨rfl,s2⟩;refine ⟨_,rfl,?_⟩;have c2:=c1.trans s2;have hb4:=hb4.ext s2;refine WP .r (PV.build' (us:=[.int .i64 31,.string (itoa i)]) bt35 rfl rfl rfl)<|?_;refine WL.go rfl (OX.alloc zv35 rfl fun b5 w3 nw5 hb5=>?_);have s3:=nw5.ext;have ge_hb5:=nw5.ge' c2;have ne_hb4_hb5:b4≠b5:=nw5.ne hb4.lt;have ne_hb5_hb4:b5≠b4:=Ne.symm ne_hb4_hb5;have c3:=c2.trans s3;have hb4:=hb4.ext s3;refine WL.go rfl (OX.stW sz35 hb5 rfl rfl rfl rfl rfl fun w4 s4 _ hb5=>?_);have c4:=c3.own s4 ge_hb5;have hb4:=hb4.chg s4 (by simp [ne_hb4_hb5]);refine nx4 ?_;obtain ⟨b1,o1,r1,ha1,_,⟨q1,q2,q3,rfl,_⟩,hr1,_⟩:=(hr.ext c4).at (getElem_some hi);refine nx3 ?_;refine WP .r (PV.ixS sl27 ha1 rfl rfl (by omega))<|WP .r (PV.fa fa56_0 rfl)<|WP .r (V1 one4 hr1 .r)<|nx2 ?_;refine WC.cd (fun g26=>?_) fun g26=>?_
 ·
  have hk2:ofK rules i=⟨32,itoa i⟩:=by rw [hk,hri,g26];rfl
  refine nx ?_;refine WP .r (PV.fa fa35_0 rfl)<|?_;refine WL.go rfl (OX.st sz3 hb5 rfl rfl (by first | (simp [nth];done) | exact nns rfl) rfl rfl fun w5 s5 _ hb5=>?_);have c5:=c4.own s5 ge_hb5;have hb4:=hb4.chg s5 (by simp [ne_hb4_hb5]);refine nx4 ?_;refine WP .r (VA agg35 hb5.range .r)<|?_;refine WL.go rfl (OX.stW sz35 hb4 rfl rfl rfl rfl rfl fun w6 s6 _ hb4=>?_);have c6:=c5.own s6 ge_hb4;have hb5:=hb5.chg s6 (by simp [ne_hb5_hb4]);refine nx3 ?_;refine EX.retC agg35 rfl rfl hb4.range rfl<|?_;rw [hk2];exact ⟨rfl,c6⟩
 have hk2:ofK rules i=⟨31,itoa i⟩:=by rw [hk,hri,g26];rfl
 refine nx4 ?_;refine WP .r (VA agg35 hb5.range .r)<|?_;refine WL.go rfl (OX.stW sz35 hb4 rfl rfl rfl rfl rfl fun w5 s5 _ hb4=>?_);have c5:=c4.own s5 ge_hb4;have hb5:=hb5.chg s5 (by simp [ne_hb5_hb4]);refine nx3 ?_;refine EX.retC agg35 rfl rfl hb4.range rfl<|?_;rw [hk2];exact ⟨rfl,c5⟩
theorem has_calls {l:List Key} {k:Key} {A:Nat→Prop} {a:Option Addr} {r c:Nat} {w:World} (hl:Keys A w a r c l):Calls Tryz.prog 19 #[.slice a r c,k.val] w fun e w'=>e=.returned (.bool (decide (k∈l)))∧Chg [] w w':=by
 have hle:=hl.le;have hlen:=hl.len;refine enter Tryz.func19 rfl Tryz.ntmps19 rfl<|?_;have c0:Chg [] w w:=Chg.refl _ _;refine nx2 ?_;refine WL.go rfl (OX.box rfl rfl rfl fun b3 w1 nw3 hb3=>?_);have s1:=nw3.ext;have ge_hb3:=nw3.ge' c0;have c1:=c0.trans s1;refine nx7 ?_;refine WP .r (PV.len' sl41 rfl)<|nx4 ?_;refine WC.loop (σ:=Nat × World) (kvs:=fun s=>[(3,.pointer (some ⟨b3,0,none⟩)),(7,.slice a r c),(8,.int .i64 (r:Int)),(9,.int .i64 (s.1:Int))]) (I:=fun s w'=>Chg [] w w'∧Blk w' b3 35 [.int .i64 k.kind,.string k.text]∧s.1≤r∧k∉l.take s.1) (μ:=fun s=>r - s.1) (0,w) (Sub.k4 rfl rfl rfl rfl<|Sub.nil) ⟨c1,hb3,by omega,by simp⟩ ?_;rintro ⟨i,_⟩ w2 ⟨c2,hb3,hi,hno⟩;refine nx6 ?_;refine WC.cd (fun g10=>?_) fun g10=>?_
 ·
  simp at g10
  have hi2:i<l.length:=by omega
  refine nx5 ?_;obtain ⟨b1,o1,r1,ha1,_,rfl,hr1,_⟩:=(hl.ext c2).at (getElem_some hi2);refine nx ?_;refine WP .r (PV.ixS sl41 ha1 rfl rfl (by omega))<|WP .r (VA agg35 hr1 .r)<|?_;refine WL.go rfl (OX.alloc zv35 rfl fun b6 w3 nw6 hb6=>?_);have s3:=nw6.ext;have ge_hb6:=nw6.ge' c2;have ne_hb3_hb6:b3≠b6:=nw6.ne hb3.lt;have ne_hb6_hb3:b6≠b3:=Ne.symm ne_hb3_hb6;have c3:=c2.trans s3;have hb3:=hb3.ext s3;refine WL.go rfl (OX.stW sz35 hb6 rfl rfl rfl rfl rfl fun w4 s4 _ hb6=>?_);have c4:=c3.own s4 ge_hb6;have hb3:=hb3.chg s4 (by simp [ne_hb3_hb6]);refine nx4 ?_;refine WP .r (VA agg35 hb6.range .r)<|WP .r (VA agg35 hb3.range .r)<|WP .r (PV.eqK keyt35 (p:=l[i]) (q:=k) rfl rfl)<|nx2 ?_;refine WC.cd (fun g15=>?_) fun g15=>?_
  ·
   simp at g15
   refine nx11 ?_;refine EX.ret1 rfl rfl<|?_;exact ⟨by rw [decide_eq_true (g15 ▸ List.getElem_mem hi2)],c4⟩
  simp at g15
  refine nx7 ?_;refine EX.again (i+1,w) (Sub.k2 rfl rfl<|Sub.cons rfl<|Sub.consI rfl (by simp)<|Sub.nil) ⟨c4,hb3,by omega,by have h:=List.take_succ_eq_append_getElem hi2;simp only [h,List.mem_append,List.mem_singleton,not_or];exact ⟨hno,fun e=>g15 e.symm⟩⟩ (by simp;omega)
 simp at g10
 have hall:k∉l:=by rw [← List.take_of_length_le (show l.length≤i by omega)];exact hno
 refine nx11 ?_;refine EX.ret1 rfl rfl<|?_;exact ⟨by rw [decide_eq_false hall],c2⟩
theorem decimal_calls {s:ByteArray} {w:World}:Calls Tryz.prog 40 #[.string s] w fun e w'=>e=.returned (.int .i64 (decimal s))∧Chg [] w w':=by
 have he:=bytes_nil s;have hz:=bytes_zero s;refine enter Tryz.func40 rfl Tryz.ntmps40 rfl<|?_;have c0:Chg [] w w:=Chg.refl _ _;refine nx7 ?_;refine WC.cut1 (t:=20) (v:=.bool (decBad s)) (fun wx=>w=wx) ?_ ?_
 ·
  refine nx4 ?_;refine WL.gsplit (t:=7) rfl (fun g7=>?_) (fun g7=>?_)
  ·
   refine nx12 ?_;refine nx2 ?_;exact EX.meet1 17 rfl rfl rfl (by unfold decBad;first | (simp only [g7,hf0];done) | (simp only [g7,hf0];rfl) | (simp only [g7];rfl)) rfl
  skip
  refine nx ?_;refine WP .r (PV.lenS und9 rfl)<|nx3 ?_;refine WL.gsplit (t:=12) rfl (fun g12=>?_) (fun g12=>?_)
  ·
   refine nx9 ?_;exact EX.meet1 18 rfl rfl rfl (by unfold decBad;first | (simp only [g7,g12,hf0];done) | (simp only [g7,g12,hf0];rfl) | (simp only [g7,g12];rfl)) rfl
  have h7:=of_decide_eq_false g7;rw [he] at h7;obtain ⟨b0,hb0,hf0⟩:=bytes_first s (by omega);refine nx ?_;refine WP .r (PV.sidx und9 (i:=0) rfl rfl hb0)<|nx2 ?_;refine WL.gsplit (t:=16) rfl (fun g16=>?_) (fun g16=>?_)
  ·
   refine nx5 ?_;exact EX.meet1 19 rfl rfl rfl (by unfold decBad;first | (simp only [g7,g12,g16,hf0];done) | (simp only [g7,g12,g16,hf0];rfl) | (simp only [g7,g12,g16];rfl)) rfl
  refine nx5 ?_;exact EX.meet1 19 rfl rfl rfl (by unfold decBad;first | (simp only [g7,g12,g16,hf0];done) | (simp only [g7,g12,g16,hf0];rfl) | (simp only [g7,g12,g16];rfl)) rfl
 rintro _ rfl;refine nx ?_;refine WC.cd (fun g20=>?_) fun g20=>?_
 ·
  have hd:decimal s = -1:=by rw [decimal_bad];rw [if_pos g20]
  refine nx7 ?_;refine EX.ret1 rfl rfl<|?_;rw [hd];exact ⟨rfl,c0⟩
 have hd:decimal s=decFrom s.data.toList 0:=by rw [decimal_bad,g20];rfl
 have hs9:=decBad_le g20;refine nx12 ?_;refine nx2 ?_;refine WC.loop (σ:=Nat × Nat) (kvs:=fun p=>[(0,.string s),(3,.int .i64 (p.2:Int)),(4,.int .i64 (p.1:Int))]) (I:=fun p w'=>Chg [] w w'∧p.1≤s.size∧p.2<10 ^ p.1∧decFrom s.data.toList 0=decFrom (s.data.toList.drop p.1) p.2) (μ:=fun p=>s.size - p.1) (0,0) (Sub.k2 rfl rfl<|Sub.cons rfl<|Sub.nil) ⟨c0,by simp,by simp,by simp⟩ ?_;rintro ⟨i,n⟩ w1 ⟨c1,hi,hn,hdf⟩;simp only at hi hn hdf;have hn9:n<10 ^ 9:=Nat.lt_of_lt_of_le hn (Nat.pow_le_pow_right (by omega) (by omega));refine nx5 ?_;refine WP .r (PV.lenS und9 rfl)<|nx3 ?_;refine WC.cd (fun g24=>?_) fun g24=>?_
 ·
  simp at g24
  obtain ⟨b0,hb0,hstep⟩:=decFrom_step s (n:=(n:Int)) g24;refine nx6 ?_;refine WC.cut1 (t:=36) (v:=.bool (decide ((b0.toNat:Int)<48) || decide (57<(b0.toNat:Int)))) (fun wx=>w1=wx) ?_ ?_
  ·
   refine nx3 ?_;refine WP .r (PV.sidx und9 (i:=i) rfl rfl hb0)<|nx2 ?_;refine WL.gsplit (t:=31) rfl (fun g31=>?_) (fun g31=>?_)
   ·
    refine nx6 ?_;exact EX.meet1 11 rfl rfl rfl (by simp only [g31];first | rfl | simp) rfl
   refine nx2 ?_;refine WP .r (PV.sidx und9 (i:=i) rfl rfl hb0)<|nx3 ?_;exact EX.meet1 11 rfl rfl rfl (by simp only [g31];first | rfl | simp) rfl
  rintro _ rfl;refine nx ?_;refine WC.cd (fun g36=>?_) fun g36=>?_
  ·
   have hd2:decimal s = -1:=by rw [hd,hdf,hstep,if_pos (by simp at g36;omega)]
   refine nx12 ?_;refine EX.ret1 rfl rfl<|?_;rw [hd2];exact ⟨rfl,c1⟩
  simp at g36
  rw [if_neg (by omega)] at hstep;have hpow:10 ^ (i+1)=10*10 ^ i:=Nat.pow_succ';refine nx4 ?_;refine WP .r (PV.mul rfl rfl (by omega) (by omega))<|nx2 ?_;refine WP .r (PV.sidx und9 (i:=i) rfl rfl hb0)<|WP .r (PV.subu8 rfl rfl (by omega) (by omega))<|WP .r (PV.conv ⟨_,und5⟩ und3 rfl (by omega) (by omega))<|nx10 ?_;refine EX.again (i+1,10*n+(b0.toNat - 48)) (Sub.cons rfl<|Sub.consI rfl (by simp;omega)<|Sub.consI rfl (by simp)<|Sub.nil) ⟨c1,by simp;omega,by simp only;omega,by simp only;rw [hdf,hstep];congr 1;omega⟩ (by simp only;omega)
 simp at g24
 have hd2:decimal s=n:=by rw [hd,hdf,List.drop_eq_nil_of_le (by rw [Array.length_toList];exact g24)];rfl
 refine nx12 ?_;refine EX.ret1 rfl rfl<|?_;rw [hd2];exact ⟨rfl,c1⟩
theorem number_calls {k:Key} {w:World}:Calls Tryz.prog 39 #[k.val] w fun e w'=>e=.returned (.int .i64 (number k))∧Chg [] w w':=by
 refine enter Tryz.func39 rfl Tryz.ntmps39 rfl<|?_;have c0:Chg [] w w:=Chg.refl _ _;refine nx2 ?_;refine WL.go rfl (OX.box rfl rfl rfl fun b1 w1 nw1 hb1=>?_);have s1:=nw1.ext;have ge_hb1:=nw1.ge' c0;have c1:=c0.trans s1;refine nx6 ?_;refine WP .r (PV.fa fa35_1 rfl)<|WP .r (V1 one9 hb1.range .r)<|?_;refine WL.go rfl (OX.call cf40 rfl rfl ((decimal_calls (s:=k.text)).mono ?_));rintro _ w2 ⟨rfl,s2⟩;refine ⟨_,rfl,?_⟩;have c2:=c1.trans s2;have hb1:=hb1.ext s2;refine nx4 ?_;refine WC.cut1 (t:=18) (v:=.bool (decide (30≤k.kind) && (decide (k.kind≤32) && decide (decimal k.text≤99)))) (fun wx=>w2=wx) ?_ ?_
 ·
  refine nx ?_;refine WP .r (PV.fa fa35_0 rfl)<|WP .r (V1 one3 hb1.range .r)<|nx2 ?_;refine WL.gsplit (t:=10) rfl (fun g10=>?_) (fun g10=>?_)
  ·
   refine WP .r (PV.fa fa35_0 rfl)<|WP .r (V1 one3 hb1.range .r)<|nx3 ?_;refine WL.gsplit (t:=15) rfl (fun g15=>?_) (fun g15=>?_)
   ·
    refine nx4 ?_;exact EX.meet1 14 rfl rfl rfl (by simp only [g10,g15];first | rfl | simp) rfl
   refine nx4 ?_;exact EX.meet1 14 rfl rfl rfl (by simp only [g10,g15];first | rfl | simp) rfl
  refine nx9 ?_;exact EX.meet1 13 rfl rfl rfl (by simp only [g10];first | rfl | simp) rfl
 rintro _ rfl;refine nx ?_;refine WC.cd (fun g18=>?_) fun g18=>?_
 ·
  simp at g18
  have hn:number k=decimal k.text:=by unfold number;rw [if_pos g18]
  refine nx8 ?_;refine EX.ret1 rfl rfl<|?_;rw [hn];exact ⟨rfl,c2⟩
 simp at g18
 have hn:number k = -1:=by unfold number;rw [if_neg (by intro h;have:=g18 h.1 h.2.1;omega)]
 refine nx8 ?_;refine EX.ret1 rfl rfl<|?_;rw [hn];exact ⟨rfl,c2⟩
theorem validK_calls {k:Key} {w:World}:Calls Tryz.prog 18 #[k.val] w fun e w'=>e=.returned (.bool (validK k))∧Chg [] w w':=by
 refine enter Tryz.func18 rfl Tryz.ntmps18 rfl<|?_;have c0:Chg [] w w:=Chg.refl _ _;refine nx2 ?_;refine WL.go rfl (OX.box rfl rfl rfl fun b1 w1 nw1 hb1=>?_);have s1:=nw1.ext;have ge_hb1:=nw1.ge' c0;have c1:=c0.trans s1;refine nx5 ?_;refine WC.cut1 (t:=10) (v:=.bool (decide (30≤k.kind) && decide (k.kind≤32))) (fun wx=>w1=wx) ?_ ?_
 ·
  refine nx ?_;refine WP .r (PV.fa fa35_0 rfl)<|WP .r (V1 one3 hb1.range .r)<|nx2 ?_;refine WL.gsplit (t:=6) rfl (fun g6=>?_) (fun g6=>?_)
  ·
   refine WP .r (PV.fa fa35_0 rfl)<|WP .r (V1 one3 hb1.range .r)<|nx3 ?_;exact EX.meet1 9 rfl rfl rfl (by simp only [g6];first | rfl | simp) rfl
  refine nx5 ?_;exact EX.meet1 9 rfl rfl rfl (by simp only [g6];first | rfl | simp) rfl
 rintro _ rfl;refine nx ?_;refine WC.cd (fun g10=>?_) fun g10=>?_
 ·
  simp at g10
  refine nx2 ?_;refine WP .r (VA agg35 hb1.range .r)<|?_;refine WL.go rfl (OX.call cf39 rfl rfl ((number_calls (k:=k)).mono ?_));rintro _ w2 ⟨rfl,s2⟩;refine ⟨_,rfl,?_⟩;have c2:=c1.trans s2;have hb1:=hb1.ext s2;refine nx6 ?_;refine EX.ret1 rfl rfl<|?_;exact ⟨by unfold validK;rw [if_pos (by omega)],c2⟩
 simp at g10
 have hv:=validK_lang k (by omega);refine nx3 ?_;refine WC.cut1e (t:=2) (v:=.bool (validK k)) (fun wx=>w1=wx) ?_ ?_
 ·
  refine nx ?_;refine WP .r (PV.fa fa35_0 rfl)<|WP .r (V1 one3 hb1.range .r)<|nx2 ?_;refine WL.gsplit (t:=17) rfl (fun g17=>?_) (fun g17=>?_)
  ·
   refine WP .r (PV.fa fa35_0 rfl)<|WP .r (V1 one3 hb1.range .r)<|nx3 ?_;refine WL.gsplit (t:=22) rfl (fun g22=>?_) (fun g22=>?_)
   ·
    refine WP .r (PV.fa fa35_1 rfl)<|WP .r (V1 one9 hb1.range .r)<|WP .r (PV.lenS und9 rfl)<|nx3 ?_;refine WL.gsplit (t:=28) rfl (fun g28=>?_) (fun g28=>?_)
    ·
     refine WP .r (PV.fa fa35_1 rfl)<|WP .r (V1 one9 hb1.range .r)<|nx2 ?_;refine WL.gsplit (t:=32) rfl (fun g32=>?_) (fun g32=>?_)
     ·
      refine nx12 ?_;exact EX.meet1e 34 rfl rfl rfl (by rw [hv];simp only [g17,g22,g28,g32];first | rfl | simp) rfl
     refine WP .r (PV.fa fa35_0 rfl)<|WP .r (V1 one3 hb1.range .r)<|nx2 ?_;refine WL.gsplit (t:=36) rfl (fun g36=>?_) (fun g36=>?_)
     ·
      refine WP .r (PV.fa fa35_0 rfl)<|WP .r (V1 one3 hb1.range .r)<|nx6 ?_;exact EX.meet1e 35 rfl rfl rfl (by rw [hv];simp only [g17,g22,g28,g32,g36];first | rfl | simp) rfl
     refine nx8 ?_;exact EX.meet1e 35 rfl rfl rfl (by rw [hv];simp only [g17,g22,g28,g32,g36];first | rfl | simp) rfl
    refine nx12 ?_;refine nx4 ?_;exact EX.meet1e 33 rfl rfl rfl (by rw [hv];simp only [g17,g22,g28];first | rfl | simp) rfl
   refine nx12 ?_;refine nx10 ?_;exact EX.meet1e 32 rfl rfl rfl (by rw [hv];simp only [g17,g22];first | rfl | simp) rfl
  refine nx12 ?_;refine nx12 ?_;refine nx3 ?_;exact EX.meet1e 31 rfl rfl rfl (by rw [hv];simp only [g17];first | rfl | simp) rfl
 rintro _ rfl;refine nx2 ?_;refine EX.ret1 rfl rfl<|?_;exact ⟨rfl,c1⟩
theorem cyclic_calls {k:Key} {w:World}:Calls Tryz.prog 75 #[k.val] w fun e w'=>e=.returned (.bool (isCyclic k))∧Chg [] w w':=by
 refine enter Tryz.func75 rfl Tryz.ntmps75 rfl<|?_;have c0:Chg [] w w:=Chg.refl _ _;refine nx2 ?_;refine WL.go rfl (OX.box rfl rfl rfl fun b1 w1 nw1 hb1=>?_);have s1:=nw1.ext;have ge_hb1:=nw1.ge' c0;have c1:=c0.trans s1;refine nx4 ?_;refine WC.cut1e (t:=2) (v:=.bool (isCyclic k)) (Chg [] w1) ?_<|?_
 ·
  refine nx ?_;refine WP .r (PV.fa fa35_0 rfl)<|WP .r (V1 one3 hb1.range .r)<|nx2 ?_;refine WL.gsplit (t:=6) rfl (fun g6=>?_) (fun g6=>?_)
  ·
   refine nx12 ?_;refine nx4 ?_;exact EX.meet1e 20 rfl rfl rfl (by unfold isCyclic;simp only [g6];first | rfl | simp) (Chg.refl _ _)
  refine WP .r (PV.fa fa35_0 rfl)<|WP .r (V1 one3 hb1.range .r)<|nx2 ?_;refine WL.gsplit (t:=10) rfl (fun g10=>?_) (fun g10=>?_)
  ·
   refine WP .r (PV.fa fa35_0 rfl)<|WP .r (V1 one3 hb1.range .r)<|nx3 ?_;refine WL.gsplit (t:=15) rfl (fun g15=>?_) (fun g15=>?_)
   ·
    refine WP .r (PV.fa fa35_0 rfl)<|WP .r (V1 one3 hb1.range .r)<|?_;refine WL.go rfl (OX.call cf114 rfl rfl ((cyc22_calls (n:=k.kind)).mono ?_));rintro _ w2 ⟨rfl,s2⟩;refine ⟨_,rfl,?_⟩;have c2:=c1.trans s2;have hb1:=hb1.ext s2;refine nx4 ?_;exact EX.meet1e 22 rfl rfl rfl (by unfold isCyclic;simp only [g6,g10,g15];first | rfl | simp) s2
   refine nx7 ?_;exact EX.meet1e 22 rfl rfl rfl (by unfold isCyclic;simp only [g6,g10,g15];first | rfl | simp) (Chg.refl _ _)
  refine nx12 ?_;exact EX.meet1e 21 rfl rfl rfl (by unfold isCyclic;simp only [g6,g10];first | rfl | simp) (Chg.refl _ _)
 intro w2 s2;have c2:=c1.trans s2;have hb1:=hb1.ext s2;refine nx2 ?_;refine EX.ret1 rfl rfl<|?_;exact ⟨rfl,c2⟩
theorem cmp_calls {k q:Key} {w:World}:Calls Tryz.prog 24 #[k.val,q.val] w fun e w'=>e=.returned (.int .i64 (cmpK k q))∧Chg [] w w':=by
 refine enter Tryz.func24 rfl Tryz.ntmps24 rfl<|?_;have c0:Chg [] w w:=Chg.refl _ _;refine nx2 ?_;refine WL.go rfl (OX.box rfl rfl rfl fun b2 w1 nw2 hb2=>?_);have s1:=nw2.ext;have ge_hb2:=nw2.ge' c0;have c1:=c0.trans s1;refine WL.go rfl (OX.box rfl rfl rfl fun b3 w2 nw3 hb3=>?_);have s2:=nw3.ext;have ge_hb3:=nw3.ge' c1;have ne_hb2_hb3:b2≠b3:=nw3.ne hb2.lt;have ne_hb3_hb2:b3≠b2:=Ne.symm ne_hb2_hb3;have c2:=c1.trans s2;have hb2:=hb2.ext s2;refine nx7 ?_;refine WP .r (PV.fa fa35_0 rfl)<|WP .r (V1 one3 hb2.range .r)<|WP .r (PV.fa fa35_0 rfl)<|WP .r (V1 one3 hb3.range .r)<|nx4 ?_;refine WC.cd (fun g5=>?_) fun g5=>?_
 ·
  simp at g5
  refine nx8 ?_;refine EX.ret1 rfl rfl<|?_;exact ⟨by unfold cmpK;rw [if_pos g5],c2⟩
 simp at g5
 refine nx2 ?_;refine WP .r (PV.fa fa35_0 rfl)<|WP .r (V1 one3 hb2.range .r)<|WP .r (PV.fa fa35_0 rfl)<|WP .r (V1 one3 hb3.range .r)<|nx4 ?_;refine WC.cd (fun g11=>?_) fun g11=>?_
 ·
  simp at g11
  refine nx8 ?_;refine EX.ret1 rfl rfl<|?_;exact ⟨by unfold cmpK;rw [if_neg (by omega),if_pos g11],c2⟩
 simp at g11
 refine nx5 ?_;refine WP .r (PV.fa fa35_1 rfl)<|WP .r (V1 one9 hb2.range .r)<|WP .r (PV.fa fa35_1 rfl)<|WP .r (V1 one9 hb3.range .r)<|?_;refine WL.go rfl (OX.call cf42 rfl rfl ((compare_calls k.text q.text w2).mono ?_));rintro _ w3 ⟨rfl,s3⟩;refine ⟨_,rfl,?_⟩;have c3:=c2.trans s3;have hb2:=hb2.ext s3;have hb3:=hb3.ext s3;refine nx4 ?_;refine EX.ret1 rfl rfl<|?_;exact ⟨by unfold cmpK;rw [if_neg (by omega),if_neg (by omega)],c3⟩
end Go.Rc

