/- Walks over the program, part WLib. Conditions: as each theorem says. -/
import Derived.Test.YtgcmaglhocmnlaaGreatDoorFacts
import Derived.Test.YtgcmaglhocmnlaaGreatDoorBc
import Derived.Test.YtgcmaglhocmnlaaGreatDoorShelf
import Derived.Lib.UnsafeStr
set_option linter.unusedVariables false
set_option linter.unusedSimpArgs false
set_option linter.unusedSectionVars false
namespace Go.Rc
open Go Go.Proofs
theorem Below.chg0 {w w':World} (h:RowKit.Below w.heap.size w w'):Chg [] w w':=⟨h.os,h.tape,h.output,h.size,fun k hk _=>h.block k hk⟩
theorem chg_grow (w:World) (k:Nat) (os:Array Obj):Chg [] w (Sort.grow (w.drewN k) os):=⟨rfl,rfl,rfl,by simp [Sort.grow],fun i hi _=>Sort.heap_grow_old (w.drewN k) os (k:=i) hi⟩
theorem itoa_nat (i:Nat):itoa (i:Int)=⟨(Lib.decDigits i).toArray⟩:=by
 unfold itoa Lib.itoa
 rw [if_neg (by omega),Int.toNat_natCast]
theorem itoa_small {n:Int} (h0:0≤n) (h1:n≤99) (w:World):Calls Tryz.prog 27 #[.int .i64 n] w fun e w'=>e=.returned (.string (itoa n))∧Chg [] w w':=by
 obtain ⟨i,rfl⟩:∃i:Nat,n=i:=⟨n.toNat,by omega⟩
 exact (Tryz.strconv_Itoa_small i (by omega) w).mono fun e w' ⟨he,hw⟩=>⟨by rw [he,itoa_nat],by rw [hw];exact Chg.refl _ _⟩
theorem itoa_calls {A:Nat→Prop} {n:Int} {w:World} (ht:Tab Tryz.prog A w) (h0:-9223372036854775808≤n) (h1:n≤9223372036854775807):Calls Tryz.prog 27 #[.int .i64 n] w fun e w'=>e=.returned (.string (itoa n))∧Chg [] w w':=
 (Tryz.strconv_Itoa n h0 h1 w ht.is).mono fun e w' ⟨he,k,os,hw⟩=>⟨he,by rw [hw];exact chg_grow _ _ _⟩
theorem compare_calls (s t:ByteArray) (w:World):Calls Tryz.prog 50 #[.string s,.string t] w fun e w'=>e=.returned (.int .i64 (Lib.compareBytes s.data.toList t.data.toList))∧Chg [] w w':=
 (Tryz.strings_Compare s t w).mono fun e w' ⟨he,hw⟩=>⟨he,by rw [hw];exact Chg.refl _ _⟩
theorem parse_one {d acc:Nat} (hd:d<10) (ha:acc<100000000000000000):Lib.parseUint10 acc [UInt8.ofNat (48+d)]=.ok (acc*10+d):=by
 have h:(UInt8.ofNat (48+d)).toNat=48+d:=by
  rw [UInt8.toNat_ofNat']
  omega
 simp only [Lib.parseUint10,h];rw [if_pos (by omega),if_neg (by omega),if_neg (by omega)]
 congr 1
 omega
theorem parse_more (b:UInt8):∀(l:List UInt8) (acc u:Nat),Lib.parseUint10 acc l=.ok u→Lib.parseUint10 acc (l++[b])=Lib.parseUint10 u [b]
 | [],acc,u,h=>by
  simp only [Lib.parseUint10] at h
  injection h with h
  subst h
  rfl
 | c::r,acc,u,h=>by
  have ih:=fun a=>parse_more b r a u
  generalize Lib.parseUint10 u [b]=X at ih ⊢
  simp only [List.cons_append,Lib.parseUint10] at h ⊢
  split at h
  ·
   rename_i h1
   rw [if_pos h1]
   split at h
   ·
    cases h
   rename_i h2
   rw [if_neg h2]
   split at h
   ·
    cases h
   rename_i h3
   rw [if_neg h3];exact ih _ h
  cases h
theorem parse_dec (n:Nat) (hn:n≤99999):Lib.parseUint10 0 (Lib.decDigits n)=.ok n:=by
 by_cases h:n<10
 ·
  rw [Lib.decDigits,dif_pos h];have h1:=parse_one (acc:=0) h (by omega);rw [Nat.zero_mul,Nat.zero_add] at h1;exact h1
 rw [Lib.decDigits,dif_neg h,parse_more _ _ _ _ (parse_dec (n / 10) (by omega)),parse_one (by omega) (by omega)]
 congr 1
 omega
termination_by n
decreasing_by omega
theorem dec_head (n:Nat):∃b r,Lib.decDigits n=b::r∧48≤b.toNat:=by
 by_cases h:n<10
 ·
  refine ⟨UInt8.ofNat (48+n),[],by rw [Lib.decDigits,dif_pos h],?_⟩;rw [UInt8.toNat_ofNat']
  omega
 obtain ⟨b,r,h1,h2⟩:=dec_head (n / 10);exact ⟨b,r++[UInt8.ofNat (48+n % 10)],by rw [Lib.decDigits,dif_neg h,h1,List.cons_append],h2⟩
termination_by n
decreasing_by omega
theorem dec_len (n:Nat):(Lib.decDigits n).length≤n+1:=by
 by_cases h:n<10
 ·
  rw [Lib.decDigits,dif_pos h,List.length_singleton]
  omega
 have h1:=dec_len (n / 10);rw [Lib.decDigits,dif_neg h,List.length_append,List.length_singleton]
 omega
termination_by n
decreasing_by omega
theorem atoi_dec {n:Nat} (hn:n≤99999):Lib.atoiAll (Lib.decDigits n)=.ok (n:Int):=by
 obtain ⟨b,r,h1,h2⟩:=dec_head n;have h3:=parse_dec n hn;rw [h1] at h3 ⊢;rw [Lib.atoiAll_plain b r (by omega) (by omega)]
 unfold Lib.parseMag
 rw [if_neg (by simp),h3]
 show (if 9223372036854775808≤n then Lib.NumEnd.range else .ok (n:Int))=.ok (n:Int)
 rw [if_neg (by omega)]
theorem atoi_num {n:Nat} (h:n≤99999) (w:World):Calls Tryz.prog 144 #[.string (itoa n)] w fun e w'=>e=.returned (.tuple #[.int .i64 (n:Int),.nilIface])∧Chg [] w w':=by
 have hs:(itoa (n:Int)).data.toList=Lib.decDigits n:=(congrArg (fun x:ByteArray=>x.data.toList) (itoa_nat n)).trans rfl
 refine (Tryz.strconv_Atoi_ok (itoa n) ?_ n (by rw [hs];exact atoi_dec h) w).mono fun e w' ⟨he,hw⟩=>⟨he,?_⟩
 ·
  have h1:=dec_len n;rw [itoa_nat]
  show (Lib.decDigits n).toArray.size≤9223372036854775806
  rw [List.size_toArray]
  omega
 rcases hw with rfl | ⟨t,rfl⟩
 ·
  exact Chg.refl _ _
 exact Below.chg0 (Lib.bytesWorld_below _ _ _)
theorem atoi_small {n:Nat} (h:n≤99) (w:World):Calls Tryz.prog 144 #[.string (itoa n)] w fun e w'=>e=.returned (.tuple #[.int .i64 (n:Int),.nilIface])∧Chg [] w w':=atoi_num (by omega) w
end Go.Rc

