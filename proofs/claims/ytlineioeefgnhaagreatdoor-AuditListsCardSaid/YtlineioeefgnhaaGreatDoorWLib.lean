/- Walks over the program, part WLib. Conditions: as each theorem says. -/
import Derived.Test.YtlineioeefgnhaaGreatDoorFacts
import Derived.Test.YtlineioeefgnhaaGreatDoorBa
import Derived.Test.YtlineioeefgnhaaGreatDoorShelf
import Derived.Lib.UnsafeStr
set_option linter.unusedVariables false
set_option linter.unusedSimpArgs false
set_option linter.unusedSectionVars false
namespace Go.Rc
open Go Go.Proofs
theorem Below.chg0 {w w' : World} (h : RowKit.Below w.heap.size w w') : Chg [] w w' := ⟨h.os, h.tape, h.output, h.size, fun k hk _ => h.block k hk⟩
theorem chg_grow (w : World) (k : Nat) (os : Array Obj) : Chg [] w (Sort.grow (w.drewN k) os) := ⟨rfl, rfl, rfl, by simp [Sort.grow], fun i hi _ => Sort.heap_grow_old (w.drewN k) os (k := i) hi⟩
theorem itoa_nat (i : Nat) : itoa (i : Int) = ⟨(Lib.decDigits i).toArray⟩ := by
 unfold itoa Lib.itoa
 rw [if_neg (by omega), Int.toNat_natCast]
theorem itoa_small {n : Int} (h0 : 0 ≤ n) (h1 : n ≤ 99) (w : World) : Calls Tryz.prog 13 #[.int .i64 n] w fun e w' => e = .returned (.string (itoa n)) ∧ Chg [] w w' := by
 obtain ⟨i, rfl⟩ : ∃ i : Nat, n = i := ⟨n.toNat, by omega⟩
 exact (Tryz.strconv_Itoa_small i (by omega) w).mono fun e w' ⟨he, hw⟩ => ⟨by rw [he, itoa_nat], by rw [hw]; exact Chg.refl _ _⟩
theorem itoa_calls {A : Nat → Prop} {n : Int} {w : World} (ht : Tab Tryz.prog A w) (h0 : -9223372036854775808 ≤ n) (h1 : n ≤ 9223372036854775807) : Calls Tryz.prog 13 #[.int .i64 n] w fun e w' => e = .returned (.string (itoa n)) ∧ Chg [] w w' :=
 (Tryz.strconv_Itoa n h0 h1 w ht.is).mono fun e w' ⟨he, k, os, hw⟩ => ⟨he, by rw [hw]; exact chg_grow _ _ _⟩
theorem compare_calls (s t : ByteArray) (w : World) : Calls Tryz.prog 84 #[.string s, .string t] w fun e w' => e = .returned (.int .i64 (Lib.compareBytes s.data.toList t.data.toList)) ∧ Chg [] w w' :=
 (Tryz.strings_Compare s t w).mono fun e w' ⟨he, hw⟩ => ⟨he, by rw [hw]; exact Chg.refl _ _⟩
theorem decDigits_two (a b : Nat) (ha : a < 10) (hb : b < 10) : Lib.decDigits (10 * a + b) = if a = 0 then [UInt8.ofNat (48 + b)] else [UInt8.ofNat (48 + a), UInt8.ofNat (48 + b)] := by
 by_cases h : a = 0
 ·
  subst h
  rw [Lib.decDigits, dif_pos (by omega)]
  simp
 ·
  rw [Lib.decDigits, dif_neg (by omega), show (10 * a + b) / 10 = a by omega, show (10 * a + b) % 10 = b by omega, Lib.decDigits, dif_pos (by omega), if_neg h]
  rfl
theorem atoi_two : ∀ a, a < 10 → ∀ b, b < 10 → Lib.atoi (if a = 0 then [UInt8.ofNat (48 + b)] else [UInt8.ofNat (48 + a), UInt8.ofNat (48 + b)]) = some ((10 * a + b : Nat) : Int) := by decide +kernel
theorem atoi_dec {n : Nat} (h : n ≤ 99) : Lib.atoi (Lib.decDigits n) = some (n : Int) ∧ (Lib.decDigits n).length ≤ 2 := by
 obtain ⟨a, b, rfl, ha, hb⟩ : ∃ a b : Nat, n = 10 * a + b ∧ a < 10 ∧ b < 10 := ⟨n / 10, n % 10, by omega, by omega, by omega⟩
 rw [decDigits_two a b ha hb]
 exact ⟨atoi_two a ha b hb, by split <;> simp⟩
theorem atoi_small {n : Nat} (h : n ≤ 99) (w : World) : Calls Tryz.prog 132 #[.string (itoa n)] w fun e w' => e = .returned (.tuple #[.int .i64 (n : Int), .nilIface]) ∧ Chg [] w w' := by
 have hd := atoi_dec h
 refine (Tryz.strconv_Atoi (itoa n) n ?_ ?_ w).mono fun e w' ⟨he, t, hw⟩ => ⟨he, by rw [hw]; exact Below.chg0 (Lib.below_freeze ((RowKit.Below.drew (RowKit.Below.refl _ w)).alloc (Nat.le_refl _) _) (p := ⟨w.heap.size, _, none⟩) (Nat.le_refl _) 1)⟩
 ·
  rw [itoa_nat]
  show (Lib.decDigits n).toArray.size ≤ 18
  rw [List.size_toArray]
  omega
 ·
  rw [itoa_nat]
  simpa using hd.1
end Go.Rc

