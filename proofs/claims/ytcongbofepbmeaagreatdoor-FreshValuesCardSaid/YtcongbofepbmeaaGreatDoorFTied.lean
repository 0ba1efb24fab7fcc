/- What the row lists is tied to the program: the text that is laid by the cut, each closed fact by itself. Conditions: none. -/
import Derived.Test.YtcongbofepbmeaaGreatDoorRows
import Derived.Test.YtcongbofepbmeaaGreatDoorFBi
import Derived.LaidByTextLater
import Derived.SevenTiedAt
import Derived.LaidSub
import Derived.LaidOnce
namespace Go.Proofs.YtcongbofepbmeaaGreatDoor
open Go
set_option linter.all false
set_option maxRecDepth 1000000
theorem Dm : Tryz.prog.funcs.size = 1110 := Nat.eq_of_beq_eq_true (by kernel_rfl)
theorem w1 : Tryz.prog.worded (varsWordLater true) = true := (Rc.mO _ _).trans (by kernel_rfl)
theorem w2 : Tryz.prog.worded (varsWordLater !true) = false := (Rc.mO _ _).trans (by kernel_rfl)
theorem w3 : Tryz.prog.worded rootWordLater = true := (Rc.mO _ _).trans (by kernel_rfl)
theorem w4 : ([("math/bits.deBruijn32tab", Rows.laid_math_bits_deBruijn32tab), ("math/bits.deBruijn64tab", Rows.laid_math_bits_deBruijn64tab), ("internal/strconv.uint64pow10", Rows.laid_internal_strconv_uint64pow10), ("unicode/utf8.acceptRanges", Rows.laid_unicode_utf8_acceptRanges), ("strconv.ErrRange", Rows.laid_strconv_ErrRange), ("strconv.ErrSyntax", Rows.laid_strconv_ErrSyntax)] : List (String × DataW Unit)).map (fun x => Tryz.prog.kindOfLater x.1) = ([.data, .data, .data, .data, .sentinel, .sentinel] : List LaidKind).map some := by kernel_rfl
theorem w5 : Tryz.prog.funcNamed "gosem.cut.vars" = some 1109 := (Rc.mN _ _).trans (by kernel_rfl)
theorem vid : varsId Tryz.prog = 1109 := by
  unfold varsId
  rw [w5]
  rfl
theorem w6 : varsNamedLaterB Tryz.prog (varsId Tryz.prog) [("math/bits.deBruijn32tab", Rows.laid_math_bits_deBruijn32tab), ("math/bits.deBruijn64tab", Rows.laid_math_bits_deBruijn64tab), ("internal/strconv.uint64pow10", Rows.laid_internal_strconv_uint64pow10), ("unicode/utf8.acceptRanges", Rows.laid_unicode_utf8_acceptRanges), ("strconv.ErrRange", Rows.laid_strconv_ErrRange), ("strconv.ErrSyntax", Rows.laid_strconv_ErrSyntax)] = true := by
  rw [vid]
  kernel_rfl
theorem w7 : ∀ os tape, doorLeaves Tryz.prog 72 8 65 [("math/bits.deBruijn32tab", Rows.laid_math_bits_deBruijn32tab), ("math/bits.deBruijn64tab", Rows.laid_math_bits_deBruijn64tab), ("internal/strconv.uint64pow10", Rows.laid_internal_strconv_uint64pow10), ("unicode/utf8.acceptRanges", Rows.laid_unicode_utf8_acceptRanges), ("strconv.ErrRange", Rows.laid_strconv_ErrRange), ("strconv.ErrSyntax", Rows.laid_strconv_ErrSyntax)] os tape = some (([("math/bits.deBruijn32tab", Rows.laid_math_bits_deBruijn32tab), ("math/bits.deBruijn64tab", Rows.laid_math_bits_deBruijn64tab), ("internal/strconv.uint64pow10", Rows.laid_internal_strconv_uint64pow10), ("unicode/utf8.acceptRanges", Rows.laid_unicode_utf8_acceptRanges), ("strconv.ErrRange", Rows.laid_strconv_ErrRange), ("strconv.ErrSyntax", Rows.laid_strconv_ErrSyntax)] : List (String × DataW Unit)).filter fun x => x.2.handleName?.isNone, (funcsListed [("math/bits.deBruijn32tab", Rows.laid_math_bits_deBruijn32tab), ("math/bits.deBruijn64tab", Rows.laid_math_bits_deBruijn64tab), ("internal/strconv.uint64pow10", Rows.laid_internal_strconv_uint64pow10), ("unicode/utf8.acceptRanges", Rows.laid_unicode_utf8_acceptRanges), ("strconv.ErrRange", Rows.laid_strconv_ErrRange), ("strconv.ErrSyntax", Rows.laid_strconv_ErrSyntax)]).map (·.2.funcsOut)) := fun _ _ => Rc.Kv vid rfl (by kernel_rfl)
theorem Pf : Tryz.prog.laidByTextLater [("math/bits.deBruijn32tab", Rows.laid_math_bits_deBruijn32tab), ("math/bits.deBruijn64tab", Rows.laid_math_bits_deBruijn64tab), ("internal/strconv.uint64pow10", Rows.laid_internal_strconv_uint64pow10), ("unicode/utf8.acceptRanges", Rows.laid_unicode_utf8_acceptRanges), ("strconv.ErrRange", Rows.laid_strconv_ErrRange), ("strconv.ErrSyntax", Rows.laid_strconv_ErrSyntax)] [.data, .data, .data, .data, .sentinel, .sentinel] true := Program.laidByTextLater_by_one 72 8 65 w1 w2 w3 w4 (by rw [w5]; rfl) w6 w7
theorem Gh : Tryz.prog.pinnedFits "unicode/utf8.first" = true := by
  unfold Program.pinnedFits
  rw [w5]
  kernel_rfl
theorem Io : Tryz.pinned.checked.prog.pinnedFits "unicode/utf8.first" = true := Gh
theorem Gi : Tryz.pinned.checked.prog.headLifts.contains "ownunsafe" = false := by kernel_rfl
theorem Lb : Tryz.pinned.checked.prog.listedFits [("math/bits.deBruijn32tab", Rows.laid_math_bits_deBruijn32tab), ("math/bits.deBruijn64tab", Rows.laid_math_bits_deBruijn64tab), ("internal/strconv.uint64pow10", Rows.laid_internal_strconv_uint64pow10), ("unicode/utf8.acceptRanges", Rows.laid_unicode_utf8_acceptRanges), ("strconv.ErrRange", Rows.laid_strconv_ErrRange), ("strconv.ErrSyntax", Rows.laid_strconv_ErrSyntax), ("unicode/utf8.first", Rows.laid_unicode_utf8_first)] = true := by
  unfold Program.listedFits
  rw [Gi]
  kernel_rfl
theorem Gg : Rows.freshValuesRow.laidByTextAt .later Tryz.pinned [.data, .data, .data, .data, .sentinel, .sentinel, .pinned] true :=
  OpenClaim.laidByTextAt_pinned rfl rfl Pf rfl rfl rfl rfl (fun y hy _e => by
    simp only [Rows.freshValuesRow, List.zip_cons_cons, List.zip_nil_right, List.mem_cons, List.mem_nil_iff, or_false] at hy
    rcases hy with rfl | rfl | rfl | rfl | rfl | rfl | rfl
    · cases _e
    · cases _e
    · cases _e
    · cases _e
    · cases _e
    · cases _e
    · exact⟨Io, by kernel_rfl⟩) Lb
end Go.Proofs.YtcongbofepbmeaaGreatDoor
