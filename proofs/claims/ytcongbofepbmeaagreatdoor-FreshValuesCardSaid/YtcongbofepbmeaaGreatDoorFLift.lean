/- The call of FreshValues returns true and leaves its arguments as they read: the walk lifted to the form. Conditions: those of the given row. -/
import Derived.Test.YtcongbofepbmeaaGreatDoorRows
import Derived.Test.YtcongbofepbmeaaGreatDoorFWXc
import Derived.Test.YtcongbofepbmeaaGreatDoorFClosed
import Derived.Test.YtcongbofepbmeaaGreatDoorFBi
import Derived.WalkKit
import Derived.ProofKit
import Derived.Handy
import Derived.Lay
import Derived.SevenTiedAt
import Derived.MakeChecks
import Derived.LaidLaws
import Derived.Handed
import Derived.JoinedOf
import Derived.LaidMore
import Derived.OpenShut
import Derived.Lib.LaidTab
namespace Go.Proofs.YtcongbofepbmeaaGreatDoor
open Go Go.ChangeShapes Go.WideShapes Go.ChangeAt Go.RowKit
set_option linter.all false
set_option maxRecDepth 1000000
theorem Zu : Tryz.prog.globalNamed "internal/strconv.uint64pow10" = some 0 := by kernel_rfl
theorem Zv : (Tryz.prog.globals[0]?).map (·.type) = some 221 := by kernel_rfl
theorem Zw : Rows.laid_internal_strconv_uint64pow10 (H := Unit) = Lib.tabData .u64 Lib.pow10Tab := by kernel_rfl
theorem plain : (Rows.freshValuesRow.laid.all fun x => x.2.handleName?.isNone) = true := by kernel_rfl
theorem stK : Rc.yh Tryz.prog 29 [(0, 3, 1), (1, 9, 1)] = true := by kernel_rfl
theorem stT : Rc.yh Tryz.prog 25 [(0, 3, 1), (1, 22, 1), (2, 23, 1)] = true := by kernel_rfl
theorem stI : Rc.yh Tryz.prog 90 [(0, 29, 2), (2, 9, 1), (3, 3, 1)] = true := by kernel_rfl
theorem stR : Rc.yh Tryz.prog 34 [(0, 29, 2), (2, 9, 1), (3, 32, 1), (4, 3, 1), (5, 3, 1), (6, 3, 1), (7, 4, 1)] = true := by kernel_rfl
theorem stU : Rc.yh Tryz.prog 37 [(0, 4, 1), (1, 35, 1), (2, 3, 1), (3, 3, 1)] = true := by kernel_rfl
theorem RN : Rc.yh Tryz.prog 77 [(0, 4, 1), (1, 4, 1), (2, 3, 1), (3, 3, 1)] = true := by kernel_rfl
theorem cK : Tryz.prog.cellsOf 29 = 2 := by kernel_rfl
theorem cT : Tryz.prog.cellsOf 25 = 3 := by kernel_rfl
/-- The call returns true and leaves what was there as it was. -/
theorem ae(W : World) (x : Rc.cA) (c : List Rc.aA) (l : List Int) (k : Rc.Key) (n what : Int) (a1 a2 ar al : Option Addr) (n1 e1 n2 e2 r cr nl cl : Nat) (ht : Rc.gV Tryz.prog (fun b => b < W.heap.size) W) (hu : Rc.Rd Rc.RR.dp 4 (fun b => b < W.heap.size) W ar r cr c) (hi : Rc.Rd Rc.RR.az 4 (fun b => b < W.heap.size) W a1 n1 e1 x.ad) (hr : Rc.Rd Rc.RR.C4 8 (fun b => b < W.heap.size) W a2 n2 e2 x.ah) (hl : Rc.Rd Rc.RR.int 1 (fun b => b < W.heap.size) W al nl cl l) (d : Rc.Jq x) (hk : k.text.size ≤ 140737488355328) (hw : -9223372036854775808 ≤ what ∧ what ≤ 9223372036854775807) :
    Calls Tryz.prog 3 #[.agg (x.row a1 n1 e1 a2 n2 e2).toArray, .slice ar r cr, .slice al nl cl, k.val, .int .i64 n, .int .i64 what] W fun e a => e = .returned (.bool true) ∧ Below W.heap.size W a :=
  (Rc.pw (M := fun _ => True) (Rc.St.start fun _ h => h) ht hu hi hr hl d hk hw).mono fun e a ⟨he, hb⟩ => ⟨he, hb.Oa _ (Nat.le_refl _)⟩
theorem noInit : Tryz.checked.prog.inits.idxOf? 3 = none := by kernel_rfl
theorem layList_cons{Q : Program}{n m g t : Nat}{x : String × DataW Unit}{r : List (String × DataW Unit)}{y z : _}(h1 : Q.globalNamed x.1 = some g) (a : (Q.globals[g]?).map (·.type) = some t) (c : x.2.lay Q t n = some y) (hm : n + y.2.length = m) (d : Lay.layList Q m r = some z) : Lay.layList Q n (x :: r) = some ((g, y.1) :: z.1, y.2 ++ z.2) := by
  cases b : Q.globals[g]? with
  | none => simp [b] at a
  | some e =>
    simp only [b, Option.map_some, Option.some.injEq] at a
    subst a hm
    simp [Lay.layList, h1, b, c, d]
theorem lay_iface{Q : Program}{name : String}{d : DataW Unit}{t n u : Nat}{x : _}{v : Value}(b : (List.range Q.types.size).find? (fun u => Q.typeName? 3 u == some name) = some u) (a : (match Q.underlying t with | some (.interface _) => true | _ => false) = true) (c : d.lay Q u n = some x) (e : Lay.pack Q u x.1 = some v) : (DataW.iface name d).lay Q t n = some ([.iface u v], x.2) := by
  cases hu : Q.underlying t with
  | none => simp [hu] at a
  | some d0 =>
    cases d0 <;> simp [hu] at a
    simp [DataW.lay, b, hu, c, e]
theorem layVars_some{Q : Program}{w : World}{l : List (String × DataW Unit)}{n : Nat}{y : _}(hn : w.heap.size = n) (h : Lay.layList Q n l = some y) : World.layVars Q w l = { w with heap := ⟨Lay.setRows w.heap.toList y.1 ++ y.2⟩ } := by
  subst hn
  unfold World.layVars
  rw [h]
theorem layFits_some{Q : Program}{w : World}{l : List (String × DataW Unit)}{B : List Nat}{n : Nat}{y : _}(hn : w.heap.size = n) (h : Lay.layList Q n l = some y) (hk : (decide (y.1.map (·.1)).Nodup && (y.1.all fun r => Lay.isRow w.heap.toList[r.1]? && !B.contains r.1) && B.all (· < w.heap.size)) = true) : w.layFits Q l B = true := by
  subst hn
  unfold World.layFits
  rw [h]
  exact hk
theorem layIfaces_some{Q : Program}{w w' : World}{l : List (String × DataW Unit)}{n : Nat}{y : _}(hn : w.heap.size = n) (h : Lay.layList Q n l = some y) (hk : ((y.1.all fun r => r.2.all (Lay.okV Q w')) && y.2.all (Lay.okO Q w')) = true) : w.layIfaces Q l w' = true := by
  subst hn
  unfold World.layIfaces
  rw [h]
  exact hk
theorem below_step{p : Nat → Bool}{a k b : Nat}(h : ∀ u, u < a → p u = false) (hc : ((List.range k).all fun i => !p (a + i)) = true) (hb : a + k = b) : ∀ u, u < b → p u = false := fun u hu => by
  rcases Nat.lt_or_ge u a with h1 | h1
  · exact h u h1
  · have := List.all_eq_true.1 hc (u - a) (List.mem_range.2 (by omega))
    rw [show a + (u - a) = u by omega] at this
    simpa using this
theorem find_at{p : Nat → Bool}{U N : Nat}(a : p U = true) (hl : U < N) (h : ∀ u, u < U → p u = false) : (List.range N).find? p = some U := by
  rw [List.find?_eq_some_iff_getElem]
  exact⟨a, U, by simpa using hl, by simp, fun j b => by simp [h j b]⟩
theorem fc0 : ((List.range 65).all fun i => !(fun u => Tryz.prog.typeName? 3 u == some "*errors.errorString") (0 + i)) = true := by kernel_rfl
theorem fc1 : ((List.range 65).all fun i => !(fun u => Tryz.prog.typeName? 3 u == some "*errors.errorString") (65 + i)) = true := by kernel_rfl
theorem fc2 : ((List.range 65).all fun i => !(fun u => Tryz.prog.typeName? 3 u == some "*errors.errorString") (130 + i)) = true := by kernel_rfl
theorem fc3 : ((List.range 65).all fun i => !(fun u => Tryz.prog.typeName? 3 u == some "*errors.errorString") (195 + i)) = true := by kernel_rfl
theorem fc4 : ((List.range 65).all fun i => !(fun u => Tryz.prog.typeName? 3 u == some "*errors.errorString") (260 + i)) = true := by kernel_rfl
theorem fc5 : ((List.range 65).all fun i => !(fun u => Tryz.prog.typeName? 3 u == some "*errors.errorString") (325 + i)) = true := by kernel_rfl
theorem fc6 : ((List.range 65).all fun i => !(fun u => Tryz.prog.typeName? 3 u == some "*errors.errorString") (390 + i)) = true := by kernel_rfl
theorem fc7 : ((List.range 65).all fun i => !(fun u => Tryz.prog.typeName? 3 u == some "*errors.errorString") (455 + i)) = true := by kernel_rfl
theorem fc8 : ((List.range 65).all fun i => !(fun u => Tryz.prog.typeName? 3 u == some "*errors.errorString") (520 + i)) = true := by kernel_rfl
theorem fc9 : ((List.range 65).all fun i => !(fun u => Tryz.prog.typeName? 3 u == some "*errors.errorString") (585 + i)) = true := by kernel_rfl
theorem fc10 : ((List.range 65).all fun i => !(fun u => Tryz.prog.typeName? 3 u == some "*errors.errorString") (650 + i)) = true := by kernel_rfl
theorem fc11 : ((List.range 65).all fun i => !(fun u => Tryz.prog.typeName? 3 u == some "*errors.errorString") (715 + i)) = true := by kernel_rfl
theorem fc12 : ((List.range 65).all fun i => !(fun u => Tryz.prog.typeName? 3 u == some "*errors.errorString") (780 + i)) = true := by kernel_rfl
theorem fb0 : ∀ u, u < 0 → (fun u => Tryz.prog.typeName? 3 u == some "*errors.errorString") u = false := fun u h => absurd h (Nat.not_lt_zero u)
theorem fb1 : ∀ u, u < 65 → (fun u => Tryz.prog.typeName? 3 u == some "*errors.errorString") u = false := below_step (p := (fun u => Tryz.prog.typeName? 3 u == some "*errors.errorString")) fb0 fc0 rfl
theorem fb2 : ∀ u, u < 130 → (fun u => Tryz.prog.typeName? 3 u == some "*errors.errorString") u = false := below_step (p := (fun u => Tryz.prog.typeName? 3 u == some "*errors.errorString")) fb1 fc1 rfl
theorem fb3 : ∀ u, u < 195 → (fun u => Tryz.prog.typeName? 3 u == some "*errors.errorString") u = false := below_step (p := (fun u => Tryz.prog.typeName? 3 u == some "*errors.errorString")) fb2 fc2 rfl
theorem fb4 : ∀ u, u < 260 → (fun u => Tryz.prog.typeName? 3 u == some "*errors.errorString") u = false := below_step (p := (fun u => Tryz.prog.typeName? 3 u == some "*errors.errorString")) fb3 fc3 rfl
theorem fb5 : ∀ u, u < 325 → (fun u => Tryz.prog.typeName? 3 u == some "*errors.errorString") u = false := below_step (p := (fun u => Tryz.prog.typeName? 3 u == some "*errors.errorString")) fb4 fc4 rfl
theorem fb6 : ∀ u, u < 390 → (fun u => Tryz.prog.typeName? 3 u == some "*errors.errorString") u = false := below_step (p := (fun u => Tryz.prog.typeName? 3 u == some "*errors.errorString")) fb5 fc5 rfl
theorem fb7 : ∀ u, u < 455 → (fun u => Tryz.prog.typeName? 3 u == some "*errors.errorString") u = false := below_step (p := (fun u => Tryz.prog.typeName? 3 u == some "*errors.errorString")) fb6 fc6 rfl
theorem fb8 : ∀ u, u < 520 → (fun u => Tryz.prog.typeName? 3 u == some "*errors.errorString") u = false := below_step (p := (fun u => Tryz.prog.typeName? 3 u == some "*errors.errorString")) fb7 fc7 rfl
theorem fb9 : ∀ u, u < 585 → (fun u => Tryz.prog.typeName? 3 u == some "*errors.errorString") u = false := below_step (p := (fun u => Tryz.prog.typeName? 3 u == some "*errors.errorString")) fb8 fc8 rfl
theorem fb10 : ∀ u, u < 650 → (fun u => Tryz.prog.typeName? 3 u == some "*errors.errorString") u = false := below_step (p := (fun u => Tryz.prog.typeName? 3 u == some "*errors.errorString")) fb9 fc9 rfl
theorem fb11 : ∀ u, u < 715 → (fun u => Tryz.prog.typeName? 3 u == some "*errors.errorString") u = false := below_step (p := (fun u => Tryz.prog.typeName? 3 u == some "*errors.errorString")) fb10 fc10 rfl
theorem fb12 : ∀ u, u < 780 → (fun u => Tryz.prog.typeName? 3 u == some "*errors.errorString") u = false := below_step (p := (fun u => Tryz.prog.typeName? 3 u == some "*errors.errorString")) fb11 fc11 rfl
theorem fb13 : ∀ u, u < 845 → (fun u => Tryz.prog.typeName? 3 u == some "*errors.errorString") u = false := below_step (p := (fun u => Tryz.prog.typeName? 3 u == some "*errors.errorString")) fb12 fc12 rfl
theorem ffound : (List.range Tryz.prog.types.size).find? (fun u => Tryz.prog.typeName? 3 u == some "*errors.errorString") = some 845 := find_at (p := (fun u => Tryz.prog.typeName? 3 u == some "*errors.errorString")) (by kernel_rfl) (of_decide_eq_true (by kernel_rfl)) fb13
noncomputable def ly0 : List Value × List Obj := ((Rows.laid_math_bits_deBruijn32tab : DataW Unit).lay Tryz.prog 656 13).getD ([], [])
theorem lq0 : (Rows.laid_math_bits_deBruijn32tab : DataW Unit).lay Tryz.prog 656 13 = some ly0 := by kernel_rfl
noncomputable def ly1 : List Value × List Obj := ((Rows.laid_math_bits_deBruijn64tab : DataW Unit).lay Tryz.prog 657 13).getD ([], [])
theorem lq1 : (Rows.laid_math_bits_deBruijn64tab : DataW Unit).lay Tryz.prog 657 13 = some ly1 := by kernel_rfl
noncomputable def ly2 : List Value × List Obj := ((Rows.laid_internal_strconv_uint64pow10 : DataW Unit).lay Tryz.prog 221 13).getD ([], [])
theorem lq2 : (Rows.laid_internal_strconv_uint64pow10 : DataW Unit).lay Tryz.prog 221 13 = some ly2 := by kernel_rfl
noncomputable def ly3 : List Value × List Obj := ((Rows.laid_unicode_utf8_acceptRanges : DataW Unit).lay Tryz.prog 1021 13).getD ([], [])
theorem lq3 : (Rows.laid_unicode_utf8_acceptRanges : DataW Unit).lay Tryz.prog 1021 13 = some ly3 := by kernel_rfl
noncomputable def ly4 : List Value × List Obj := ([.iface 845 (.pointer (some ⟨13, 0, none⟩))], (((match (Rows.laid_strconv_ErrRange : DataW Unit) with | .iface _ d => d | d => d).lay Tryz.prog 845 13).getD ([], [])).2)
theorem lq4 : (Rows.laid_strconv_ErrRange : DataW Unit).lay Tryz.prog 167 13 = some ly4 := (lay_iface (v := .pointer (some ⟨13, 0, none⟩)) (x := ([.pointer (some ⟨13, 0, none⟩)], ly4.2)) ffound (by kernel_rfl) (by kernel_rfl) (by kernel_rfl)).trans (by kernel_rfl)
noncomputable def ly5 : List Value × List Obj := ([.iface 845 (.pointer (some ⟨14, 0, none⟩))], (((match (Rows.laid_strconv_ErrSyntax : DataW Unit) with | .iface _ d => d | d => d).lay Tryz.prog 845 14).getD ([], [])).2)
theorem lq5 : (Rows.laid_strconv_ErrSyntax : DataW Unit).lay Tryz.prog 167 14 = some ly5 := (lay_iface (v := .pointer (some ⟨14, 0, none⟩)) (x := ([.pointer (some ⟨14, 0, none⟩)], ly5.2)) ffound (by kernel_rfl) (by kernel_rfl) (by kernel_rfl)).trans (by kernel_rfl)
noncomputable def ly6 : List Value × List Obj := ((Rows.laid_unicode_utf8_first : DataW Unit).lay Tryz.prog 1018 15).getD ([], [])
theorem lq6 : (Rows.laid_unicode_utf8_first : DataW Unit).lay Tryz.prog 1018 15 = some ly6 := by kernel_rfl
noncomputable def lz7 : List (Nat × List Value) × List Obj := ([], [])
theorem lw7 : Lay.layList Tryz.prog 15 [] = some lz7 := rfl
noncomputable def lz6 : List (Nat × List Value) × List Obj := ((6, ly6.1) :: lz7.1, ly6.2 ++ lz7.2)
theorem lw6 : Lay.layList Tryz.prog 15 [("unicode/utf8.first", Rows.laid_unicode_utf8_first)] = some lz6 := layList_cons (by kernel_rfl) (by kernel_rfl) lq6 (by kernel_rfl) lw7
noncomputable def lz5 : List (Nat × List Value) × List Obj := ((4, ly5.1) :: lz6.1, ly5.2 ++ lz6.2)
theorem lw5 : Lay.layList Tryz.prog 14 [("strconv.ErrSyntax", Rows.laid_strconv_ErrSyntax), ("unicode/utf8.first", Rows.laid_unicode_utf8_first)] = some lz5 := layList_cons (by kernel_rfl) (by kernel_rfl) lq5 (by kernel_rfl) lw6
noncomputable def lz4 : List (Nat × List Value) × List Obj := ((5, ly4.1) :: lz5.1, ly4.2 ++ lz5.2)
theorem lw4 : Lay.layList Tryz.prog 13 [("strconv.ErrRange", Rows.laid_strconv_ErrRange), ("strconv.ErrSyntax", Rows.laid_strconv_ErrSyntax), ("unicode/utf8.first", Rows.laid_unicode_utf8_first)] = some lz4 := layList_cons (by kernel_rfl) (by kernel_rfl) lq4 (by kernel_rfl) lw5
noncomputable def lz3 : List (Nat × List Value) × List Obj := ((7, ly3.1) :: lz4.1, ly3.2 ++ lz4.2)
theorem lw3 : Lay.layList Tryz.prog 13 [("unicode/utf8.acceptRanges", Rows.laid_unicode_utf8_acceptRanges), ("strconv.ErrRange", Rows.laid_strconv_ErrRange), ("strconv.ErrSyntax", Rows.laid_strconv_ErrSyntax), ("unicode/utf8.first", Rows.laid_unicode_utf8_first)] = some lz3 := layList_cons (by kernel_rfl) (by kernel_rfl) lq3 (by kernel_rfl) lw4
noncomputable def lz2 : List (Nat × List Value) × List Obj := ((0, ly2.1) :: lz3.1, ly2.2 ++ lz3.2)
theorem lw2 : Lay.layList Tryz.prog 13 [("internal/strconv.uint64pow10", Rows.laid_internal_strconv_uint64pow10), ("unicode/utf8.acceptRanges", Rows.laid_unicode_utf8_acceptRanges), ("strconv.ErrRange", Rows.laid_strconv_ErrRange), ("strconv.ErrSyntax", Rows.laid_strconv_ErrSyntax), ("unicode/utf8.first", Rows.laid_unicode_utf8_first)] = some lz2 := layList_cons (by kernel_rfl) (by kernel_rfl) lq2 (by kernel_rfl) lw3
noncomputable def lz1 : List (Nat × List Value) × List Obj := ((3, ly1.1) :: lz2.1, ly1.2 ++ lz2.2)
theorem lw1 : Lay.layList Tryz.prog 13 [("math/bits.deBruijn64tab", Rows.laid_math_bits_deBruijn64tab), ("internal/strconv.uint64pow10", Rows.laid_internal_strconv_uint64pow10), ("unicode/utf8.acceptRanges", Rows.laid_unicode_utf8_acceptRanges), ("strconv.ErrRange", Rows.laid_strconv_ErrRange), ("strconv.ErrSyntax", Rows.laid_strconv_ErrSyntax), ("unicode/utf8.first", Rows.laid_unicode_utf8_first)] = some lz1 := layList_cons (by kernel_rfl) (by kernel_rfl) lq1 (by kernel_rfl) lw2
noncomputable def lz0 : List (Nat × List Value) × List Obj := ((2, ly0.1) :: lz1.1, ly0.2 ++ lz1.2)
theorem lw0 : Lay.layList Tryz.prog 13 [("math/bits.deBruijn32tab", Rows.laid_math_bits_deBruijn32tab), ("math/bits.deBruijn64tab", Rows.laid_math_bits_deBruijn64tab), ("internal/strconv.uint64pow10", Rows.laid_internal_strconv_uint64pow10), ("unicode/utf8.acceptRanges", Rows.laid_unicode_utf8_acceptRanges), ("strconv.ErrRange", Rows.laid_strconv_ErrRange), ("strconv.ErrSyntax", Rows.laid_strconv_ErrSyntax), ("unicode/utf8.first", Rows.laid_unicode_utf8_first)] = some lz0 := layList_cons (by kernel_rfl) (by kernel_rfl) lq0 (by kernel_rfl) lw1
theorem hsz(os : Os) : (World.holding Tryz.prog os ⟨#[], #[], []⟩).heap.size = 13 := by kernel_rfl
theorem lwR : Lay.layList Tryz.prog 13 Rows.freshValuesRow.laid = some lz0 := by
  rw [show Rows.freshValuesRow.laid = [("math/bits.deBruijn32tab", Rows.laid_math_bits_deBruijn32tab), ("math/bits.deBruijn64tab", Rows.laid_math_bits_deBruijn64tab), ("internal/strconv.uint64pow10", Rows.laid_internal_strconv_uint64pow10), ("unicode/utf8.acceptRanges", Rows.laid_unicode_utf8_acceptRanges), ("strconv.ErrRange", Rows.laid_strconv_ErrRange), ("strconv.ErrSyntax", Rows.laid_strconv_ErrSyntax), ("unicode/utf8.first", Rows.laid_unicode_utf8_first)] from rfl]
  exact lw0
theorem wLay(os : Os) : World.laidAll Tryz.prog os Rows.freshValuesRow.laid = { World.holding Tryz.prog os ⟨#[], #[], []⟩ with heap := ⟨Lay.setRows (World.holding Tryz.prog os ⟨#[], #[], []⟩).heap.toList lz0.1 ++ lz0.2⟩ } := by
  unfold World.laidAll
  exact layVars_some (hsz os) lwR
theorem wZip(os : Os) : ((World.laidAll Tryz.prog os Rows.freshValuesRow.laid).forCall (fun _ _ => 0) ⟨#[], #[.agg #[.int .i64 0, .slice none 0 0, .slice none 0 0], .slice none 0 0, .slice none 0 0, .agg #[.int .i64 0, .string ⟨#[]⟩], .int .i64 0, .int .i64 0], []⟩).variablesZipB Tryz.prog = true := by
  rw [wLay os]
  kernel_rfl
theorem wBeg(os : Os) : ((((World.laidAll Tryz.prog os Rows.freshValuesRow.laid).forCall (fun _ _ => 0) ⟨#[], #[.agg #[.int .i64 0, .slice none 0 0, .slice none 0 0], .slice none 0 0, .slice none 0 0, .agg #[.int .i64 0, .string ⟨#[]⟩], .int .i64 0, .int .i64 0], []⟩).heap.toList.drop Tryz.prog.globals.size).take ((begin Tryz.prog (fun _ _ => 0) default).world.heap.size - Tryz.prog.globals.size) = (begin Tryz.prog (fun _ _ => 0) default).world.heap.toList.drop Tryz.prog.globals.size) := by
  rw [wLay os]
  kernel_rfl
theorem wShaped(os : Os) : ((World.laidAll Tryz.prog os Rows.freshValuesRow.laid).forCall (fun _ _ => 0) ⟨#[], #[.agg #[.int .i64 0, .slice none 0 0, .slice none 0 0], .slice none 0 0, .slice none 0 0, .agg #[.int .i64 0, .string ⟨#[]⟩], .int .i64 0, .int .i64 0], []⟩).Shaped Tryz.prog := World.shaped_of_ZipB (wZip os) (wBeg os)
theorem wOk(os : Os) : Input.okWideB Tryz.prog ((World.laidAll Tryz.prog os Rows.freshValuesRow.laid).forCall (fun _ _ => 0) ⟨#[], #[.agg #[.int .i64 0, .slice none 0 0, .slice none 0 0], .slice none 0 0, .slice none 0 0, .agg #[.int .i64 0, .string ⟨#[]⟩], .int .i64 0, .int .i64 0], []⟩) 3 ⟨#[], #[.agg #[.int .i64 0, .slice none 0 0, .slice none 0 0], .slice none 0 0, .slice none 0 0, .agg #[.int .i64 0, .string ⟨#[]⟩], .int .i64 0, .int .i64 0], []⟩ = true := by kernel_rfl
theorem wPre(os : Os) {H : Type}(enc : TypeId × Value → H) : Rows.freshValuesSpec.preB enc Tryz.prog Tryz.f3 [] false ((World.laidAll Tryz.prog os Rows.freshValuesRow.laid).forCall (fun _ _ => 0) ⟨#[], #[.agg #[.int .i64 0, .slice none 0 0, .slice none 0 0], .slice none 0 0, .slice none 0 0, .agg #[.int .i64 0, .string ⟨#[]⟩], .int .i64 0, .int .i64 0], []⟩).memory #[.agg #[.int .i64 0, .slice none 0 0, .slice none 0 0], .slice none 0 0, .slice none 0 0, .agg #[.int .i64 0, .string ⟨#[]⟩], .int .i64 0, .int .i64 0] 8 = true := by kernel_rfl
theorem wSz(os : Os) {H : Type}(enc : TypeId × Value → H) : Rows.freshValuesSpec.sizedB enc Tryz.prog Tryz.f3 false ((World.laidAll Tryz.prog os Rows.freshValuesRow.laid).forCall (fun _ _ => 0) ⟨#[], #[.agg #[.int .i64 0, .slice none 0 0, .slice none 0 0], .slice none 0 0, .slice none 0 0, .agg #[.int .i64 0, .string ⟨#[]⟩], .int .i64 0, .int .i64 0], []⟩).memory #[.agg #[.int .i64 0, .slice none 0 0, .slice none 0 0], .slice none 0 0, .slice none 0 0, .agg #[.int .i64 0, .string ⟨#[]⟩], .int .i64 0, .int .i64 0] 8 = true := by kernel_rfl
theorem wFits(os : Os) : (World.holding Tryz.prog os ⟨#[], #[], []⟩).layFits Tryz.prog Rows.freshValuesRow.laid [] = true := layFits_some (hsz os) lwR (by kernel_rfl)
theorem wIfs(os : Os) : (World.holding Tryz.prog os ⟨#[], #[], []⟩).layIfaces Tryz.prog Rows.freshValuesRow.laid (World.laidAll Tryz.prog os Rows.freshValuesRow.laid) = true := by
  rw [wLay os]
  exact layIfaces_some (hsz os) lwR (by kernel_rfl)
theorem wLaid(os : Os) : laidMetH Tryz.prog Rows.freshValuesRow.laid ((World.laidAll Tryz.prog os Rows.freshValuesRow.laid).forCall (fun _ _ => 0) ⟨#[], #[.agg #[.int .i64 0, .slice none 0 0, .slice none 0 0], .slice none 0 0, .slice none 0 0, .agg #[.int .i64 0, .string ⟨#[]⟩], .int .i64 0, .int .i64 0], []⟩).memory := by
  rw [MakeChecks.laidMetH_plain _ _ _ plain]
  exact laidMet_laidAll _ (wFits os) (wIfs os)
theorem rd3 : Tryz.prog.readableRec 3 = true := (Rc.jr _ _).trans (by kernel_rfl)
theorem lt3 : 3 < Tryz.prog.types.size := of_decide_eq_true (by kernel_rfl)
theorem rd25 : Tryz.prog.readableRec 25 = true := (Rc.jr _ _).trans (by kernel_rfl)
theorem lt25 : 25 < Tryz.prog.types.size := of_decide_eq_true (by kernel_rfl)
theorem rd26 : Tryz.prog.readableRec 26 = true := (Rc.jr _ _).trans (by kernel_rfl)
theorem lt26 : 26 < Tryz.prog.types.size := of_decide_eq_true (by kernel_rfl)
theorem rd27 : Tryz.prog.readableRec 27 = true := (Rc.jr _ _).trans (by kernel_rfl)
theorem lt27 : 27 < Tryz.prog.types.size := of_decide_eq_true (by kernel_rfl)
theorem rd29 : Tryz.prog.readableRec 29 = true := (Rc.jr _ _).trans (by kernel_rfl)
theorem lt29 : 29 < Tryz.prog.types.size := of_decide_eq_true (by kernel_rfl)
theorem lifted(os : Os) (started : os.Started) (H : Type) (enc : TypeId × Value → H) :
    ReturnsInHanded {} Tryz.checked os 3 .any (fun w args => (Rows.freshValuesSpec.pre enc Tryz.prog Tryz.f3 [] false w args ∧ laidMetH Tryz.prog Rows.freshValuesRow.laid w) ∧ sizedMet enc Tryz.prog Tryz.f3 (OpenSpec.ofChange Rows.freshValuesSpec) false w args)
      (Rows.freshValuesSpec.post enc Tryz.prog Tryz.f3 false true false false) := by
  refine returnsInHanded_of_change_and (C := Tryz.checked) (X := fun w _ => laidMetH Tryz.prog Rows.freshValuesRow.laid w) (fun _ _ _ F h => h.of_heap F) own started noInit Tryz.func3
    (ChangeSpec.witness_shaped (enc := enc) (C := Tryz.checked) (os := os) (X := fun w _ => laidMetH Tryz.prog Rows.freshValuesRow.laid w) false (World.laidAll Tryz.prog os Rows.freshValuesRow.laid) #[.agg #[.int .i64 0, .slice none 0 0, .slice none 0 0], .slice none 0 0, .slice none 0 0, .agg #[.int .i64 0, .string ⟨#[]⟩], .int .i64 0, .int .i64 0] 8 (World.laidAll_os _ _ _) (wShaped os) (wOk os) (wPre os enc) (wSz os enc) (wLaid os)) ?_
  intro W base args ds gs before u y _ z m _
  have c : ∀ (j : Nat) t v, Tryz.f3.params[j]? = some t → args[j]? = some v → Value.okWide Tryz.prog W .any base t v := u
  have g : (DataW.weightsEach Tryz.prog (Tryz.f3.params.toList ++ Rows.freshValuesSpec.plain.varTypes Tryz.prog) (ds ++ gs)).all (· ≤ reachBytes) = true := z
  clear z
  have o := y
  obtain⟨p, q, A, G, rfl, _, _⟩ := y
  have s : DataW.TrodAll enc Tryz.prog W 0 (fun _ => true) true Tryz.f3.params.toList args.toList ds p := A
  rw [Tryz.params3] at s c g
  obtain⟨v0, v1, v2, v3, v4, v5, d0, d1, d2, d3, d4, d5, p0, p1, p2, p3, p4, p5, rfl, rfl, rfl, h0, h1, B, D, I, E⟩ := Rc.AG s
  obtain⟨rfl, rfl⟩ := trodVars_none G
  obtain⟨c0, rfl, J⟩ := Rc.uc Tryz.underlying25 (c 0 25 v0 rfl rfl)
  obtain⟨ar, r, cr, rfl⟩ := okWide_slice Tryz.underlying26 (c 1 26 v1 rfl rfl)
  obtain⟨al, nl, cl, rfl⟩ := okWide_slice Tryz.underlying27 (c 2 27 v2 rfl rfl)
  obtain⟨c3, rfl, K⟩ := Rc.uc Tryz.underlying29 (c 3 29 v3 rfl rfl)
  obtain⟨n, rfl⟩ := okWide_int Tryz.underlying3 (c 4 3 v4 rfl rfl)
  obtain⟨what, rfl⟩ := okWide_int Tryz.underlying3 (c 5 3 v5 rfl rfl)
  clear A u s
  simp only [List.append_nil] at o
  have f : ∀ x ∈ p0 ++ (p1 ++ (p2 ++ (p3 ++ (p4 ++ p5)))), x.block < W.heap.size := fun x a => by simpa using o.lt x (by simpa using a)
  have k0 := h0
  have k1 := h1
  have k2 := B
  have k3 := D
  have k4 := I
  have L := E
  obtain⟨M, g0⟩ := h0
  obtain⟨u1, g1⟩ := h1
  obtain⟨N, g2⟩ := B
  obtain⟨O, g3⟩ := D
  obtain⟨Z, g5⟩ := E
  simp only [Value.cells] at g0 g1 g2 g3 g5
  obtain⟨x, a1, n1, e1, a2, n2, e2, P, hi, hr, Q⟩ := Rc.F9 Tryz.underlying3 Tryz.underlying9 Tryz.underlying4 stK stT stI stR Tryz.underlying22 (by kernel_rfl) (by decide +kernel) Tryz.underlying23 (by kernel_rfl) (by decide +kernel) Tryz.underlying32 cK (by decide +kernel) ⟨M, _, _, g0, Rc.C5.each g (j := 0) rfl rfl⟩ (by rw [Array.length_toList, J, cT])
  obtain rfl : c0 = (x.row a1 n1 e1 a2 n2 e2).toArray := by rw [← P]
  obtain⟨R, hu⟩ := Rc.Db Tryz.underlying3 Tryz.underlying4 Tryz.underlying26 (by kernel_rfl) (by decide +kernel) stU Tryz.underlying35 (by kernel_rfl) (by decide +kernel) RN ⟨u1, _, _, g1, Rc.C5.each g (j := 1) rfl rfl⟩
  obtain⟨l, hl⟩ := Rc.open_ints Tryz.underlying3 Tryz.underlying27 (by kernel_rfl) (by decide +kernel) ⟨N, _, _, g2, Rc.C5.each g (j := 2) rfl rfl⟩
  obtain⟨k, S, T⟩ := Rc.yi Tryz.underlying3 Tryz.underlying9 stK ⟨O, _, _, g3, Rc.C5.each g (j := 3) rfl rfl⟩ (by rw [Array.length_toList, K, cK])
  obtain rfl : c3 = k.cells.toArray := by rw [← S]
  obtain⟨z5, U, _, V⟩ := DataW.trod_int Tryz.underlying3 g5
  obtain rfl : what = z5 := by simpa using U
  have hw : -9223372036854775808 ≤ what ∧ what ≤ 9223372036854775807 := by
    simp [Lit.wf, IntKind.min, IntKind.max, IntKind.signed, IntKind.bits] at V
    omega
  rw [MakeChecks.laidMetH_plain _ _ _ plain] at m
  have hT : Rc.gV Tryz.prog (fun b => b < W.heap.size) W := Rc.N9 (Zw ▸ Lib.laidMet.reads m (List.mem_of_getElem? (i := 2) rfl)) Zu Zv Tryz.underlying221 Tryz.underlying153 (by kernel_rfl) (by kernel_rfl)
    ⟨_, _, 4, 167, _, Lib.laidMet.reads m (List.mem_of_getElem? (i := 5) rfl), by kernel_rfl, by kernel_rfl, Tryz.underlying167⟩
    ⟨_, _, 5, 167, _, Lib.laidMet.reads m (List.mem_of_getElem? (i := 4) rfl), by kernel_rfl, by kernel_rfl, Tryz.underlying167⟩
  have Y := o
  refine(ae W x R l k n what a1 a2 ar al n1 e1 n2 e2 r cr nl cl hT hu hi hr hl Q T hw).mono fun e W' ⟨he, d⟩ => ?_
  subst he
  exact⟨_, rfl, _, _, _, [], p0 ++ (p1 ++ (p2 ++ (p3 ++ (p4 ++ p5)))), [], Y, trodAll_mk1 (shut_bool Tryz.underlying4 _),
    Rc.AH (Below.trod laidOut rd25 lt25 k0 d fun x a => f x (by simp [a])) (Below.trod laidOut rd26 lt26 k1 d fun x a => f x (by simp [a])) (Below.trod laidOut rd27 lt27 k2 d fun x a => f x (by simp [a])) (Below.trod laidOut rd29 lt29 k3 d fun x a => f x (by simp [a])) (Below.trod laidOut rd3 lt3 k4 d fun x a => f x (by simp [a])) (Below.trod laidOut rd3 lt3 L d fun x a => f x (by simp [a])),
    rfl, d.frame _, fun h => by cases h⟩

end Go.Proofs.YtcongbofepbmeaaGreatDoor
