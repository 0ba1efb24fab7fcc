/- Walks over the program, part WLib2. Conditions: as each theorem says. -/
import Derived.Test.YtgcmaglhocmnlaaGreatDoorWLib
import Derived.Test.YtgcmaglhocmnlaaGreatDoorBe
import Derived.Test.YtgcmaglhocmnlaaGreatDoorShelf
set_option linter.unusedVariables false
set_option linter.unusedSimpArgs false
set_option linter.unusedSectionVars false
namespace Go.Rc
open Go Go.Proofs
theorem gSyn:Tryz.prog.globalNamed "strconv.ErrSyntax" = some 4:=by kernel_rfl
theorem gRan:Tryz.prog.globalNamed "strconv.ErrRange" = some 5:=by kernel_rfl
theorem atoi_any {A:Nat→Prop} {s:ByteArray} {w:World} (ht:Tab Tryz.prog A w) (hs:s.size≤1000):Calls Tryz.prog 144 #[.string s] w fun e w'=>∃(v:Int) (ok:Bool) (ev:Value),e=.returned (.tuple #[.int .i64 v,ev])∧(-9223372036854775808≤v∧v≤9223372036854775807)∧((ok=true∧ev=.nilIface)∨(ok=false∧∃t y,ev=.iface t y))∧Chg [] w w':=by
 cases h:Lib.atoiAll s.data.toList
 ·
  rename_i v
  refine (Tryz.strconv_Atoi_ok s (by omega) v h w).mono fun e w' ⟨he,hw⟩=>⟨v,true,.nilIface,he,Lib.atoiAll_bounds h,.inl ⟨rfl,rfl⟩,?_⟩
  rcases hw with rfl | ⟨t,rfl⟩
  ·
   exact Chg.refl _ _
  exact Below.chg0 (Lib.bytesWorld_below _ _ _)
 ·
  obtain ⟨ev,hv,hev⟩:=ht.err (.inl rfl) gSyn
  exact (Any.strconv_Atoi_syntax Tryz.laysC172 s (by omega) h ev w hv hev).mono fun e w' ⟨N,he,_,_,hb⟩=>⟨0,false,_,he,by decide,.inr ⟨rfl,_,_,rfl⟩,Below.chg0 hb⟩
 obtain ⟨ev,hv,hev⟩:=ht.err (.inr rfl) gRan
 exact (Any.strconv_Atoi_range Tryz.laysC172 s (by omega) h ev w hv hev).mono fun e w' ⟨N,he,_,_,hb⟩=>⟨Lib.atoiSat s.data.toList,false,_,he,Lib.atoiSat_bounds _,.inr ⟨rfl,_,_,rfl⟩,Below.chg0 hb⟩
end Go.Rc

