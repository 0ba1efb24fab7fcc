/- Walks over the program, part Facts. Conditions: as each theorem says. -/
import Derived.Test.YtlineioeefgnhaaGreatDoorProg
import Derived.Test.YtlineioeefgnhaaGreatDoorBa
set_option linter.unusedVariables false
set_option linter.unusedSimpArgs false
set_option linter.unusedSectionVars false
namespace Go.Rc
open Go Go.Proofs
theorem mixed : Tryz.prog.follows .mixedOrders = true := by kernel_rfl
theorem keyt27 : KeyT Tryz.prog 27 := KeyT_of Tryz.underlying27 rfl rfl rfl rfl (by decide) (by decide) Tryz.underlying3 Tryz.underlying9 Tryz.isAgg3 Tryz.isAgg9 (by kernel_rfl) (by kernel_rfl)
theorem agg27 : Agg Tryz.prog 27 2 := ⟨⟨_, Tryz.underlying27⟩, by kernel_rfl⟩
theorem agg35 : Agg Tryz.prog 35 4 := ⟨⟨_, Tryz.underlying35⟩, by kernel_rfl⟩
theorem agg40 : Agg Tryz.prog 40 3 := ⟨⟨_, Tryz.underlying40⟩, by kernel_rfl⟩
theorem agg47 : Agg Tryz.prog 47 8 := ⟨⟨_, Tryz.underlying47⟩, by kernel_rfl⟩
theorem agg68 : Agg Tryz.prog 68 5 := ⟨⟨_, Tryz.underlying68⟩, by kernel_rfl⟩
theorem agg76 : Agg Tryz.prog 76 3 := ⟨⟨_, Tryz.underlying76⟩, by kernel_rfl⟩
theorem agg108 : Agg Tryz.prog 108 4 := ⟨⟨_, Tryz.underlying108⟩, by kernel_rfl⟩
theorem agg114 : Agg Tryz.prog 114 4 := ⟨⟨_, Tryz.underlying114⟩, by kernel_rfl⟩
theorem agg117 : Agg Tryz.prog 117 4 := ⟨⟨_, Tryz.underlying117⟩, by kernel_rfl⟩
theorem agg127 : Agg Tryz.prog 127 4 := ⟨⟨_, Tryz.underlying127⟩, by kernel_rfl⟩
theorem ap22 : AP Tryz.prog 22 25 1 24 := AP_of (z := .slice none 0 0) Tryz.underlying22 (by kernel_rfl) (by kernel_rfl) (by decide)
theorem ap25 : AP Tryz.prog 25 27 2 24 := AP_of (z := .agg #[.int .i64 0, .string ⟨#[]⟩]) Tryz.underlying25 (by kernel_rfl) (by kernel_rfl) (by decide)
theorem ap37 : AP Tryz.prog 37 117 4 48 := AP_of (z := .agg #[.int .i64 0, .string ⟨#[]⟩, .string ⟨#[]⟩, .int .i64 0]) Tryz.underlying37 (by kernel_rfl) (by kernel_rfl) (by decide)
theorem ap38 : AP Tryz.prog 38 47 8 96 := AP_of (z := .agg #[.int .i64 0, .string ⟨#[]⟩, .string ⟨#[]⟩, .slice none 0 0, .int .i64 0, .int .i64 0, .int .i64 0, .bool false]) Tryz.underlying38 (by kernel_rfl) (by kernel_rfl) (by decide)
theorem ap48 : AP Tryz.prog 48 3 1 8 := AP_of (z := .int .i64 0) Tryz.underlying48 (by kernel_rfl) (by kernel_rfl) (by decide)
theorem ap105 : AP Tryz.prog 105 108 4 48 := AP_of (z := .agg #[.int .i64 0, .string ⟨#[]⟩, .int .i64 0, .string ⟨#[]⟩]) Tryz.underlying105 (by kernel_rfl) (by kernel_rfl) (by decide)
theorem ap125 : AP Tryz.prog 125 9 1 16 := AP_of (z := .string ⟨#[]⟩) Tryz.underlying125 (by kernel_rfl) (by kernel_rfl) (by decide)
theorem bs22_1 : BS Tryz.prog 22 25 1 1 [.slice none 0 0] := ⟨Tryz.underlying22, Tryz.sizeOf25, by decide, by decide, _, Tryz.zeroValue25, by kernel_rfl⟩
theorem bs25_1 : BS Tryz.prog 25 27 2 1 [.int .i64 0, .string ⟨#[]⟩] := ⟨Tryz.underlying25, Tryz.sizeOf27, by decide, by decide, _, Tryz.zeroValue27, by kernel_rfl⟩
theorem bs36_1 : BS Tryz.prog 36 35 4 1 [.bool false, .slice none 0 0, .int .i64 0, .int .i64 0] := ⟨Tryz.underlying36, Tryz.sizeOf35, by decide, by decide, _, Tryz.zeroValue35, by kernel_rfl⟩
theorem bs38_1 : BS Tryz.prog 38 47 8 1 [.int .i64 0, .string ⟨#[]⟩, .string ⟨#[]⟩, .slice none 0 0, .int .i64 0, .int .i64 0, .int .i64 0, .bool false] := ⟨Tryz.underlying38, Tryz.sizeOf47, by decide, by decide, _, Tryz.zeroValue47, by kernel_rfl⟩
theorem bs48_1 : BS Tryz.prog 48 3 1 1 [.int .i64 0] := ⟨Tryz.underlying48, Tryz.sizeOf3, by decide, by decide, _, Tryz.zeroValue3, by kernel_rfl⟩
theorem bs105_1 : BS Tryz.prog 105 108 4 1 [.int .i64 0, .string ⟨#[]⟩, .int .i64 0, .string ⟨#[]⟩] := ⟨Tryz.underlying105, Tryz.sizeOf108, by decide, by decide, _, Tryz.zeroValue108, by kernel_rfl⟩
theorem bs125_1 : BS Tryz.prog 125 9 1 1 [.string ⟨#[]⟩] := ⟨Tryz.underlying125, Tryz.sizeOf9, by decide, by decide, _, Tryz.zeroValue9, by kernel_rfl⟩
theorem bs22_2 : BS Tryz.prog 22 25 1 2 [.slice none 0 0, .slice none 0 0] := ⟨Tryz.underlying22, Tryz.sizeOf25, by decide, by decide, _, Tryz.zeroValue25, by kernel_rfl⟩
theorem bs29_2 : BS Tryz.prog 29 22 1 2 [.slice none 0 0, .slice none 0 0] := ⟨Tryz.underlying29, Tryz.sizeOf22, by decide, by decide, _, Tryz.zeroValue22, by kernel_rfl⟩
theorem bt27 : BT Tryz.prog 27 [.int .i64 0, .string ⟨#[]⟩] [(0, 1), (1, 1)] := BT_of (fs := [_, _]) Tryz.zeroValue27 rfl Tryz.underlying27 ⟨rfl, Tryz.sizeOf3, rfl, Tryz.sizeOf9, trivial⟩
theorem bt35 : BT Tryz.prog 35 [.bool false, .slice none 0 0, .int .i64 0, .int .i64 0] [(0, 1), (1, 1), (2, 1), (3, 1)] := BT_of (fs := [_, _, _, _]) Tryz.zeroValue35 rfl Tryz.underlying35 ⟨rfl, Tryz.sizeOf4, rfl, Tryz.sizeOf33, rfl, Tryz.sizeOf3, rfl, Tryz.sizeOf3, trivial⟩
theorem bt40 : BT Tryz.prog 40 [.int .i64 0, .slice none 0 0, .slice none 0 0] [(0, 1), (1, 1), (2, 1)] := BT_of (fs := [_, _, _]) Tryz.zeroValue40 rfl Tryz.underlying40 ⟨rfl, Tryz.sizeOf3, rfl, Tryz.sizeOf37, rfl, Tryz.sizeOf38, trivial⟩
theorem bt47 : BT Tryz.prog 47 [.int .i64 0, .string ⟨#[]⟩, .string ⟨#[]⟩, .slice none 0 0, .int .i64 0, .int .i64 0, .int .i64 0, .bool false] [(0, 2), (2, 1), (3, 1), (4, 1), (5, 1), (6, 1), (7, 1)] := BT_of (fs := [_, _, _, _, _, _, _]) Tryz.zeroValue47 rfl Tryz.underlying47 ⟨rfl, Tryz.sizeOf27, rfl, Tryz.sizeOf9, rfl, Tryz.sizeOf25, rfl, Tryz.sizeOf3, rfl, Tryz.sizeOf3, rfl, Tryz.sizeOf3, rfl, Tryz.sizeOf4, trivial⟩
theorem bt59 : BT Tryz.prog 59 [.pointer none, .int .i64 0, .slice none 0 0, .slice none 0 0, .map none, .slice none 0 0, .int .i64 0] [(0, 1), (1, 3), (4, 1), (5, 1), (6, 1)] := BT_of (fs := [_, _, _, _, _]) Tryz.zeroValue59 rfl Tryz.underlying59 ⟨rfl, Tryz.sizeOf56, rfl, Tryz.sizeOf40, rfl, Tryz.sizeOf30, rfl, Tryz.sizeOf25, rfl, Tryz.sizeOf41, trivial⟩
theorem bt68 : BT Tryz.prog 68 [.int .i64 0, .slice none 0 0, .slice none 0 0, .pointer none, .pointer none] [(0, 3), (3, 1), (4, 1)] := BT_of (fs := [_, _, _]) Tryz.zeroValue68 rfl Tryz.underlying68 ⟨rfl, Tryz.sizeOf40, rfl, Tryz.sizeOf63, rfl, Tryz.sizeOf65, trivial⟩
theorem bt76 : BT Tryz.prog 76 [.int .i64 0, .int .i64 0, .string ⟨#[]⟩] [(0, 1), (1, 2)] := BT_of (fs := [_, _]) Tryz.zeroValue76 rfl Tryz.underlying76 ⟨rfl, Tryz.sizeOf3, rfl, Tryz.sizeOf27, trivial⟩
theorem bt87 : BT Tryz.prog 87 [.slice none 0 0, .int .i64 0, .slice none 0 0, .slice none 0 0, .map none, .map none] [(0, 1), (1, 3), (4, 1), (5, 1)] := BT_of (fs := [_, _, _, _]) Tryz.zeroValue87 rfl Tryz.underlying87 ⟨rfl, Tryz.sizeOf36, rfl, Tryz.sizeOf40, rfl, Tryz.sizeOf84, rfl, Tryz.sizeOf85, trivial⟩
theorem bt95 : BT Tryz.prog 95 [.slice none 0 0, .int .i64 0, .slice none 0 0, .slice none 0 0, .map none, .map none] [(0, 1), (1, 3), (4, 1), (5, 1)] := BT_of (fs := [_, _, _, _]) Tryz.zeroValue95 rfl Tryz.underlying95 ⟨rfl, Tryz.sizeOf36, rfl, Tryz.sizeOf40, rfl, Tryz.sizeOf84, rfl, Tryz.sizeOf30, trivial⟩
theorem bt98 : BT Tryz.prog 98 [.slice none 0 0, .int .i64 0, .slice none 0 0, .slice none 0 0, .map none, .pointer none, .slice none 0 0] [(0, 1), (1, 3), (4, 1), (5, 1), (6, 1)] := BT_of (fs := [_, _, _, _, _]) Tryz.zeroValue98 rfl Tryz.underlying98 ⟨rfl, Tryz.sizeOf36, rfl, Tryz.sizeOf40, rfl, Tryz.sizeOf96, rfl, Tryz.sizeOf63, rfl, Tryz.sizeOf25, trivial⟩
theorem bt108 : BT Tryz.prog 108 [.int .i64 0, .string ⟨#[]⟩, .int .i64 0, .string ⟨#[]⟩] [(0, 2), (2, 2)] := BT_of (fs := [_, _]) Tryz.zeroValue108 rfl Tryz.underlying108 ⟨rfl, Tryz.sizeOf27, rfl, Tryz.sizeOf27, trivial⟩
theorem bt117 : BT Tryz.prog 117 [.int .i64 0, .string ⟨#[]⟩, .string ⟨#[]⟩, .int .i64 0] [(0, 2), (2, 1), (3, 1)] := BT_of (fs := [_, _, _]) Tryz.zeroValue117 rfl Tryz.underlying117 ⟨rfl, Tryz.sizeOf27, rfl, Tryz.sizeOf9, rfl, Tryz.sizeOf3, trivial⟩
theorem bt127 : BT Tryz.prog 127 [.bool false, .string ⟨#[]⟩, .int .i64 0, .string ⟨#[]⟩] [(0, 1), (1, 1), (2, 2)] := BT_of (fs := [_, _, _]) Tryz.zeroValue127 rfl Tryz.underlying127 ⟨rfl, Tryz.sizeOf4, rfl, Tryz.sizeOf9, rfl, Tryz.sizeOf27, trivial⟩
theorem kk27 : KK Tryz.prog 27 Key.val := KK_key Tryz.underlying27 keyt27 (check_key Tryz.underlying27 rfl rfl rfl rfl Tryz.underlying3 Tryz.underlying9 Tryz.isAgg3 Tryz.isAgg9)
theorem nif162 : ∃ ms, Tryz.prog.underlying 162 = some (.interface ms) := ⟨_, Tryz.underlying162⟩
theorem one3 : One Tryz.prog 3 := Tryz.isAgg3
theorem one4 : One Tryz.prog 4 := Tryz.isAgg4
theorem one5 : One Tryz.prog 5 := Tryz.isAgg5
theorem one9 : One Tryz.prog 9 := Tryz.isAgg9
theorem one22 : One Tryz.prog 22 := Tryz.isAgg22
theorem one25 : One Tryz.prog 25 := Tryz.isAgg25
theorem one30 : One Tryz.prog 30 := Tryz.isAgg30
theorem one33 : One Tryz.prog 33 := Tryz.isAgg33
theorem one36 : One Tryz.prog 36 := Tryz.isAgg36
theorem one37 : One Tryz.prog 37 := Tryz.isAgg37
theorem one38 : One Tryz.prog 38 := Tryz.isAgg38
theorem one41 : One Tryz.prog 41 := Tryz.isAgg41
theorem one56 : One Tryz.prog 56 := Tryz.isAgg56
theorem one63 : One Tryz.prog 63 := Tryz.isAgg63
theorem one65 : One Tryz.prog 65 := Tryz.isAgg65
theorem one69 : One Tryz.prog 69 := Tryz.isAgg69
theorem one84 : One Tryz.prog 84 := Tryz.isAgg84
theorem one96 : One Tryz.prog 96 := Tryz.isAgg96
theorem sl22 : SlT Tryz.prog 22 25 1 := ⟨Tryz.underlying22, Tryz.sizeOf25⟩
theorem sl23 : SlT Tryz.prog 23 5 1 := ⟨Tryz.underlying23, Tryz.sizeOf5⟩
theorem sl25 : SlT Tryz.prog 25 27 2 := ⟨Tryz.underlying25, Tryz.sizeOf27⟩
theorem sl29 : SlT Tryz.prog 29 22 1 := ⟨Tryz.underlying29, Tryz.sizeOf22⟩
theorem sl33 : SlT Tryz.prog 33 114 4 := ⟨Tryz.underlying33, Tryz.sizeOf114⟩
theorem sl36 : SlT Tryz.prog 36 35 4 := ⟨Tryz.underlying36, Tryz.sizeOf35⟩
theorem sl37 : SlT Tryz.prog 37 117 4 := ⟨Tryz.underlying37, Tryz.sizeOf117⟩
theorem sl38 : SlT Tryz.prog 38 47 8 := ⟨Tryz.underlying38, Tryz.sizeOf47⟩
theorem sl48 : SlT Tryz.prog 48 3 1 := ⟨Tryz.underlying48, Tryz.sizeOf3⟩
theorem sl105 : SlT Tryz.prog 105 108 4 := ⟨Tryz.underlying105, Tryz.sizeOf108⟩
theorem sl125 : SlT Tryz.prog 125 9 1 := ⟨Tryz.underlying125, Tryz.sizeOf9⟩
theorem so27 : ∀ w, (sizeOf 27).run Tryz.prog w = .ok 2 w := Tryz.sizeOf27
theorem so47 : ∀ w, (sizeOf 47).run Tryz.prog w = .ok 8 w := Tryz.sizeOf47
theorem so69 : ∀ w, (sizeOf 69).run Tryz.prog w = .ok 1 w := Tryz.sizeOf69
theorem so117 : ∀ w, (sizeOf 117).run Tryz.prog w = .ok 4 w := Tryz.sizeOf117
theorem sz3 : (Tryz.prog.info? 3).map (·.size) = some 1 := by kernel_rfl
theorem sz4 : (Tryz.prog.info? 4).map (·.size) = some 1 := by kernel_rfl
theorem sz9 : (Tryz.prog.info? 9).map (·.size) = some 1 := by kernel_rfl
theorem sz25 : (Tryz.prog.info? 25).map (·.size) = some 1 := by kernel_rfl
theorem sz27 : (Tryz.prog.info? 27).map (·.size) = some 2 := by kernel_rfl
theorem sz35 : (Tryz.prog.info? 35).map (·.size) = some 4 := by kernel_rfl
theorem sz37 : (Tryz.prog.info? 37).map (·.size) = some 1 := by kernel_rfl
theorem sz38 : (Tryz.prog.info? 38).map (·.size) = some 1 := by kernel_rfl
theorem sz40 : (Tryz.prog.info? 40).map (·.size) = some 3 := by kernel_rfl
theorem sz41 : (Tryz.prog.info? 41).map (·.size) = some 1 := by kernel_rfl
theorem sz47 : (Tryz.prog.info? 47).map (·.size) = some 8 := by kernel_rfl
theorem sz68 : (Tryz.prog.info? 68).map (·.size) = some 5 := by kernel_rfl
theorem sz76 : (Tryz.prog.info? 76).map (·.size) = some 3 := by kernel_rfl
theorem sz108 : (Tryz.prog.info? 108).map (·.size) = some 4 := by kernel_rfl
theorem sz114 : (Tryz.prog.info? 114).map (·.size) = some 4 := by kernel_rfl
theorem sz117 : (Tryz.prog.info? 117).map (·.size) = some 4 := by kernel_rfl
theorem sz127 : (Tryz.prog.info? 127).map (·.size) = some 4 := by kernel_rfl
theorem und3 : Tryz.prog.underlying 3 = some (.int .i64) := Tryz.underlying3
theorem und4 : Tryz.prog.underlying 4 = some (.bool) := Tryz.underlying4
theorem und5 : Tryz.prog.underlying 5 = some (.int .u8) := Tryz.underlying5
theorem und9 : Tryz.prog.underlying 9 = some (.string) := Tryz.underlying9
theorem und25 : Tryz.prog.underlying 25 = some (.slice 27) := Tryz.underlying25
theorem und30 : Tryz.prog.underlying 30 = some (.map 27 4) := Tryz.underlying30
theorem und37 : Tryz.prog.underlying 37 = some (.slice 117) := Tryz.underlying37
theorem und38 : Tryz.prog.underlying 38 = some (.slice 47) := Tryz.underlying38
theorem und70 : Tryz.prog.underlying 70 = some (.array 5 69) := Tryz.underlying70
theorem und84 : Tryz.prog.underlying 84 = some (.map 27 9) := Tryz.underlying84
theorem und96 : Tryz.prog.underlying 96 = some (.map 27 99) := Tryz.underlying96
theorem und99 : Tryz.prog.underlying 99 = some (.pointer 47) := Tryz.underlying99
theorem zv27 : ZV Tryz.prog 27 [.int .i64 0, .string ⟨#[]⟩] := ⟨_, Tryz.zeroValue27, rfl⟩
theorem zv35 : ZV Tryz.prog 35 [.bool false, .slice none 0 0, .int .i64 0, .int .i64 0] := ⟨_, Tryz.zeroValue35, rfl⟩
theorem zv40 : ZV Tryz.prog 40 [.int .i64 0, .slice none 0 0, .slice none 0 0] := ⟨_, Tryz.zeroValue40, rfl⟩
theorem zv47 : ZV Tryz.prog 47 [.int .i64 0, .string ⟨#[]⟩, .string ⟨#[]⟩, .slice none 0 0, .int .i64 0, .int .i64 0, .int .i64 0, .bool false] := ⟨_, Tryz.zeroValue47, rfl⟩
theorem zv68 : ZV Tryz.prog 68 [.int .i64 0, .slice none 0 0, .slice none 0 0, .pointer none, .pointer none] := ⟨_, Tryz.zeroValue68, rfl⟩
theorem zv76 : ZV Tryz.prog 76 [.int .i64 0, .int .i64 0, .string ⟨#[]⟩] := ⟨_, Tryz.zeroValue76, rfl⟩
theorem zv108 : ZV Tryz.prog 108 [.int .i64 0, .string ⟨#[]⟩, .int .i64 0, .string ⟨#[]⟩] := ⟨_, Tryz.zeroValue108, rfl⟩
theorem zv114 : ZV Tryz.prog 114 [.bool false, .bool false, .int .i64 0, .int .i64 0] := ⟨_, Tryz.zeroValue114, rfl⟩
theorem zv117 : ZV Tryz.prog 117 [.int .i64 0, .string ⟨#[]⟩, .string ⟨#[]⟩, .int .i64 0] := ⟨_, Tryz.zeroValue117, rfl⟩
theorem zv127 : ZV Tryz.prog 127 [.bool false, .string ⟨#[]⟩, .int .i64 0, .string ⟨#[]⟩] := ⟨_, Tryz.zeroValue127, rfl⟩
theorem zvv4 : ∀ w, (zeroValue 4).run Tryz.prog w = .ok (.bool false) w := Tryz.zeroValue4
theorem zvv9 : ∀ w, (zeroValue 9).run Tryz.prog w = .ok (.string ⟨#[]⟩) w := Tryz.zeroValue9
theorem zvv47 : ∀ w, (zeroValue 47).run Tryz.prog w = .ok (.agg #[.int .i64 0, .string ⟨#[]⟩, .string ⟨#[]⟩, .slice none 0 0, .int .i64 0, .int .i64 0, .int .i64 0, .bool false]) w := Tryz.zeroValue47
theorem zvv70 : ∀ w, (zeroValue 70).run Tryz.prog w = .ok (.agg #[.nilFunc, .nilFunc, .nilFunc, .nilFunc, .nilFunc]) w := Tryz.zeroValue70
theorem zvv99 : ∀ w, (zeroValue 99).run Tryz.prog w = .ok (.pointer none) w := Tryz.zeroValue99
theorem fa27_0 : FA Tryz.prog 27 0 0 := FA_of Tryz.underlying27 rfl Tryz.sizeOf3 (by decide) rfl
theorem fa27_1 : FA Tryz.prog 27 1 1 := FA_of Tryz.underlying27 rfl Tryz.sizeOf9 (by decide) rfl
theorem fa35_0 : FA Tryz.prog 35 0 0 := FA_of Tryz.underlying35 rfl Tryz.sizeOf4 (by decide) rfl
theorem fa35_1 : FA Tryz.prog 35 1 1 := FA_of Tryz.underlying35 rfl Tryz.sizeOf33 (by decide) rfl
theorem fa35_2 : FA Tryz.prog 35 2 2 := FA_of Tryz.underlying35 rfl Tryz.sizeOf3 (by decide) rfl
theorem fa35_3 : FA Tryz.prog 35 3 3 := FA_of Tryz.underlying35 rfl Tryz.sizeOf3 (by decide) rfl
theorem fa40_0 : FA Tryz.prog 40 0 0 := FA_of Tryz.underlying40 rfl Tryz.sizeOf3 (by decide) rfl
theorem fa40_1 : FA Tryz.prog 40 1 1 := FA_of Tryz.underlying40 rfl Tryz.sizeOf37 (by decide) rfl
theorem fa40_2 : FA Tryz.prog 40 2 2 := FA_of Tryz.underlying40 rfl Tryz.sizeOf38 (by decide) rfl
theorem fa47_0 : FA Tryz.prog 47 0 0 := FA_of Tryz.underlying47 rfl Tryz.sizeOf27 (by decide) rfl
theorem fa47_1 : FA Tryz.prog 47 1 2 := FA_of Tryz.underlying47 rfl Tryz.sizeOf9 (by decide) rfl
theorem fa47_2 : FA Tryz.prog 47 2 3 := FA_of Tryz.underlying47 rfl Tryz.sizeOf25 (by decide) rfl
theorem fa47_3 : FA Tryz.prog 47 3 4 := FA_of Tryz.underlying47 rfl Tryz.sizeOf3 (by decide) rfl
theorem fa47_4 : FA Tryz.prog 47 4 5 := FA_of Tryz.underlying47 rfl Tryz.sizeOf3 (by decide) rfl
theorem fa47_5 : FA Tryz.prog 47 5 6 := FA_of Tryz.underlying47 rfl Tryz.sizeOf3 (by decide) rfl
theorem fa47_6 : FA Tryz.prog 47 6 7 := FA_of Tryz.underlying47 rfl Tryz.sizeOf4 (by decide) rfl
theorem fa59_0 : FA Tryz.prog 59 0 0 := FA_of Tryz.underlying59 rfl Tryz.sizeOf56 (by decide) rfl
theorem fa59_1 : FA Tryz.prog 59 1 1 := FA_of Tryz.underlying59 rfl Tryz.sizeOf40 (by decide) rfl
theorem fa59_2 : FA Tryz.prog 59 2 4 := FA_of Tryz.underlying59 rfl Tryz.sizeOf30 (by decide) rfl
theorem fa59_3 : FA Tryz.prog 59 3 5 := FA_of Tryz.underlying59 rfl Tryz.sizeOf25 (by decide) rfl
theorem fa59_4 : FA Tryz.prog 59 4 6 := FA_of Tryz.underlying59 rfl Tryz.sizeOf41 (by decide) rfl
theorem fa68_0 : FA Tryz.prog 68 0 0 := FA_of Tryz.underlying68 rfl Tryz.sizeOf40 (by decide) rfl
theorem fa68_1 : FA Tryz.prog 68 1 3 := FA_of Tryz.underlying68 rfl Tryz.sizeOf63 (by decide) rfl
theorem fa68_2 : FA Tryz.prog 68 2 4 := FA_of Tryz.underlying68 rfl Tryz.sizeOf65 (by decide) rfl
theorem fa87_0 : FA Tryz.prog 87 0 0 := FA_of Tryz.underlying87 rfl Tryz.sizeOf36 (by decide) rfl
theorem fa87_1 : FA Tryz.prog 87 1 1 := FA_of Tryz.underlying87 rfl Tryz.sizeOf40 (by decide) rfl
theorem fa87_2 : FA Tryz.prog 87 2 4 := FA_of Tryz.underlying87 rfl Tryz.sizeOf84 (by decide) rfl
theorem fa95_0 : FA Tryz.prog 95 0 0 := FA_of Tryz.underlying95 rfl Tryz.sizeOf36 (by decide) rfl
theorem fa95_2 : FA Tryz.prog 95 2 4 := FA_of Tryz.underlying95 rfl Tryz.sizeOf84 (by decide) rfl
theorem fa95_3 : FA Tryz.prog 95 3 5 := FA_of Tryz.underlying95 rfl Tryz.sizeOf30 (by decide) rfl
theorem fa98_1 : FA Tryz.prog 98 1 1 := FA_of Tryz.underlying98 rfl Tryz.sizeOf40 (by decide) rfl
theorem fa98_2 : FA Tryz.prog 98 2 4 := FA_of Tryz.underlying98 rfl Tryz.sizeOf96 (by decide) rfl
theorem fa108_0 : FA Tryz.prog 108 0 0 := FA_of Tryz.underlying108 rfl Tryz.sizeOf27 (by decide) rfl
theorem fa108_1 : FA Tryz.prog 108 1 2 := FA_of Tryz.underlying108 rfl Tryz.sizeOf27 (by decide) rfl
theorem fa114_0 : FA Tryz.prog 114 0 0 := FA_of Tryz.underlying114 rfl Tryz.sizeOf4 (by decide) rfl
theorem fa114_1 : FA Tryz.prog 114 1 1 := FA_of Tryz.underlying114 rfl Tryz.sizeOf4 (by decide) rfl
theorem fa114_2 : FA Tryz.prog 114 2 2 := FA_of Tryz.underlying114 rfl Tryz.sizeOf3 (by decide) rfl
theorem fa114_3 : FA Tryz.prog 114 3 3 := FA_of Tryz.underlying114 rfl Tryz.sizeOf3 (by decide) rfl
theorem fa117_0 : FA Tryz.prog 117 0 0 := FA_of Tryz.underlying117 rfl Tryz.sizeOf27 (by decide) rfl
theorem fa117_1 : FA Tryz.prog 117 1 2 := FA_of Tryz.underlying117 rfl Tryz.sizeOf9 (by decide) rfl
theorem fa117_2 : FA Tryz.prog 117 2 3 := FA_of Tryz.underlying117 rfl Tryz.sizeOf3 (by decide) rfl
theorem fa127_0 : FA Tryz.prog 127 0 0 := FA_of Tryz.underlying127 rfl Tryz.sizeOf4 (by decide) rfl
theorem fa127_1 : FA Tryz.prog 127 1 1 := FA_of Tryz.underlying127 rfl Tryz.sizeOf9 (by decide) rfl
theorem fa127_2 : FA Tryz.prog 127 2 2 := FA_of Tryz.underlying127 rfl Tryz.sizeOf27 (by decide) rfl
theorem cf4 : CF Tryz.prog 4 := Tryz.call4
theorem cf5 : CF Tryz.prog 5 := Tryz.call5
theorem cf6 : CF Tryz.prog 6 := Tryz.call6
theorem cf7 : CF Tryz.prog 7 := Tryz.call7
theorem cf8 : CF Tryz.prog 8 := Tryz.call8
theorem cf9 : CF Tryz.prog 9 := Tryz.call9
theorem cf10 : CF Tryz.prog 10 := Tryz.call10
theorem cf11 : CF Tryz.prog 11 := Tryz.call11
theorem cf12 : CF Tryz.prog 12 := Tryz.call12
theorem cf13 : CF Tryz.prog 13 := Tryz.call13
theorem cf14 : CF Tryz.prog 14 := Tryz.call14
theorem cf15 : CF Tryz.prog 15 := Tryz.call15
theorem cf16 : CF Tryz.prog 16 := Tryz.call16
theorem cf17 : CF Tryz.prog 17 := Tryz.call17
theorem cf18 : CF Tryz.prog 18 := Tryz.call18
theorem cf19 : CF Tryz.prog 19 := Tryz.call19
theorem cf20 : CF Tryz.prog 20 := Tryz.call20
theorem cf21 : CF Tryz.prog 21 := Tryz.call21
theorem cf22 : CF Tryz.prog 22 := Tryz.call22
theorem cf23 : CF Tryz.prog 23 := Tryz.call23
theorem cf24 : CF Tryz.prog 24 := Tryz.call24
theorem cf25 : CF Tryz.prog 25 := Tryz.call25
theorem cf26 : CF Tryz.prog 26 := Tryz.call26
theorem cf27 : CF Tryz.prog 27 := Tryz.call27
theorem cf28 : CF Tryz.prog 28 := Tryz.call28
theorem cf29 : CF Tryz.prog 29 := Tryz.call29
theorem cf30 : CF Tryz.prog 30 := Tryz.call30
theorem cf31 : CF Tryz.prog 31 := Tryz.call31
theorem cf34 : CF Tryz.prog 34 := Tryz.call34
theorem cf35 : CF Tryz.prog 35 := Tryz.call35
theorem cf36 : CF Tryz.prog 36 := Tryz.call36
theorem cf37 : CF Tryz.prog 37 := Tryz.call37
theorem cf38 : CF Tryz.prog 38 := Tryz.call38
theorem cf39 : CF Tryz.prog 39 := Tryz.call39
theorem cf40 : CF Tryz.prog 40 := Tryz.call40
theorem cf41 : CF Tryz.prog 41 := Tryz.call41
theorem cf42 : CF Tryz.prog 42 := Tryz.call42
theorem cf43 : CF Tryz.prog 43 := Tryz.call43
theorem cf44 : CF Tryz.prog 44 := Tryz.call44
theorem cf45 : CF Tryz.prog 45 := Tryz.call45
theorem cf46 : CF Tryz.prog 46 := Tryz.call46
theorem cf48 : CF Tryz.prog 48 := Tryz.call48
theorem cf49 : CF Tryz.prog 49 := Tryz.call49
theorem cf50 : CF Tryz.prog 50 := Tryz.call50
theorem cf51 : CF Tryz.prog 51 := Tryz.call51
theorem cf52 : CF Tryz.prog 52 := Tryz.call52
theorem cf53 : CF Tryz.prog 53 := Tryz.call53
theorem cf55 : CF Tryz.prog 55 := Tryz.call55
theorem cf56 : CF Tryz.prog 56 := Tryz.call56
theorem cf57 : CF Tryz.prog 57 := Tryz.call57
theorem cf59 : CF Tryz.prog 59 := Tryz.call59
theorem cf60 : CF Tryz.prog 60 := Tryz.call60
theorem cf61 : CF Tryz.prog 61 := Tryz.call61
theorem cf65 : CF Tryz.prog 65 := Tryz.call65
theorem cf66 : CF Tryz.prog 66 := Tryz.call66
theorem cf67 : CF Tryz.prog 67 := Tryz.call67
theorem cf68 : CF Tryz.prog 68 := Tryz.call68
theorem cf70 : CF Tryz.prog 70 := Tryz.call70
theorem cf71 : CF Tryz.prog 71 := Tryz.call71
theorem cf72 : CF Tryz.prog 72 := Tryz.call72
theorem cf73 : CF Tryz.prog 73 := Tryz.call73
theorem cf74 : CF Tryz.prog 74 := Tryz.call74
theorem cf75 : CF Tryz.prog 75 := Tryz.call75
theorem cf76 : CF Tryz.prog 76 := Tryz.call76
theorem cf77 : CF Tryz.prog 77 := Tryz.call77
theorem cf78 : CF Tryz.prog 78 := Tryz.call78
theorem cf79 : CF Tryz.prog 79 := Tryz.call79
theorem cf80 : CF Tryz.prog 80 := Tryz.call80
theorem cf81 : CF Tryz.prog 81 := Tryz.call81
theorem cf82 : CF Tryz.prog 82 := Tryz.call82
theorem cf83 : CF Tryz.prog 83 := Tryz.call83
theorem cf84 : CF Tryz.prog 84 := Tryz.call84
theorem cf86 : CF Tryz.prog 86 := Tryz.call86
theorem cf89 : CF Tryz.prog 89 := Tryz.call89
theorem cf90 : CF Tryz.prog 90 := Tryz.call90
theorem cf91 : CF Tryz.prog 91 := Tryz.call91
theorem cf92 : CF Tryz.prog 92 := Tryz.call92
theorem cf93 : CF Tryz.prog 93 := Tryz.call93
theorem cf94 : CF Tryz.prog 94 := Tryz.call94
theorem cf95 : CF Tryz.prog 95 := Tryz.call95
theorem cf96 : CF Tryz.prog 96 := Tryz.call96
theorem cf97 : CF Tryz.prog 97 := Tryz.call97
theorem cf98 : CF Tryz.prog 98 := Tryz.call98
theorem cf99 : CF Tryz.prog 99 := Tryz.call99
theorem cf100 : CF Tryz.prog 100 := Tryz.call100
theorem cf101 : CF Tryz.prog 101 := Tryz.call101
theorem cf102 : CF Tryz.prog 102 := Tryz.call102
theorem cf110 : CF Tryz.prog 110 := Tryz.call110
theorem cf115 : CF Tryz.prog 115 := Tryz.call115
theorem cf116 : CF Tryz.prog 116 := Tryz.call116
theorem cf117 : CF Tryz.prog 117 := Tryz.call117
theorem cf118 : CF Tryz.prog 118 := Tryz.call118
theorem cf119 : CF Tryz.prog 119 := Tryz.call119
theorem cf120 : CF Tryz.prog 120 := Tryz.call120
theorem cf121 : CF Tryz.prog 121 := Tryz.call121
theorem cf122 : CF Tryz.prog 122 := Tryz.call122
theorem cf123 : CF Tryz.prog 123 := Tryz.call123
theorem cf125 : CF Tryz.prog 125 := Tryz.call125
theorem cf128 : CF Tryz.prog 128 := Tryz.call128
theorem cf131 : CF Tryz.prog 131 := Tryz.call131
theorem cf132 : CF Tryz.prog 132 := Tryz.call132
theorem cf133 : CF Tryz.prog 133 := Tryz.call133
theorem cf134 : CF Tryz.prog 134 := Tryz.call134
theorem cf146 : CF Tryz.prog 146 := Tryz.call146
theorem cf147 : CF Tryz.prog 147 := Tryz.call147
theorem cf148 : CF Tryz.prog 148 := Tryz.call148
theorem cf149 : CF Tryz.prog 149 := Tryz.call149
theorem cf150 : CF Tryz.prog 150 := Tryz.call150
theorem cf158 : CF Tryz.prog 158 := Tryz.call158
theorem cf165 : CF Tryz.prog 165 := Tryz.call165
theorem cf202 : CF Tryz.prog 202 := Tryz.call202
theorem cf208 : CF Tryz.prog 208 := Tryz.call208
end Go.Rc

