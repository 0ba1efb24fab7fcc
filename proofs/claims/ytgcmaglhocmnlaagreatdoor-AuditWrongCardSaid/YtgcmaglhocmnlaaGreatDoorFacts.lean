/- Walks over the program, part Facts. Conditions: as each theorem says. -/
import Derived.Test.YtgcmaglhocmnlaaGreatDoorProg
import Derived.Test.YtgcmaglhocmnlaaGreatDoorBe
set_option linter.unusedVariables false
set_option linter.unusedSimpArgs false
set_option linter.unusedSectionVars false
namespace Go.Rc
open Go Go.Proofs
theorem mixed:Tryz.prog.follows .mixedOrders=true:=by kernel_rfl
theorem keyt40:KeyT Tryz.prog 40:=KeyT_of Tryz.underlying40 rfl rfl rfl rfl (by decide) (by decide) Tryz.underlying3 Tryz.underlying9 Tryz.isAgg3 Tryz.isAgg9 (by kernel_rfl) (by kernel_rfl)
theorem agg32:Agg Tryz.prog 32 3:=⟨⟨_,Tryz.underlying32⟩,by kernel_rfl⟩
theorem agg40:Agg Tryz.prog 40 2:=⟨⟨_,Tryz.underlying40⟩,by kernel_rfl⟩
theorem agg47:Agg Tryz.prog 47 8:=⟨⟨_,Tryz.underlying47⟩,by kernel_rfl⟩
theorem agg56:Agg Tryz.prog 56 4:=⟨⟨_,Tryz.underlying56⟩,by kernel_rfl⟩
theorem agg66:Agg Tryz.prog 66 4:=⟨⟨_,Tryz.underlying66⟩,by kernel_rfl⟩
theorem agg69:Agg Tryz.prog 69 3:=⟨⟨_,Tryz.underlying69⟩,by kernel_rfl⟩
theorem agg73:Agg Tryz.prog 73 4:=⟨⟨_,Tryz.underlying73⟩,by kernel_rfl⟩
theorem agg92:Agg Tryz.prog 92 5:=⟨⟨_,Tryz.underlying92⟩,by kernel_rfl⟩
theorem agg100:Agg Tryz.prog 100 3:=⟨⟨_,Tryz.underlying100⟩,by kernel_rfl⟩
theorem agg132:Agg Tryz.prog 132 4:=⟨⟨_,Tryz.underlying132⟩,by kernel_rfl⟩
theorem agg146:Agg Tryz.prog 146 4:=⟨⟨_,Tryz.underlying146⟩,by kernel_rfl⟩
theorem ap22:AP Tryz.prog 22 3 1 8:=AP_of (z:=.int .i64 0) Tryz.underlying22 (by kernel_rfl) (by kernel_rfl) (by decide)
theorem ap27:AP Tryz.prog 27 56 4 48:=AP_of (z:=.agg #[.bool false,.slice none 0 0,.int .i64 0,.int .i64 0]) Tryz.underlying27 (by kernel_rfl) (by kernel_rfl) (by decide)
theorem ap29:AP Tryz.prog 29 73 4 48:=AP_of (z:=.agg #[.int .i64 0,.string ⟨#[]⟩,.string ⟨#[]⟩,.int .i64 0]) Tryz.underlying29 (by kernel_rfl) (by kernel_rfl) (by decide)
theorem ap30:AP Tryz.prog 30 47 8 96:=AP_of (z:=.agg #[.int .i64 0,.string ⟨#[]⟩,.string ⟨#[]⟩,.slice none 0 0,.int .i64 0,.int .i64 0,.int .i64 0,.bool false]) Tryz.underlying30 (by kernel_rfl) (by kernel_rfl) (by decide)
theorem ap36:AP Tryz.prog 36 69 3 40:=AP_of (z:=.agg #[.int .i64 0,.string ⟨#[]⟩,.string ⟨#[]⟩]) Tryz.underlying36 (by kernel_rfl) (by kernel_rfl) (by decide)
theorem ap38:AP Tryz.prog 38 40 2 24:=AP_of (z:=.agg #[.int .i64 0,.string ⟨#[]⟩]) Tryz.underlying38 (by kernel_rfl) (by kernel_rfl) (by decide)
theorem ap54:AP Tryz.prog 54 66 4 24:=AP_of (z:=.agg #[.bool false,.bool false,.int .i64 0,.int .i64 0]) Tryz.underlying54 (by kernel_rfl) (by kernel_rfl) (by decide)
theorem ap129:AP Tryz.prog 129 132 4 48:=AP_of (z:=.agg #[.int .i64 0,.string ⟨#[]⟩,.int .i64 0,.string ⟨#[]⟩]) Tryz.underlying129 (by kernel_rfl) (by kernel_rfl) (by decide)
theorem ap137:AP Tryz.prog 137 9 1 16:=AP_of (z:=.string ⟨#[]⟩) Tryz.underlying137 (by kernel_rfl) (by kernel_rfl) (by decide)
theorem bs22_1:BS Tryz.prog 22 3 1 1 [.int .i64 0]:=⟨Tryz.underlying22,Tryz.sizeOf3,by decide,by decide,_,Tryz.zeroValue3,by kernel_rfl⟩
theorem bs27_1:BS Tryz.prog 27 56 4 1 [.bool false,.slice none 0 0,.int .i64 0,.int .i64 0]:=⟨Tryz.underlying27,Tryz.sizeOf56,by decide,by decide,_,Tryz.zeroValue56,by kernel_rfl⟩
theorem bs29_1:BS Tryz.prog 29 73 4 1 [.int .i64 0,.string ⟨#[]⟩,.string ⟨#[]⟩,.int .i64 0]:=⟨Tryz.underlying29,Tryz.sizeOf73,by decide,by decide,_,Tryz.zeroValue73,by kernel_rfl⟩
theorem bs30_1:BS Tryz.prog 30 47 8 1 [.int .i64 0,.string ⟨#[]⟩,.string ⟨#[]⟩,.slice none 0 0,.int .i64 0,.int .i64 0,.int .i64 0,.bool false]:=⟨Tryz.underlying30,Tryz.sizeOf47,by decide,by decide,_,Tryz.zeroValue47,by kernel_rfl⟩
theorem bs36_1:BS Tryz.prog 36 69 3 1 [.int .i64 0,.string ⟨#[]⟩,.string ⟨#[]⟩]:=⟨Tryz.underlying36,Tryz.sizeOf69,by decide,by decide,_,Tryz.zeroValue69,by kernel_rfl⟩
theorem bs38_1:BS Tryz.prog 38 40 2 1 [.int .i64 0,.string ⟨#[]⟩]:=⟨Tryz.underlying38,Tryz.sizeOf40,by decide,by decide,_,Tryz.zeroValue40,by kernel_rfl⟩
theorem bs54_1:BS Tryz.prog 54 66 4 1 [.bool false,.bool false,.int .i64 0,.int .i64 0]:=⟨Tryz.underlying54,Tryz.sizeOf66,by decide,by decide,_,Tryz.zeroValue66,by kernel_rfl⟩
theorem bs58_1:BS Tryz.prog 58 38 1 1 [.slice none 0 0]:=⟨Tryz.underlying58,Tryz.sizeOf38,by decide,by decide,_,Tryz.zeroValue38,by kernel_rfl⟩
theorem bs129_1:BS Tryz.prog 129 132 4 1 [.int .i64 0,.string ⟨#[]⟩,.int .i64 0,.string ⟨#[]⟩]:=⟨Tryz.underlying129,Tryz.sizeOf132,by decide,by decide,_,Tryz.zeroValue132,by kernel_rfl⟩
theorem bs137_1:BS Tryz.prog 137 9 1 1 [.string ⟨#[]⟩]:=⟨Tryz.underlying137,Tryz.sizeOf9,by decide,by decide,_,Tryz.zeroValue9,by kernel_rfl⟩
theorem bs137_10:BS Tryz.prog 137 9 1 10 [.string ⟨#[]⟩,.string ⟨#[]⟩,.string ⟨#[]⟩,.string ⟨#[]⟩,.string ⟨#[]⟩,.string ⟨#[]⟩,.string ⟨#[]⟩,.string ⟨#[]⟩,.string ⟨#[]⟩,.string ⟨#[]⟩]:=⟨Tryz.underlying137,Tryz.sizeOf9,by decide,by decide,_,Tryz.zeroValue9,by kernel_rfl⟩
theorem bs22_2:BS Tryz.prog 22 3 1 2 [.int .i64 0,.int .i64 0]:=⟨Tryz.underlying22,Tryz.sizeOf3,by decide,by decide,_,Tryz.zeroValue3,by kernel_rfl⟩
theorem bs58_2:BS Tryz.prog 58 38 1 2 [.slice none 0 0,.slice none 0 0]:=⟨Tryz.underlying58,Tryz.sizeOf38,by decide,by decide,_,Tryz.zeroValue38,by kernel_rfl⟩
theorem bs22_6:BS Tryz.prog 22 3 1 6 [.int .i64 0,.int .i64 0,.int .i64 0,.int .i64 0,.int .i64 0,.int .i64 0]:=⟨Tryz.underlying22,Tryz.sizeOf3,by decide,by decide,_,Tryz.zeroValue3,by kernel_rfl⟩
theorem bt32:BT Tryz.prog 32 [.int .i64 0,.slice none 0 0,.slice none 0 0] [(0,1),(1,1),(2,1)]:=BT_of (fs:=[_,_,_]) Tryz.zeroValue32 rfl Tryz.underlying32 ⟨rfl,Tryz.sizeOf3,rfl,Tryz.sizeOf29,rfl,Tryz.sizeOf30,trivial⟩
theorem bt40:BT Tryz.prog 40 [.int .i64 0,.string ⟨#[]⟩] [(0,1),(1,1)]:=BT_of (fs:=[_,_]) Tryz.zeroValue40 rfl Tryz.underlying40 ⟨rfl,Tryz.sizeOf3,rfl,Tryz.sizeOf9,trivial⟩
theorem bt47:BT Tryz.prog 47 [.int .i64 0,.string ⟨#[]⟩,.string ⟨#[]⟩,.slice none 0 0,.int .i64 0,.int .i64 0,.int .i64 0,.bool false] [(0,2),(2,1),(3,1),(4,1),(5,1),(6,1),(7,1)]:=BT_of (fs:=[_,_,_,_,_,_,_]) Tryz.zeroValue47 rfl Tryz.underlying47 ⟨rfl,Tryz.sizeOf40,rfl,Tryz.sizeOf9,rfl,Tryz.sizeOf38,rfl,Tryz.sizeOf3,rfl,Tryz.sizeOf3,rfl,Tryz.sizeOf3,rfl,Tryz.sizeOf4,trivial⟩
theorem bt56:BT Tryz.prog 56 [.bool false,.slice none 0 0,.int .i64 0,.int .i64 0] [(0,1),(1,1),(2,1),(3,1)]:=BT_of (fs:=[_,_,_,_]) Tryz.zeroValue56 rfl Tryz.underlying56 ⟨rfl,Tryz.sizeOf4,rfl,Tryz.sizeOf54,rfl,Tryz.sizeOf3,rfl,Tryz.sizeOf3,trivial⟩
theorem bt61:BT Tryz.prog 61 [.slice none 0 0,.int .i64 0] [(0,1),(1,1)]:=BT_of (fs:=[_,_]) Tryz.zeroValue61 rfl Tryz.underlying61 ⟨rfl,Tryz.sizeOf22,rfl,Tryz.sizeOf3,trivial⟩
theorem bt66:BT Tryz.prog 66 [.bool false,.bool false,.int .i64 0,.int .i64 0] [(0,1),(1,1),(2,1),(3,1)]:=BT_of (fs:=[_,_,_,_]) Tryz.zeroValue66 rfl Tryz.underlying66 ⟨rfl,Tryz.sizeOf4,rfl,Tryz.sizeOf4,rfl,Tryz.sizeOf3,rfl,Tryz.sizeOf3,trivial⟩
theorem bt69:BT Tryz.prog 69 [.int .i64 0,.string ⟨#[]⟩,.string ⟨#[]⟩] [(0,2),(2,1)]:=BT_of (fs:=[_,_]) Tryz.zeroValue69 rfl Tryz.underlying69 ⟨rfl,Tryz.sizeOf40,rfl,Tryz.sizeOf9,trivial⟩
theorem bt73:BT Tryz.prog 73 [.int .i64 0,.string ⟨#[]⟩,.string ⟨#[]⟩,.int .i64 0] [(0,2),(2,1),(3,1)]:=BT_of (fs:=[_,_,_]) Tryz.zeroValue73 rfl Tryz.underlying73 ⟨rfl,Tryz.sizeOf40,rfl,Tryz.sizeOf9,rfl,Tryz.sizeOf3,trivial⟩
theorem bt83:BT Tryz.prog 83 [.pointer none,.int .i64 0,.slice none 0 0,.slice none 0 0,.map none,.slice none 0 0,.int .i64 0] [(0,1),(1,3),(4,1),(5,1),(6,1)]:=BT_of (fs:=[_,_,_,_,_]) Tryz.zeroValue83 rfl Tryz.underlying83 ⟨rfl,Tryz.sizeOf79,rfl,Tryz.sizeOf32,rfl,Tryz.sizeOf81,rfl,Tryz.sizeOf38,rfl,Tryz.sizeOf33,trivial⟩
theorem bt92:BT Tryz.prog 92 [.int .i64 0,.slice none 0 0,.slice none 0 0,.pointer none,.pointer none] [(0,3),(3,1),(4,1)]:=BT_of (fs:=[_,_,_]) Tryz.zeroValue92 rfl Tryz.underlying92 ⟨rfl,Tryz.sizeOf32,rfl,Tryz.sizeOf87,rfl,Tryz.sizeOf89,trivial⟩
theorem bt100:BT Tryz.prog 100 [.int .i64 0,.int .i64 0,.string ⟨#[]⟩] [(0,1),(1,2)]:=BT_of (fs:=[_,_]) Tryz.zeroValue100 rfl Tryz.underlying100 ⟨rfl,Tryz.sizeOf3,rfl,Tryz.sizeOf40,trivial⟩
theorem bt115:BT Tryz.prog 115 [.slice none 0 0,.int .i64 0,.slice none 0 0,.slice none 0 0,.map none,.map none] [(0,1),(1,3),(4,1),(5,1)]:=BT_of (fs:=[_,_,_,_]) Tryz.zeroValue115 rfl Tryz.underlying115 ⟨rfl,Tryz.sizeOf27,rfl,Tryz.sizeOf32,rfl,Tryz.sizeOf112,rfl,Tryz.sizeOf113,trivial⟩
theorem bt121:BT Tryz.prog 121 [.slice none 0 0,.int .i64 0,.slice none 0 0,.slice none 0 0,.map none,.map none] [(0,1),(1,3),(4,1),(5,1)]:=BT_of (fs:=[_,_,_,_]) Tryz.zeroValue121 rfl Tryz.underlying121 ⟨rfl,Tryz.sizeOf27,rfl,Tryz.sizeOf32,rfl,Tryz.sizeOf112,rfl,Tryz.sizeOf81,trivial⟩
theorem bt124:BT Tryz.prog 124 [.slice none 0 0,.int .i64 0,.slice none 0 0,.slice none 0 0,.map none,.pointer none,.slice none 0 0] [(0,1),(1,3),(4,1),(5,1),(6,1)]:=BT_of (fs:=[_,_,_,_,_]) Tryz.zeroValue124 rfl Tryz.underlying124 ⟨rfl,Tryz.sizeOf27,rfl,Tryz.sizeOf32,rfl,Tryz.sizeOf122,rfl,Tryz.sizeOf87,rfl,Tryz.sizeOf38,trivial⟩
theorem bt132:BT Tryz.prog 132 [.int .i64 0,.string ⟨#[]⟩,.int .i64 0,.string ⟨#[]⟩] [(0,2),(2,2)]:=BT_of (fs:=[_,_]) Tryz.zeroValue132 rfl Tryz.underlying132 ⟨rfl,Tryz.sizeOf40,rfl,Tryz.sizeOf40,trivial⟩
theorem bt146:BT Tryz.prog 146 [.bool false,.string ⟨#[]⟩,.int .i64 0,.string ⟨#[]⟩] [(0,1),(1,1),(2,2)]:=BT_of (fs:=[_,_,_]) Tryz.zeroValue146 rfl Tryz.underlying146 ⟨rfl,Tryz.sizeOf4,rfl,Tryz.sizeOf9,rfl,Tryz.sizeOf40,trivial⟩
theorem kk40:KK Tryz.prog 40 Key.val:=KK_key Tryz.underlying40 keyt40 (check_key Tryz.underlying40 rfl rfl rfl rfl Tryz.underlying3 Tryz.underlying9 Tryz.isAgg3 Tryz.isAgg9)
theorem nif176:∃ms,Tryz.prog.underlying 176=some (.interface ms):=⟨_,Tryz.underlying176⟩
theorem one3:One Tryz.prog 3:=Tryz.isAgg3
theorem one4:One Tryz.prog 4:=Tryz.isAgg4
theorem one9:One Tryz.prog 9:=Tryz.isAgg9
theorem one22:One Tryz.prog 22:=Tryz.isAgg22
theorem one27:One Tryz.prog 27:=Tryz.isAgg27
theorem one29:One Tryz.prog 29:=Tryz.isAgg29
theorem one30:One Tryz.prog 30:=Tryz.isAgg30
theorem one33:One Tryz.prog 33:=Tryz.isAgg33
theorem one38:One Tryz.prog 38:=Tryz.isAgg38
theorem one54:One Tryz.prog 54:=Tryz.isAgg54
theorem one79:One Tryz.prog 79:=Tryz.isAgg79
theorem one81:One Tryz.prog 81:=Tryz.isAgg81
theorem one87:One Tryz.prog 87:=Tryz.isAgg87
theorem one89:One Tryz.prog 89:=Tryz.isAgg89
theorem one93:One Tryz.prog 93:=Tryz.isAgg93
theorem one112:One Tryz.prog 112:=Tryz.isAgg112
theorem one122:One Tryz.prog 122:=Tryz.isAgg122
theorem sl22:SlT Tryz.prog 22 3 1:=⟨Tryz.underlying22,Tryz.sizeOf3⟩
theorem sl27:SlT Tryz.prog 27 56 4:=⟨Tryz.underlying27,Tryz.sizeOf56⟩
theorem sl29:SlT Tryz.prog 29 73 4:=⟨Tryz.underlying29,Tryz.sizeOf73⟩
theorem sl30:SlT Tryz.prog 30 47 8:=⟨Tryz.underlying30,Tryz.sizeOf47⟩
theorem sl36:SlT Tryz.prog 36 69 3:=⟨Tryz.underlying36,Tryz.sizeOf69⟩
theorem sl38:SlT Tryz.prog 38 40 2:=⟨Tryz.underlying38,Tryz.sizeOf40⟩
theorem sl54:SlT Tryz.prog 54 66 4:=⟨Tryz.underlying54,Tryz.sizeOf66⟩
theorem sl58:SlT Tryz.prog 58 38 1:=⟨Tryz.underlying58,Tryz.sizeOf38⟩
theorem sl129:SlT Tryz.prog 129 132 4:=⟨Tryz.underlying129,Tryz.sizeOf132⟩
theorem sl137:SlT Tryz.prog 137 9 1:=⟨Tryz.underlying137,Tryz.sizeOf9⟩
theorem so40:∀w,(sizeOf 40).run Tryz.prog w=.ok 2 w:=Tryz.sizeOf40
theorem so47:∀w,(sizeOf 47).run Tryz.prog w=.ok 8 w:=Tryz.sizeOf47
theorem so73:∀w,(sizeOf 73).run Tryz.prog w=.ok 4 w:=Tryz.sizeOf73
theorem so93:∀w,(sizeOf 93).run Tryz.prog w=.ok 1 w:=Tryz.sizeOf93
theorem sz3:(Tryz.prog.info? 3).map (·.size)=some 1:=by kernel_rfl
theorem sz4:(Tryz.prog.info? 4).map (·.size)=some 1:=by kernel_rfl
theorem sz9:(Tryz.prog.info? 9).map (·.size)=some 1:=by kernel_rfl
theorem sz29:(Tryz.prog.info? 29).map (·.size)=some 1:=by kernel_rfl
theorem sz30:(Tryz.prog.info? 30).map (·.size)=some 1:=by kernel_rfl
theorem sz32:(Tryz.prog.info? 32).map (·.size)=some 3:=by kernel_rfl
theorem sz33:(Tryz.prog.info? 33).map (·.size)=some 1:=by kernel_rfl
theorem sz38:(Tryz.prog.info? 38).map (·.size)=some 1:=by kernel_rfl
theorem sz40:(Tryz.prog.info? 40).map (·.size)=some 2:=by kernel_rfl
theorem sz47:(Tryz.prog.info? 47).map (·.size)=some 8:=by kernel_rfl
theorem sz54:(Tryz.prog.info? 54).map (·.size)=some 1:=by kernel_rfl
theorem sz56:(Tryz.prog.info? 56).map (·.size)=some 4:=by kernel_rfl
theorem sz66:(Tryz.prog.info? 66).map (·.size)=some 4:=by kernel_rfl
theorem sz69:(Tryz.prog.info? 69).map (·.size)=some 3:=by kernel_rfl
theorem sz73:(Tryz.prog.info? 73).map (·.size)=some 4:=by kernel_rfl
theorem sz92:(Tryz.prog.info? 92).map (·.size)=some 5:=by kernel_rfl
theorem sz100:(Tryz.prog.info? 100).map (·.size)=some 3:=by kernel_rfl
theorem sz112:(Tryz.prog.info? 112).map (·.size)=some 1:=by kernel_rfl
theorem sz132:(Tryz.prog.info? 132).map (·.size)=some 4:=by kernel_rfl
theorem sz146:(Tryz.prog.info? 146).map (·.size)=some 4:=by kernel_rfl
theorem und3:Tryz.prog.underlying 3=some (.int .i64):=Tryz.underlying3
theorem und4:Tryz.prog.underlying 4=some (.bool):=Tryz.underlying4
theorem und5:Tryz.prog.underlying 5=some (.int .u8):=Tryz.underlying5
theorem und9:Tryz.prog.underlying 9=some (.string):=Tryz.underlying9
theorem und29:Tryz.prog.underlying 29=some (.slice 73):=Tryz.underlying29
theorem und30:Tryz.prog.underlying 30=some (.slice 47):=Tryz.underlying30
theorem und38:Tryz.prog.underlying 38=some (.slice 40):=Tryz.underlying38
theorem und45:Tryz.prog.underlying 45=some (.pointer 47):=Tryz.underlying45
theorem und81:Tryz.prog.underlying 81=some (.map 40 4):=Tryz.underlying81
theorem und94:Tryz.prog.underlying 94=some (.array 5 93):=Tryz.underlying94
theorem und112:Tryz.prog.underlying 112=some (.map 40 9):=Tryz.underlying112
theorem und122:Tryz.prog.underlying 122=some (.map 40 45):=Tryz.underlying122
theorem zv4:ZV Tryz.prog 4 [.bool false]:=⟨_,Tryz.zeroValue4,rfl⟩
theorem zv32:ZV Tryz.prog 32 [.int .i64 0,.slice none 0 0,.slice none 0 0]:=⟨_,Tryz.zeroValue32,rfl⟩
theorem zv38:ZV Tryz.prog 38 [.slice none 0 0]:=⟨_,Tryz.zeroValue38,rfl⟩
theorem zv40:ZV Tryz.prog 40 [.int .i64 0,.string ⟨#[]⟩]:=⟨_,Tryz.zeroValue40,rfl⟩
theorem zv47:ZV Tryz.prog 47 [.int .i64 0,.string ⟨#[]⟩,.string ⟨#[]⟩,.slice none 0 0,.int .i64 0,.int .i64 0,.int .i64 0,.bool false]:=⟨_,Tryz.zeroValue47,rfl⟩
theorem zv56:ZV Tryz.prog 56 [.bool false,.slice none 0 0,.int .i64 0,.int .i64 0]:=⟨_,Tryz.zeroValue56,rfl⟩
theorem zv66:ZV Tryz.prog 66 [.bool false,.bool false,.int .i64 0,.int .i64 0]:=⟨_,Tryz.zeroValue66,rfl⟩
theorem zv69:ZV Tryz.prog 69 [.int .i64 0,.string ⟨#[]⟩,.string ⟨#[]⟩]:=⟨_,Tryz.zeroValue69,rfl⟩
theorem zv73:ZV Tryz.prog 73 [.int .i64 0,.string ⟨#[]⟩,.string ⟨#[]⟩,.int .i64 0]:=⟨_,Tryz.zeroValue73,rfl⟩
theorem zv92:ZV Tryz.prog 92 [.int .i64 0,.slice none 0 0,.slice none 0 0,.pointer none,.pointer none]:=⟨_,Tryz.zeroValue92,rfl⟩
theorem zv100:ZV Tryz.prog 100 [.int .i64 0,.int .i64 0,.string ⟨#[]⟩]:=⟨_,Tryz.zeroValue100,rfl⟩
theorem zv112:ZV Tryz.prog 112 [.map none]:=⟨_,Tryz.zeroValue112,rfl⟩
theorem zv132:ZV Tryz.prog 132 [.int .i64 0,.string ⟨#[]⟩,.int .i64 0,.string ⟨#[]⟩]:=⟨_,Tryz.zeroValue132,rfl⟩
theorem zv146:ZV Tryz.prog 146 [.bool false,.string ⟨#[]⟩,.int .i64 0,.string ⟨#[]⟩]:=⟨_,Tryz.zeroValue146,rfl⟩
theorem zvv4:∀w,(zeroValue 4).run Tryz.prog w=.ok (.bool false) w:=Tryz.zeroValue4
theorem zvv9:∀w,(zeroValue 9).run Tryz.prog w=.ok (.string ⟨#[]⟩) w:=Tryz.zeroValue9
theorem zvv45:∀w,(zeroValue 45).run Tryz.prog w=.ok (.pointer none) w:=Tryz.zeroValue45
theorem zvv47:∀w,(zeroValue 47).run Tryz.prog w=.ok (.agg #[.int .i64 0,.string ⟨#[]⟩,.string ⟨#[]⟩,.slice none 0 0,.int .i64 0,.int .i64 0,.int .i64 0,.bool false]) w:=Tryz.zeroValue47
theorem zvv94:∀w,(zeroValue 94).run Tryz.prog w=.ok (.agg #[.nilFunc,.nilFunc,.nilFunc,.nilFunc,.nilFunc]) w:=Tryz.zeroValue94
theorem fa32_0:FA Tryz.prog 32 0 0:=FA_of Tryz.underlying32 rfl Tryz.sizeOf3 (by decide) rfl
theorem fa32_1:FA Tryz.prog 32 1 1:=FA_of Tryz.underlying32 rfl Tryz.sizeOf29 (by decide) rfl
theorem fa32_2:FA Tryz.prog 32 2 2:=FA_of Tryz.underlying32 rfl Tryz.sizeOf30 (by decide) rfl
theorem fa40_0:FA Tryz.prog 40 0 0:=FA_of Tryz.underlying40 rfl Tryz.sizeOf3 (by decide) rfl
theorem fa40_1:FA Tryz.prog 40 1 1:=FA_of Tryz.underlying40 rfl Tryz.sizeOf9 (by decide) rfl
theorem fa47_0:FA Tryz.prog 47 0 0:=FA_of Tryz.underlying47 rfl Tryz.sizeOf40 (by decide) rfl
theorem fa47_1:FA Tryz.prog 47 1 2:=FA_of Tryz.underlying47 rfl Tryz.sizeOf9 (by decide) rfl
theorem fa47_2:FA Tryz.prog 47 2 3:=FA_of Tryz.underlying47 rfl Tryz.sizeOf38 (by decide) rfl
theorem fa47_3:FA Tryz.prog 47 3 4:=FA_of Tryz.underlying47 rfl Tryz.sizeOf3 (by decide) rfl
theorem fa47_4:FA Tryz.prog 47 4 5:=FA_of Tryz.underlying47 rfl Tryz.sizeOf3 (by decide) rfl
theorem fa47_5:FA Tryz.prog 47 5 6:=FA_of Tryz.underlying47 rfl Tryz.sizeOf3 (by decide) rfl
theorem fa47_6:FA Tryz.prog 47 6 7:=FA_of Tryz.underlying47 rfl Tryz.sizeOf4 (by decide) rfl
theorem fa56_0:FA Tryz.prog 56 0 0:=FA_of Tryz.underlying56 rfl Tryz.sizeOf4 (by decide) rfl
theorem fa56_1:FA Tryz.prog 56 1 1:=FA_of Tryz.underlying56 rfl Tryz.sizeOf54 (by decide) rfl
theorem fa56_2:FA Tryz.prog 56 2 2:=FA_of Tryz.underlying56 rfl Tryz.sizeOf3 (by decide) rfl
theorem fa56_3:FA Tryz.prog 56 3 3:=FA_of Tryz.underlying56 rfl Tryz.sizeOf3 (by decide) rfl
theorem fa61_0:FA Tryz.prog 61 0 0:=FA_of Tryz.underlying61 rfl Tryz.sizeOf22 (by decide) rfl
theorem fa61_1:FA Tryz.prog 61 1 1:=FA_of Tryz.underlying61 rfl Tryz.sizeOf3 (by decide) rfl
theorem fa66_0:FA Tryz.prog 66 0 0:=FA_of Tryz.underlying66 rfl Tryz.sizeOf4 (by decide) rfl
theorem fa66_1:FA Tryz.prog 66 1 1:=FA_of Tryz.underlying66 rfl Tryz.sizeOf4 (by decide) rfl
theorem fa66_2:FA Tryz.prog 66 2 2:=FA_of Tryz.underlying66 rfl Tryz.sizeOf3 (by decide) rfl
theorem fa66_3:FA Tryz.prog 66 3 3:=FA_of Tryz.underlying66 rfl Tryz.sizeOf3 (by decide) rfl
theorem fa69_0:FA Tryz.prog 69 0 0:=FA_of Tryz.underlying69 rfl Tryz.sizeOf40 (by decide) rfl
theorem fa69_1:FA Tryz.prog 69 1 2:=FA_of Tryz.underlying69 rfl Tryz.sizeOf9 (by decide) rfl
theorem fa73_0:FA Tryz.prog 73 0 0:=FA_of Tryz.underlying73 rfl Tryz.sizeOf40 (by decide) rfl
theorem fa73_1:FA Tryz.prog 73 1 2:=FA_of Tryz.underlying73 rfl Tryz.sizeOf9 (by decide) rfl
theorem fa73_2:FA Tryz.prog 73 2 3:=FA_of Tryz.underlying73 rfl Tryz.sizeOf3 (by decide) rfl
theorem fa83_0:FA Tryz.prog 83 0 0:=FA_of Tryz.underlying83 rfl Tryz.sizeOf79 (by decide) rfl
theorem fa83_1:FA Tryz.prog 83 1 1:=FA_of Tryz.underlying83 rfl Tryz.sizeOf32 (by decide) rfl
theorem fa83_2:FA Tryz.prog 83 2 4:=FA_of Tryz.underlying83 rfl Tryz.sizeOf81 (by decide) rfl
theorem fa83_3:FA Tryz.prog 83 3 5:=FA_of Tryz.underlying83 rfl Tryz.sizeOf38 (by decide) rfl
theorem fa83_4:FA Tryz.prog 83 4 6:=FA_of Tryz.underlying83 rfl Tryz.sizeOf33 (by decide) rfl
theorem fa92_0:FA Tryz.prog 92 0 0:=FA_of Tryz.underlying92 rfl Tryz.sizeOf32 (by decide) rfl
theorem fa92_1:FA Tryz.prog 92 1 3:=FA_of Tryz.underlying92 rfl Tryz.sizeOf87 (by decide) rfl
theorem fa92_2:FA Tryz.prog 92 2 4:=FA_of Tryz.underlying92 rfl Tryz.sizeOf89 (by decide) rfl
theorem fa115_0:FA Tryz.prog 115 0 0:=FA_of Tryz.underlying115 rfl Tryz.sizeOf27 (by decide) rfl
theorem fa115_1:FA Tryz.prog 115 1 1:=FA_of Tryz.underlying115 rfl Tryz.sizeOf32 (by decide) rfl
theorem fa115_2:FA Tryz.prog 115 2 4:=FA_of Tryz.underlying115 rfl Tryz.sizeOf112 (by decide) rfl
theorem fa121_0:FA Tryz.prog 121 0 0:=FA_of Tryz.underlying121 rfl Tryz.sizeOf27 (by decide) rfl
theorem fa121_1:FA Tryz.prog 121 1 1:=FA_of Tryz.underlying121 rfl Tryz.sizeOf32 (by decide) rfl
theorem fa121_2:FA Tryz.prog 121 2 4:=FA_of Tryz.underlying121 rfl Tryz.sizeOf112 (by decide) rfl
theorem fa121_3:FA Tryz.prog 121 3 5:=FA_of Tryz.underlying121 rfl Tryz.sizeOf81 (by decide) rfl
theorem fa124_1:FA Tryz.prog 124 1 1:=FA_of Tryz.underlying124 rfl Tryz.sizeOf32 (by decide) rfl
theorem fa124_2:FA Tryz.prog 124 2 4:=FA_of Tryz.underlying124 rfl Tryz.sizeOf122 (by decide) rfl
theorem fa132_0:FA Tryz.prog 132 0 0:=FA_of Tryz.underlying132 rfl Tryz.sizeOf40 (by decide) rfl
theorem fa132_1:FA Tryz.prog 132 1 2:=FA_of Tryz.underlying132 rfl Tryz.sizeOf40 (by decide) rfl
theorem fa146_0:FA Tryz.prog 146 0 0:=FA_of Tryz.underlying146 rfl Tryz.sizeOf4 (by decide) rfl
theorem fa146_1:FA Tryz.prog 146 1 1:=FA_of Tryz.underlying146 rfl Tryz.sizeOf9 (by decide) rfl
theorem fa146_2:FA Tryz.prog 146 2 2:=FA_of Tryz.underlying146 rfl Tryz.sizeOf40 (by decide) rfl
instance:CAP Tryz.prog 129 132 4 48:=⟨ap129⟩
instance:CAP Tryz.prog 137 9 1 16:=⟨ap137⟩
instance:CAP Tryz.prog 22 3 1 8:=⟨ap22⟩
instance:CAP Tryz.prog 27 56 4 48:=⟨ap27⟩
instance:CAP Tryz.prog 29 73 4 48:=⟨ap29⟩
instance:CAP Tryz.prog 30 47 8 96:=⟨ap30⟩
instance:CAP Tryz.prog 36 69 3 40:=⟨ap36⟩
instance:CAP Tryz.prog 38 40 2 24:=⟨ap38⟩
instance:CAP Tryz.prog 54 66 4 24:=⟨ap54⟩
instance:CBT Tryz.prog 100 [.int .i64 0,.int .i64 0,.string ⟨#[]⟩] [(0,1),(1,2)]:=⟨bt100⟩
instance:CBT Tryz.prog 40 [.int .i64 0,.string ⟨#[]⟩] [(0,1),(1,1)]:=⟨bt40⟩
instance:CBT Tryz.prog 47 [.int .i64 0,.string ⟨#[]⟩,.string ⟨#[]⟩,.slice none 0 0,.int .i64 0,.int .i64 0,.int .i64 0,.bool false] [(0,2),(2,1),(3,1),(4,1),(5,1),(6,1),(7,1)]:=⟨bt47⟩
instance:CBT Tryz.prog 73 [.int .i64 0,.string ⟨#[]⟩,.string ⟨#[]⟩,.int .i64 0] [(0,2),(2,1),(3,1)]:=⟨bt73⟩
instance:CFA Tryz.prog 115 0 0:=⟨fa115_0⟩
instance:CFA Tryz.prog 115 1 1:=⟨fa115_1⟩
instance:CFA Tryz.prog 115 2 4:=⟨fa115_2⟩
instance:CFA Tryz.prog 121 0 0:=⟨fa121_0⟩
instance:CFA Tryz.prog 121 1 1:=⟨fa121_1⟩
instance:CFA Tryz.prog 121 2 4:=⟨fa121_2⟩
instance:CFA Tryz.prog 121 3 5:=⟨fa121_3⟩
instance:CFA Tryz.prog 124 1 1:=⟨fa124_1⟩
instance:CFA Tryz.prog 124 2 4:=⟨fa124_2⟩
instance:CFA Tryz.prog 132 0 0:=⟨fa132_0⟩
instance:CFA Tryz.prog 132 1 2:=⟨fa132_1⟩
instance:CFA Tryz.prog 146 0 0:=⟨fa146_0⟩
instance:CFA Tryz.prog 146 1 1:=⟨fa146_1⟩
instance:CFA Tryz.prog 146 2 2:=⟨fa146_2⟩
instance:CFA Tryz.prog 32 0 0:=⟨fa32_0⟩
instance:CFA Tryz.prog 32 1 1:=⟨fa32_1⟩
instance:CFA Tryz.prog 32 2 2:=⟨fa32_2⟩
instance:CFA Tryz.prog 40 0 0:=⟨fa40_0⟩
instance:CFA Tryz.prog 40 1 1:=⟨fa40_1⟩
instance:CFA Tryz.prog 47 0 0:=⟨fa47_0⟩
instance:CFA Tryz.prog 47 1 2:=⟨fa47_1⟩
instance:CFA Tryz.prog 47 2 3:=⟨fa47_2⟩
instance:CFA Tryz.prog 47 3 4:=⟨fa47_3⟩
instance:CFA Tryz.prog 47 4 5:=⟨fa47_4⟩
instance:CFA Tryz.prog 47 5 6:=⟨fa47_5⟩
instance:CFA Tryz.prog 47 6 7:=⟨fa47_6⟩
instance:CFA Tryz.prog 56 0 0:=⟨fa56_0⟩
instance:CFA Tryz.prog 56 1 1:=⟨fa56_1⟩
instance:CFA Tryz.prog 56 2 2:=⟨fa56_2⟩
instance:CFA Tryz.prog 56 3 3:=⟨fa56_3⟩
instance:CFA Tryz.prog 66 0 0:=⟨fa66_0⟩
instance:CFA Tryz.prog 66 1 1:=⟨fa66_1⟩
instance:CFA Tryz.prog 66 2 2:=⟨fa66_2⟩
instance:CFA Tryz.prog 66 3 3:=⟨fa66_3⟩
instance:CFA Tryz.prog 69 0 0:=⟨fa69_0⟩
instance:CFA Tryz.prog 69 1 2:=⟨fa69_1⟩
instance:CFA Tryz.prog 73 0 0:=⟨fa73_0⟩
instance:CFA Tryz.prog 73 1 2:=⟨fa73_1⟩
instance:CFA Tryz.prog 73 2 3:=⟨fa73_2⟩
instance:CFA Tryz.prog 83 0 0:=⟨fa83_0⟩
instance:CFA Tryz.prog 83 1 1:=⟨fa83_1⟩
instance:CFA Tryz.prog 83 2 4:=⟨fa83_2⟩
instance:CFA Tryz.prog 83 3 5:=⟨fa83_3⟩
instance:CFA Tryz.prog 83 4 6:=⟨fa83_4⟩
instance:CFA Tryz.prog 92 0 0:=⟨fa92_0⟩
instance:CFA Tryz.prog 92 1 3:=⟨fa92_1⟩
instance:CFA Tryz.prog 92 2 4:=⟨fa92_2⟩
instance:CSl Tryz.prog 129 132 4:=⟨sl129⟩
instance:CSl Tryz.prog 137 9 1:=⟨sl137⟩
instance:CSl Tryz.prog 22 3 1:=⟨sl22⟩
instance:CSl Tryz.prog 27 56 4:=⟨sl27⟩
instance:CSl Tryz.prog 29 73 4:=⟨sl29⟩
instance:CSl Tryz.prog 30 47 8:=⟨sl30⟩
instance:CSl Tryz.prog 36 69 3:=⟨sl36⟩
instance:CSl Tryz.prog 38 40 2:=⟨sl38⟩
instance:CSl Tryz.prog 54 66 4:=⟨sl54⟩
instance:CSl Tryz.prog 58 38 1:=⟨sl58⟩
instance:CSz Tryz.prog 112 1:=⟨sz112⟩
instance:CSz Tryz.prog 29 1:=⟨sz29⟩
instance:CSz Tryz.prog 3 1:=⟨sz3⟩
instance:CSz Tryz.prog 30 1:=⟨sz30⟩
instance:CSz Tryz.prog 33 1:=⟨sz33⟩
instance:CSz Tryz.prog 38 1:=⟨sz38⟩
instance:CSz Tryz.prog 4 1:=⟨sz4⟩
instance:CSz Tryz.prog 54 1:=⟨sz54⟩
instance:CUnd Tryz.prog 29 (.slice 73):=⟨und29⟩
instance:CUnd Tryz.prog 30 (.slice 47):=⟨und30⟩
instance:CUnd Tryz.prog 38 (.slice 40):=⟨und38⟩
instance:CUnd Tryz.prog 45 (.pointer 47):=⟨und45⟩
instance:CUnd Tryz.prog 9 (.string):=⟨und9⟩
instance:CZV Tryz.prog 100 [.int .i64 0,.int .i64 0,.string ⟨#[]⟩]:=⟨zv100⟩
instance:CZV Tryz.prog 132 [.int .i64 0,.string ⟨#[]⟩,.int .i64 0,.string ⟨#[]⟩]:=⟨zv132⟩
instance:CZV Tryz.prog 146 [.bool false,.string ⟨#[]⟩,.int .i64 0,.string ⟨#[]⟩]:=⟨zv146⟩
instance:CZV Tryz.prog 32 [.int .i64 0,.slice none 0 0,.slice none 0 0]:=⟨zv32⟩
instance:CZV Tryz.prog 38 [.slice none 0 0]:=⟨zv38⟩
instance:CZV Tryz.prog 4 [.bool false]:=⟨zv4⟩
instance:CZV Tryz.prog 40 [.int .i64 0,.string ⟨#[]⟩]:=⟨zv40⟩
instance:CZV Tryz.prog 47 [.int .i64 0,.string ⟨#[]⟩,.string ⟨#[]⟩,.slice none 0 0,.int .i64 0,.int .i64 0,.int .i64 0,.bool false]:=⟨zv47⟩
instance:CZV Tryz.prog 56 [.bool false,.slice none 0 0,.int .i64 0,.int .i64 0]:=⟨zv56⟩
instance:CZV Tryz.prog 66 [.bool false,.bool false,.int .i64 0,.int .i64 0]:=⟨zv66⟩
instance:CZV Tryz.prog 69 [.int .i64 0,.string ⟨#[]⟩,.string ⟨#[]⟩]:=⟨zv69⟩
instance:CZV Tryz.prog 73 [.int .i64 0,.string ⟨#[]⟩,.string ⟨#[]⟩,.int .i64 0]:=⟨zv73⟩
theorem cf4:CF Tryz.prog 4:=Tryz.call4
theorem cf5:CF Tryz.prog 5:=Tryz.call5
theorem cf6:CF Tryz.prog 6:=Tryz.call6
theorem cf7:CF Tryz.prog 7:=Tryz.call7
theorem cf8:CF Tryz.prog 8:=Tryz.call8
theorem cf9:CF Tryz.prog 9:=Tryz.call9
theorem cf10:CF Tryz.prog 10:=Tryz.call10
theorem cf11:CF Tryz.prog 11:=Tryz.call11
theorem cf12:CF Tryz.prog 12:=Tryz.call12
theorem cf13:CF Tryz.prog 13:=Tryz.call13
theorem cf14:CF Tryz.prog 14:=Tryz.call14
theorem cf15:CF Tryz.prog 15:=Tryz.call15
theorem cf16:CF Tryz.prog 16:=Tryz.call16
theorem cf17:CF Tryz.prog 17:=Tryz.call17
theorem cf18:CF Tryz.prog 18:=Tryz.call18
theorem cf19:CF Tryz.prog 19:=Tryz.call19
theorem cf20:CF Tryz.prog 20:=Tryz.call20
theorem cf21:CF Tryz.prog 21:=Tryz.call21
theorem cf22:CF Tryz.prog 22:=Tryz.call22
theorem cf23:CF Tryz.prog 23:=Tryz.call23
theorem cf24:CF Tryz.prog 24:=Tryz.call24
theorem cf25:CF Tryz.prog 25:=Tryz.call25
theorem cf26:CF Tryz.prog 26:=Tryz.call26
theorem cf27:CF Tryz.prog 27:=Tryz.call27
theorem cf28:CF Tryz.prog 28:=Tryz.call28
theorem cf29:CF Tryz.prog 29:=Tryz.call29
theorem cf30:CF Tryz.prog 30:=Tryz.call30
theorem cf31:CF Tryz.prog 31:=Tryz.call31
theorem cf32:CF Tryz.prog 32:=Tryz.call32
theorem cf33:CF Tryz.prog 33:=Tryz.call33
theorem cf34:CF Tryz.prog 34:=Tryz.call34
theorem cf35:CF Tryz.prog 35:=Tryz.call35
theorem cf36:CF Tryz.prog 36:=Tryz.call36
theorem cf37:CF Tryz.prog 37:=Tryz.call37
theorem cf38:CF Tryz.prog 38:=Tryz.call38
theorem cf39:CF Tryz.prog 39:=Tryz.call39
theorem cf40:CF Tryz.prog 40:=Tryz.call40
theorem cf41:CF Tryz.prog 41:=Tryz.call41
theorem cf42:CF Tryz.prog 42:=Tryz.call42
theorem cf43:CF Tryz.prog 43:=Tryz.call43
theorem cf44:CF Tryz.prog 44:=Tryz.call44
theorem cf45:CF Tryz.prog 45:=Tryz.call45
theorem cf47:CF Tryz.prog 47:=Tryz.call47
theorem cf48:CF Tryz.prog 48:=Tryz.call48
theorem cf49:CF Tryz.prog 49:=Tryz.call49
theorem cf50:CF Tryz.prog 50:=Tryz.call50
theorem cf51:CF Tryz.prog 51:=Tryz.call51
theorem cf53:CF Tryz.prog 53:=Tryz.call53
theorem cf54:CF Tryz.prog 54:=Tryz.call54
theorem cf55:CF Tryz.prog 55:=Tryz.call55
theorem cf56:CF Tryz.prog 56:=Tryz.call56
theorem cf57:CF Tryz.prog 57:=Tryz.call57
theorem cf58:CF Tryz.prog 58:=Tryz.call58
theorem cf59:CF Tryz.prog 59:=Tryz.call59
theorem cf60:CF Tryz.prog 60:=Tryz.call60
theorem cf61:CF Tryz.prog 61:=Tryz.call61
theorem cf62:CF Tryz.prog 62:=Tryz.call62
theorem cf64:CF Tryz.prog 64:=Tryz.call64
theorem cf65:CF Tryz.prog 65:=Tryz.call65
theorem cf66:CF Tryz.prog 66:=Tryz.call66
theorem cf67:CF Tryz.prog 67:=Tryz.call67
theorem cf68:CF Tryz.prog 68:=Tryz.call68
theorem cf69:CF Tryz.prog 69:=Tryz.call69
theorem cf70:CF Tryz.prog 70:=Tryz.call70
theorem cf71:CF Tryz.prog 71:=Tryz.call71
theorem cf72:CF Tryz.prog 72:=Tryz.call72
theorem cf73:CF Tryz.prog 73:=Tryz.call73
theorem cf74:CF Tryz.prog 74:=Tryz.call74
theorem cf75:CF Tryz.prog 75:=Tryz.call75
theorem cf76:CF Tryz.prog 76:=Tryz.call76
theorem cf77:CF Tryz.prog 77:=Tryz.call77
theorem cf81:CF Tryz.prog 81:=Tryz.call81
theorem cf82:CF Tryz.prog 82:=Tryz.call82
theorem cf83:CF Tryz.prog 83:=Tryz.call83
theorem cf84:CF Tryz.prog 84:=Tryz.call84
theorem cf85:CF Tryz.prog 85:=Tryz.call85
theorem cf86:CF Tryz.prog 86:=Tryz.call86
theorem cf89:CF Tryz.prog 89:=Tryz.call89
theorem cf90:CF Tryz.prog 90:=Tryz.call90
theorem cf91:CF Tryz.prog 91:=Tryz.call91
theorem cf92:CF Tryz.prog 92:=Tryz.call92
theorem cf93:CF Tryz.prog 93:=Tryz.call93
theorem cf94:CF Tryz.prog 94:=Tryz.call94
theorem cf95:CF Tryz.prog 95:=Tryz.call95
theorem cf96:CF Tryz.prog 96:=Tryz.call96
theorem cf97:CF Tryz.prog 97:=Tryz.call97
theorem cf98:CF Tryz.prog 98:=Tryz.call98
theorem cf99:CF Tryz.prog 99:=Tryz.call99
theorem cf100:CF Tryz.prog 100:=Tryz.call100
theorem cf101:CF Tryz.prog 101:=Tryz.call101
theorem cf102:CF Tryz.prog 102:=Tryz.call102
theorem cf103:CF Tryz.prog 103:=Tryz.call103
theorem cf104:CF Tryz.prog 104:=Tryz.call104
theorem cf105:CF Tryz.prog 105:=Tryz.call105
theorem cf106:CF Tryz.prog 106:=Tryz.call106
theorem cf107:CF Tryz.prog 107:=Tryz.call107
theorem cf108:CF Tryz.prog 108:=Tryz.call108
theorem cf109:CF Tryz.prog 109:=Tryz.call109
theorem cf110:CF Tryz.prog 110:=Tryz.call110
theorem cf111:CF Tryz.prog 111:=Tryz.call111
theorem cf112:CF Tryz.prog 112:=Tryz.call112
theorem cf113:CF Tryz.prog 113:=Tryz.call113
theorem cf114:CF Tryz.prog 114:=Tryz.call114
theorem cf115:CF Tryz.prog 115:=Tryz.call115
theorem cf116:CF Tryz.prog 116:=Tryz.call116
theorem cf117:CF Tryz.prog 117:=Tryz.call117
theorem cf119:CF Tryz.prog 119:=Tryz.call119
theorem cf120:CF Tryz.prog 120:=Tryz.call120
theorem cf125:CF Tryz.prog 125:=Tryz.call125
theorem cf131:CF Tryz.prog 131:=Tryz.call131
theorem cf132:CF Tryz.prog 132:=Tryz.call132
theorem cf133:CF Tryz.prog 133:=Tryz.call133
theorem cf134:CF Tryz.prog 134:=Tryz.call134
theorem cf135:CF Tryz.prog 135:=Tryz.call135
theorem cf136:CF Tryz.prog 136:=Tryz.call136
theorem cf138:CF Tryz.prog 138:=Tryz.call138
theorem cf139:CF Tryz.prog 139:=Tryz.call139
theorem cf140:CF Tryz.prog 140:=Tryz.call140
theorem cf141:CF Tryz.prog 141:=Tryz.call141
theorem cf142:CF Tryz.prog 142:=Tryz.call142
theorem cf143:CF Tryz.prog 143:=Tryz.call143
theorem cf144:CF Tryz.prog 144:=Tryz.call144
theorem cf145:CF Tryz.prog 145:=Tryz.call145
theorem cf146:CF Tryz.prog 146:=Tryz.call146
theorem cf147:CF Tryz.prog 147:=Tryz.call147
theorem cf148:CF Tryz.prog 148:=Tryz.call148
theorem cf149:CF Tryz.prog 149:=Tryz.call149
theorem cf150:CF Tryz.prog 150:=Tryz.call150
theorem cf158:CF Tryz.prog 158:=Tryz.call158
theorem cf159:CF Tryz.prog 159:=Tryz.call159
theorem cf160:CF Tryz.prog 160:=Tryz.call160
theorem cf162:CF Tryz.prog 162:=Tryz.call162
theorem cf163:CF Tryz.prog 163:=Tryz.call163
theorem cf164:CF Tryz.prog 164:=Tryz.call164
theorem cf167:CF Tryz.prog 167:=Tryz.call167
theorem cf174:CF Tryz.prog 174:=Tryz.call174
theorem cf209:CF Tryz.prog 209:=Tryz.call209
theorem cf210:CF Tryz.prog 210:=Tryz.call210
theorem cf211:CF Tryz.prog 211:=Tryz.call211
theorem cf217:CF Tryz.prog 217:=Tryz.call217
instance:CCF Tryz.prog 4:=⟨cf4⟩
instance:CCF Tryz.prog 10:=⟨cf10⟩
instance:CCF Tryz.prog 13:=⟨cf13⟩
instance:CCF Tryz.prog 14:=⟨cf14⟩
instance:CCF Tryz.prog 17:=⟨cf17⟩
instance:CCF Tryz.prog 20:=⟨cf20⟩
instance:CCF Tryz.prog 22:=⟨cf22⟩
instance:CCF Tryz.prog 23:=⟨cf23⟩
instance:CCF Tryz.prog 24:=⟨cf24⟩
instance:CCF Tryz.prog 25:=⟨cf25⟩
instance:CCF Tryz.prog 27:=⟨cf27⟩
instance:CCF Tryz.prog 33:=⟨cf33⟩
instance:CCF Tryz.prog 43:=⟨cf43⟩
instance:CCF Tryz.prog 44:=⟨cf44⟩
instance:CCF Tryz.prog 50:=⟨cf50⟩
instance:CCF Tryz.prog 56:=⟨cf56⟩
instance:CCF Tryz.prog 60:=⟨cf60⟩
instance:CCF Tryz.prog 61:=⟨cf61⟩
instance:CCF Tryz.prog 62:=⟨cf62⟩
instance:CCF Tryz.prog 64:=⟨cf64⟩
instance:CCF Tryz.prog 66:=⟨cf66⟩
instance:CCF Tryz.prog 68:=⟨cf68⟩
instance:CCF Tryz.prog 69:=⟨cf69⟩
instance:CCF Tryz.prog 72:=⟨cf72⟩
instance:CCF Tryz.prog 73:=⟨cf73⟩
instance:CCF Tryz.prog 74:=⟨cf74⟩
instance:CCF Tryz.prog 75:=⟨cf75⟩
instance:CCF Tryz.prog 77:=⟨cf77⟩
instance:CCF Tryz.prog 81:=⟨cf81⟩
instance:CCF Tryz.prog 84:=⟨cf84⟩
instance:CCF Tryz.prog 94:=⟨cf94⟩
instance:CCF Tryz.prog 96:=⟨cf96⟩
instance:CCF Tryz.prog 98:=⟨cf98⟩
instance:CCF Tryz.prog 100:=⟨cf100⟩
instance:CCF Tryz.prog 101:=⟨cf101⟩
instance:CCF Tryz.prog 102:=⟨cf102⟩
instance:CCF Tryz.prog 103:=⟨cf103⟩
instance:CCF Tryz.prog 104:=⟨cf104⟩
instance:CCF Tryz.prog 106:=⟨cf106⟩
instance:CCF Tryz.prog 107:=⟨cf107⟩
instance:CCF Tryz.prog 108:=⟨cf108⟩
instance:CCF Tryz.prog 109:=⟨cf109⟩
instance:CCF Tryz.prog 110:=⟨cf110⟩
instance:CCF Tryz.prog 113:=⟨cf113⟩
instance:CCF Tryz.prog 131:=⟨cf131⟩
instance:CCF Tryz.prog 133:=⟨cf133⟩
instance:CCF Tryz.prog 134:=⟨cf134⟩
instance:CCF Tryz.prog 138:=⟨cf138⟩
instance:CCF Tryz.prog 139:=⟨cf139⟩
instance:CCF Tryz.prog 140:=⟨cf140⟩
instance:CCF Tryz.prog 141:=⟨cf141⟩
instance:CCF Tryz.prog 142:=⟨cf142⟩
instance:CCF Tryz.prog 144:=⟨cf144⟩
instance:CCF Tryz.prog 145:=⟨cf145⟩
instance:CCF Tryz.prog 162:=⟨cf162⟩
instance:CCF Tryz.prog 164:=⟨cf164⟩
instance:CCF Tryz.prog 167:=⟨cf167⟩
instance:CCF Tryz.prog 174:=⟨cf174⟩
instance:CCF Tryz.prog 209:=⟨cf209⟩
instance:CCF Tryz.prog 210:=⟨cf210⟩
instance:CCF Tryz.prog 211:=⟨cf211⟩
end Go.Rc

