/- Walks over the program, part Facts. Conditions: as each theorem says. -/
import Derived.Test.YthljjmhdkbeghaaGreatDoorProg
import Derived.Test.YthljjmhdkbeghaaGreatDoorIBe
set_option linter.unusedVariables false
set_option linter.unusedSimpArgs false
set_option linter.unusedSectionVars false
namespace Go.Rc
open Go Go.Proofs
theorem mixed:Tryz.prog.follows .mixedOrders=true:=by kernel_rfl
theorem keyt35:KeyT Tryz.prog 35:=KeyT_of Tryz.underlying35 rfl rfl rfl rfl (by decide) (by decide) Tryz.underlying3 Tryz.underlying9 Tryz.isAgg3 Tryz.isAgg9 (by kernel_rfl) (by kernel_rfl)
theorem agg31:Agg Tryz.prog 31 3:=⟨⟨_,Tryz.underlying31⟩,by kernel_rfl⟩
theorem agg35:Agg Tryz.prog 35 2:=⟨⟨_,Tryz.underlying35⟩,by kernel_rfl⟩
theorem agg49:Agg Tryz.prog 49 3:=⟨⟨_,Tryz.underlying49⟩,by kernel_rfl⟩
theorem agg56:Agg Tryz.prog 56 4:=⟨⟨_,Tryz.underlying56⟩,by kernel_rfl⟩
theorem agg61:Agg Tryz.prog 61 4:=⟨⟨_,Tryz.underlying61⟩,by kernel_rfl⟩
theorem agg65:Agg Tryz.prog 65 4:=⟨⟨_,Tryz.underlying65⟩,by kernel_rfl⟩
theorem agg86:Agg Tryz.prog 86 4:=⟨⟨_,Tryz.underlying86⟩,by kernel_rfl⟩
theorem agg94:Agg Tryz.prog 94 7:=⟨⟨_,Tryz.underlying94⟩,by kernel_rfl⟩
theorem agg116:Agg Tryz.prog 116 8:=⟨⟨_,Tryz.underlying116⟩,by kernel_rfl⟩
theorem agg130:Agg Tryz.prog 130 6:=⟨⟨_,Tryz.underlying130⟩,by kernel_rfl⟩
theorem agg199:Agg Tryz.prog 199 4:=⟨⟨_,Tryz.underlying199⟩,by kernel_rfl⟩
theorem ap22:AP Tryz.prog 22 3 1 8:=AP_of (z:=.int .i64 0) Tryz.underlying22 (by kernel_rfl) (by kernel_rfl) (by decide)
theorem ap27:AP Tryz.prog 27 56 4 48:=AP_of (z:=.agg #[.bool false,.slice none 0 0,.int .i64 0,.int .i64 0]) Tryz.underlying27 (by kernel_rfl) (by kernel_rfl) (by decide)
theorem ap28:AP Tryz.prog 28 86 4 48:=AP_of (z:=.agg #[.int .i64 0,.string ⟨#[]⟩,.string ⟨#[]⟩,.int .i64 0]) Tryz.underlying28 (by kernel_rfl) (by kernel_rfl) (by decide)
theorem ap29:AP Tryz.prog 29 116 8 96:=AP_of (z:=.agg #[.int .i64 0,.string ⟨#[]⟩,.string ⟨#[]⟩,.slice none 0 0,.int .i64 0,.int .i64 0,.int .i64 0,.bool false]) Tryz.underlying29 (by kernel_rfl) (by kernel_rfl) (by decide)
theorem ap41:AP Tryz.prog 41 35 2 24:=AP_of (z:=.agg #[.int .i64 0,.string ⟨#[]⟩]) Tryz.underlying41 (by kernel_rfl) (by kernel_rfl) (by decide)
theorem ap50:AP Tryz.prog 50 49 3 40:=AP_of (z:=.agg #[.int .i64 0,.string ⟨#[]⟩,.string ⟨#[]⟩]) Tryz.underlying50 (by kernel_rfl) (by kernel_rfl) (by decide)
theorem ap54:AP Tryz.prog 54 61 4 24:=AP_of (z:=.agg #[.bool false,.bool false,.int .i64 0,.int .i64 0]) Tryz.underlying54 (by kernel_rfl) (by kernel_rfl) (by decide)
theorem ap63:AP Tryz.prog 63 9 1 16:=AP_of (z:=.string ⟨#[]⟩) Tryz.underlying63 (by kernel_rfl) (by kernel_rfl) (by decide)
theorem ap92:AP Tryz.prog 92 130 6 88:=AP_of (z:=.agg #[.int .i64 0,.string ⟨#[]⟩,.bool false,.int .i64 0,.slice none 0 0,.slice none 0 0]) Tryz.underlying92 (by kernel_rfl) (by kernel_rfl) (by decide)
theorem ap188:AP Tryz.prog 188 199 4 48:=AP_of (z:=.agg #[.int .i64 0,.string ⟨#[]⟩,.int .i64 0,.string ⟨#[]⟩]) Tryz.underlying188 (by kernel_rfl) (by kernel_rfl) (by decide)
theorem bs22_1:BS Tryz.prog 22 3 1 1 [.int .i64 0]:=⟨Tryz.underlying22,Tryz.sizeOf3,by decide,by decide,_,Tryz.zeroValue3,by kernel_rfl⟩
theorem bs27_1:BS Tryz.prog 27 56 4 1 [.bool false,.slice none 0 0,.int .i64 0,.int .i64 0]:=⟨Tryz.underlying27,Tryz.sizeOf56,by decide,by decide,_,Tryz.zeroValue56,by kernel_rfl⟩
theorem bs28_1:BS Tryz.prog 28 86 4 1 [.int .i64 0,.string ⟨#[]⟩,.string ⟨#[]⟩,.int .i64 0]:=⟨Tryz.underlying28,Tryz.sizeOf86,by decide,by decide,_,Tryz.zeroValue86,by kernel_rfl⟩
theorem bs29_1:BS Tryz.prog 29 116 8 1 [.int .i64 0,.string ⟨#[]⟩,.string ⟨#[]⟩,.slice none 0 0,.int .i64 0,.int .i64 0,.int .i64 0,.bool false]:=⟨Tryz.underlying29,Tryz.sizeOf116,by decide,by decide,_,Tryz.zeroValue116,by kernel_rfl⟩
theorem bs41_1:BS Tryz.prog 41 35 2 1 [.int .i64 0,.string ⟨#[]⟩]:=⟨Tryz.underlying41,Tryz.sizeOf35,by decide,by decide,_,Tryz.zeroValue35,by kernel_rfl⟩
theorem bs50_1:BS Tryz.prog 50 49 3 1 [.int .i64 0,.string ⟨#[]⟩,.string ⟨#[]⟩]:=⟨Tryz.underlying50,Tryz.sizeOf49,by decide,by decide,_,Tryz.zeroValue49,by kernel_rfl⟩
theorem bs54_1:BS Tryz.prog 54 61 4 1 [.bool false,.bool false,.int .i64 0,.int .i64 0]:=⟨Tryz.underlying54,Tryz.sizeOf61,by decide,by decide,_,Tryz.zeroValue61,by kernel_rfl⟩
theorem bs63_1:BS Tryz.prog 63 9 1 1 [.string ⟨#[]⟩]:=⟨Tryz.underlying63,Tryz.sizeOf9,by decide,by decide,_,Tryz.zeroValue9,by kernel_rfl⟩
theorem bs92_1:BS Tryz.prog 92 130 6 1 [.int .i64 0,.string ⟨#[]⟩,.bool false,.int .i64 0,.slice none 0 0,.slice none 0 0]:=⟨Tryz.underlying92,Tryz.sizeOf130,by decide,by decide,_,Tryz.zeroValue130,by kernel_rfl⟩
theorem bs188_1:BS Tryz.prog 188 199 4 1 [.int .i64 0,.string ⟨#[]⟩,.int .i64 0,.string ⟨#[]⟩]:=⟨Tryz.underlying188,Tryz.sizeOf199,by decide,by decide,_,Tryz.zeroValue199,by kernel_rfl⟩
theorem bs63_10:BS Tryz.prog 63 9 1 10 [.string ⟨#[]⟩,.string ⟨#[]⟩,.string ⟨#[]⟩,.string ⟨#[]⟩,.string ⟨#[]⟩,.string ⟨#[]⟩,.string ⟨#[]⟩,.string ⟨#[]⟩,.string ⟨#[]⟩,.string ⟨#[]⟩]:=⟨Tryz.underlying63,Tryz.sizeOf9,by decide,by decide,_,Tryz.zeroValue9,by kernel_rfl⟩
theorem bs22_2:BS Tryz.prog 22 3 1 2 [.int .i64 0,.int .i64 0]:=⟨Tryz.underlying22,Tryz.sizeOf3,by decide,by decide,_,Tryz.zeroValue3,by kernel_rfl⟩
theorem bs27_2:BS Tryz.prog 27 56 4 2 [.bool false,.slice none 0 0,.int .i64 0,.int .i64 0,.bool false,.slice none 0 0,.int .i64 0,.int .i64 0]:=⟨Tryz.underlying27,Tryz.sizeOf56,by decide,by decide,_,Tryz.zeroValue56,by kernel_rfl⟩
theorem bs22_6:BS Tryz.prog 22 3 1 6 [.int .i64 0,.int .i64 0,.int .i64 0,.int .i64 0,.int .i64 0,.int .i64 0]:=⟨Tryz.underlying22,Tryz.sizeOf3,by decide,by decide,_,Tryz.zeroValue3,by kernel_rfl⟩
theorem bt31:BT Tryz.prog 31 [.int .i64 0,.slice none 0 0,.slice none 0 0] [(0,1),(1,1),(2,1)]:=BT_of (fs:=[_,_,_]) Tryz.zeroValue31 rfl Tryz.underlying31 ⟨rfl,Tryz.sizeOf3,rfl,Tryz.sizeOf28,rfl,Tryz.sizeOf29,trivial⟩
theorem bt35:BT Tryz.prog 35 [.int .i64 0,.string ⟨#[]⟩] [(0,1),(1,1)]:=BT_of (fs:=[_,_]) Tryz.zeroValue35 rfl Tryz.underlying35 ⟨rfl,Tryz.sizeOf3,rfl,Tryz.sizeOf9,trivial⟩
theorem bt49:BT Tryz.prog 49 [.int .i64 0,.string ⟨#[]⟩,.string ⟨#[]⟩] [(0,2),(2,1)]:=BT_of (fs:=[_,_]) Tryz.zeroValue49 rfl Tryz.underlying49 ⟨rfl,Tryz.sizeOf35,rfl,Tryz.sizeOf9,trivial⟩
theorem bt56:BT Tryz.prog 56 [.bool false,.slice none 0 0,.int .i64 0,.int .i64 0] [(0,1),(1,1),(2,1),(3,1)]:=BT_of (fs:=[_,_,_,_]) Tryz.zeroValue56 rfl Tryz.underlying56 ⟨rfl,Tryz.sizeOf4,rfl,Tryz.sizeOf54,rfl,Tryz.sizeOf3,rfl,Tryz.sizeOf3,trivial⟩
theorem bt61:BT Tryz.prog 61 [.bool false,.bool false,.int .i64 0,.int .i64 0] [(0,1),(1,1),(2,1),(3,1)]:=BT_of (fs:=[_,_,_,_]) Tryz.zeroValue61 rfl Tryz.underlying61 ⟨rfl,Tryz.sizeOf4,rfl,Tryz.sizeOf4,rfl,Tryz.sizeOf3,rfl,Tryz.sizeOf3,trivial⟩
theorem bt65:BT Tryz.prog 65 [.bool false,.string ⟨#[]⟩,.int .i64 0,.string ⟨#[]⟩] [(0,1),(1,1),(2,2)]:=BT_of (fs:=[_,_,_]) Tryz.zeroValue65 rfl Tryz.underlying65 ⟨rfl,Tryz.sizeOf4,rfl,Tryz.sizeOf9,rfl,Tryz.sizeOf35,trivial⟩
theorem bt72:BT Tryz.prog 72 [.slice none 0 0,.int .i64 0] [(0,1),(1,1)]:=BT_of (fs:=[_,_]) Tryz.zeroValue72 rfl Tryz.underlying72 ⟨rfl,Tryz.sizeOf22,rfl,Tryz.sizeOf3,trivial⟩
theorem bt86:BT Tryz.prog 86 [.int .i64 0,.string ⟨#[]⟩,.string ⟨#[]⟩,.int .i64 0] [(0,2),(2,1),(3,1)]:=BT_of (fs:=[_,_,_]) Tryz.zeroValue86 rfl Tryz.underlying86 ⟨rfl,Tryz.sizeOf35,rfl,Tryz.sizeOf9,rfl,Tryz.sizeOf3,trivial⟩
theorem bt94:BT Tryz.prog 94 [.slice none 0 0,.int .i64 0,.slice none 0 0,.slice none 0 0,.slice none 0 0,.slice none 0 0,.slice none 0 0] [(0,1),(1,3),(4,1),(5,1),(6,1)]:=BT_of (fs:=[_,_,_,_,_]) Tryz.zeroValue94 rfl Tryz.underlying94 ⟨rfl,Tryz.sizeOf27,rfl,Tryz.sizeOf31,rfl,Tryz.sizeOf41,rfl,Tryz.sizeOf92,rfl,Tryz.sizeOf41,trivial⟩
theorem bt108:BT Tryz.prog 108 [.slice none 0 0,.int .i64 0,.slice none 0 0,.slice none 0 0,.map none,.map none] [(0,1),(1,3),(4,1),(5,1)]:=BT_of (fs:=[_,_,_,_]) Tryz.zeroValue108 rfl Tryz.underlying108 ⟨rfl,Tryz.sizeOf27,rfl,Tryz.sizeOf31,rfl,Tryz.sizeOf106,rfl,Tryz.sizeOf67,trivial⟩
theorem bt116:BT Tryz.prog 116 [.int .i64 0,.string ⟨#[]⟩,.string ⟨#[]⟩,.slice none 0 0,.int .i64 0,.int .i64 0,.int .i64 0,.bool false] [(0,2),(2,1),(3,1),(4,1),(5,1),(6,1),(7,1)]:=BT_of (fs:=[_,_,_,_,_,_,_]) Tryz.zeroValue116 rfl Tryz.underlying116 ⟨rfl,Tryz.sizeOf35,rfl,Tryz.sizeOf9,rfl,Tryz.sizeOf41,rfl,Tryz.sizeOf3,rfl,Tryz.sizeOf3,rfl,Tryz.sizeOf3,rfl,Tryz.sizeOf4,trivial⟩
theorem bt130:BT Tryz.prog 130 [.int .i64 0,.string ⟨#[]⟩,.bool false,.int .i64 0,.slice none 0 0,.slice none 0 0] [(0,2),(2,1),(3,1),(4,1),(5,1)]:=BT_of (fs:=[_,_,_,_,_]) Tryz.zeroValue130 rfl Tryz.underlying130 ⟨rfl,Tryz.sizeOf35,rfl,Tryz.sizeOf4,rfl,Tryz.sizeOf3,rfl,Tryz.sizeOf41,rfl,Tryz.sizeOf63,trivial⟩
theorem bt135:BT Tryz.prog 135 [.pointer none,.int .i64 0,.slice none 0 0,.slice none 0 0,.map none,.slice none 0 0,.int .i64 0] [(0,1),(1,3),(4,1),(5,1),(6,1)]:=BT_of (fs:=[_,_,_,_,_]) Tryz.zeroValue135 rfl Tryz.underlying135 ⟨rfl,Tryz.sizeOf125,rfl,Tryz.sizeOf31,rfl,Tryz.sizeOf67,rfl,Tryz.sizeOf41,rfl,Tryz.sizeOf38,trivial⟩
theorem bt157:BT Tryz.prog 157 [.slice none 0 0,.int .i64 0,.slice none 0 0,.slice none 0 0,.map none,.map none] [(0,1),(1,3),(4,1),(5,1)]:=BT_of (fs:=[_,_,_,_]) Tryz.zeroValue157 rfl Tryz.underlying157 ⟨rfl,Tryz.sizeOf27,rfl,Tryz.sizeOf31,rfl,Tryz.sizeOf106,rfl,Tryz.sizeOf155,trivial⟩
theorem bt199:BT Tryz.prog 199 [.int .i64 0,.string ⟨#[]⟩,.int .i64 0,.string ⟨#[]⟩] [(0,2),(2,2)]:=BT_of (fs:=[_,_]) Tryz.zeroValue199 rfl Tryz.underlying199 ⟨rfl,Tryz.sizeOf35,rfl,Tryz.sizeOf35,trivial⟩
theorem bt239:BT Tryz.prog 239 [.string ⟨#[]⟩,.string ⟨#[]⟩,.nilIface] [(0,1),(1,1),(2,1)]:=BT_of (fs:=[_,_,_]) Tryz.zeroValue239 rfl Tryz.underlying239 ⟨rfl,Tryz.sizeOf9,rfl,Tryz.sizeOf9,rfl,Tryz.sizeOf168,trivial⟩
theorem kk35:KK Tryz.prog 35 Key.val:=KK_key Tryz.underlying35 keyt35 (check_key Tryz.underlying35 rfl rfl rfl rfl Tryz.underlying3 Tryz.underlying9 Tryz.isAgg3 Tryz.isAgg9)
theorem nif168:∃ms,Tryz.prog.underlying 168=some (.interface ms):=⟨_,Tryz.underlying168⟩
theorem one3:One Tryz.prog 3:=Tryz.isAgg3
theorem one4:One Tryz.prog 4:=Tryz.isAgg4
theorem one9:One Tryz.prog 9:=Tryz.isAgg9
theorem one22:One Tryz.prog 22:=Tryz.isAgg22
theorem one27:One Tryz.prog 27:=Tryz.isAgg27
theorem one28:One Tryz.prog 28:=Tryz.isAgg28
theorem one29:One Tryz.prog 29:=Tryz.isAgg29
theorem one38:One Tryz.prog 38:=Tryz.isAgg38
theorem one41:One Tryz.prog 41:=Tryz.isAgg41
theorem one54:One Tryz.prog 54:=Tryz.isAgg54
theorem one63:One Tryz.prog 63:=Tryz.isAgg63
theorem one67:One Tryz.prog 67:=Tryz.isAgg67
theorem one77:One Tryz.prog 77:=Tryz.isAgg77
theorem one92:One Tryz.prog 92:=Tryz.isAgg92
theorem one106:One Tryz.prog 106:=Tryz.isAgg106
theorem one125:One Tryz.prog 125:=Tryz.isAgg125
theorem one168:One Tryz.prog 168:=Tryz.isAgg168
theorem sl22:SlT Tryz.prog 22 3 1:=⟨Tryz.underlying22,Tryz.sizeOf3⟩
theorem sl27:SlT Tryz.prog 27 56 4:=⟨Tryz.underlying27,Tryz.sizeOf56⟩
theorem sl28:SlT Tryz.prog 28 86 4:=⟨Tryz.underlying28,Tryz.sizeOf86⟩
theorem sl29:SlT Tryz.prog 29 116 8:=⟨Tryz.underlying29,Tryz.sizeOf116⟩
theorem sl41:SlT Tryz.prog 41 35 2:=⟨Tryz.underlying41,Tryz.sizeOf35⟩
theorem sl50:SlT Tryz.prog 50 49 3:=⟨Tryz.underlying50,Tryz.sizeOf49⟩
theorem sl54:SlT Tryz.prog 54 61 4:=⟨Tryz.underlying54,Tryz.sizeOf61⟩
theorem sl63:SlT Tryz.prog 63 9 1:=⟨Tryz.underlying63,Tryz.sizeOf9⟩
theorem sl92:SlT Tryz.prog 92 130 6:=⟨Tryz.underlying92,Tryz.sizeOf130⟩
theorem sl149:SlT Tryz.prog 149 5 1:=⟨Tryz.underlying149,Tryz.sizeOf5⟩
theorem sl188:SlT Tryz.prog 188 199 4:=⟨Tryz.underlying188,Tryz.sizeOf199⟩
theorem so35:∀w,(sizeOf 35).run Tryz.prog w=.ok 2 w:=Tryz.sizeOf35
theorem sz3:(Tryz.prog.info? 3).map (·.size)=some 1:=by kernel_rfl
theorem sz4:(Tryz.prog.info? 4).map (·.size)=some 1:=by kernel_rfl
theorem sz28:(Tryz.prog.info? 28).map (·.size)=some 1:=by kernel_rfl
theorem sz29:(Tryz.prog.info? 29).map (·.size)=some 1:=by kernel_rfl
theorem sz31:(Tryz.prog.info? 31).map (·.size)=some 3:=by kernel_rfl
theorem sz35:(Tryz.prog.info? 35).map (·.size)=some 2:=by kernel_rfl
theorem sz38:(Tryz.prog.info? 38).map (·.size)=some 1:=by kernel_rfl
theorem sz41:(Tryz.prog.info? 41).map (·.size)=some 1:=by kernel_rfl
theorem sz49:(Tryz.prog.info? 49).map (·.size)=some 3:=by kernel_rfl
theorem sz54:(Tryz.prog.info? 54).map (·.size)=some 1:=by kernel_rfl
theorem sz56:(Tryz.prog.info? 56).map (·.size)=some 4:=by kernel_rfl
theorem sz61:(Tryz.prog.info? 61).map (·.size)=some 4:=by kernel_rfl
theorem sz63:(Tryz.prog.info? 63).map (·.size)=some 1:=by kernel_rfl
theorem sz65:(Tryz.prog.info? 65).map (·.size)=some 4:=by kernel_rfl
theorem sz86:(Tryz.prog.info? 86).map (·.size)=some 4:=by kernel_rfl
theorem sz92:(Tryz.prog.info? 92).map (·.size)=some 1:=by kernel_rfl
theorem sz94:(Tryz.prog.info? 94).map (·.size)=some 7:=by kernel_rfl
theorem sz106:(Tryz.prog.info? 106).map (·.size)=some 1:=by kernel_rfl
theorem sz116:(Tryz.prog.info? 116).map (·.size)=some 8:=by kernel_rfl
theorem sz130:(Tryz.prog.info? 130).map (·.size)=some 6:=by kernel_rfl
theorem sz199:(Tryz.prog.info? 199).map (·.size)=some 4:=by kernel_rfl
theorem und3:Tryz.prog.underlying 3=some (.int .i64):=Tryz.underlying3
theorem und5:Tryz.prog.underlying 5=some (.int .u8):=Tryz.underlying5
theorem und9:Tryz.prog.underlying 9=some (.string):=Tryz.underlying9
theorem und41:Tryz.prog.underlying 41=some (.slice 35):=Tryz.underlying41
theorem und67:Tryz.prog.underlying 67=some (.map 35 4):=Tryz.underlying67
theorem und106:Tryz.prog.underlying 106=some (.map 35 9):=Tryz.underlying106
theorem zv4:ZV Tryz.prog 4 [.bool false]:=⟨_,Tryz.zeroValue4,rfl⟩
theorem zv31:ZV Tryz.prog 31 [.int .i64 0,.slice none 0 0,.slice none 0 0]:=⟨_,Tryz.zeroValue31,rfl⟩
theorem zv35:ZV Tryz.prog 35 [.int .i64 0,.string ⟨#[]⟩]:=⟨_,Tryz.zeroValue35,rfl⟩
theorem zv41:ZV Tryz.prog 41 [.slice none 0 0]:=⟨_,Tryz.zeroValue41,rfl⟩
theorem zv49:ZV Tryz.prog 49 [.int .i64 0,.string ⟨#[]⟩,.string ⟨#[]⟩]:=⟨_,Tryz.zeroValue49,rfl⟩
theorem zv56:ZV Tryz.prog 56 [.bool false,.slice none 0 0,.int .i64 0,.int .i64 0]:=⟨_,Tryz.zeroValue56,rfl⟩
theorem zv61:ZV Tryz.prog 61 [.bool false,.bool false,.int .i64 0,.int .i64 0]:=⟨_,Tryz.zeroValue61,rfl⟩
theorem zv65:ZV Tryz.prog 65 [.bool false,.string ⟨#[]⟩,.int .i64 0,.string ⟨#[]⟩]:=⟨_,Tryz.zeroValue65,rfl⟩
theorem zv86:ZV Tryz.prog 86 [.int .i64 0,.string ⟨#[]⟩,.string ⟨#[]⟩,.int .i64 0]:=⟨_,Tryz.zeroValue86,rfl⟩
theorem zv94:ZV Tryz.prog 94 [.slice none 0 0,.int .i64 0,.slice none 0 0,.slice none 0 0,.slice none 0 0,.slice none 0 0,.slice none 0 0]:=⟨_,Tryz.zeroValue94,rfl⟩
theorem zv106:ZV Tryz.prog 106 [.map none]:=⟨_,Tryz.zeroValue106,rfl⟩
theorem zv116:ZV Tryz.prog 116 [.int .i64 0,.string ⟨#[]⟩,.string ⟨#[]⟩,.slice none 0 0,.int .i64 0,.int .i64 0,.int .i64 0,.bool false]:=⟨_,Tryz.zeroValue116,rfl⟩
theorem zv130:ZV Tryz.prog 130 [.int .i64 0,.string ⟨#[]⟩,.bool false,.int .i64 0,.slice none 0 0,.slice none 0 0]:=⟨_,Tryz.zeroValue130,rfl⟩
theorem zv199:ZV Tryz.prog 199 [.int .i64 0,.string ⟨#[]⟩,.int .i64 0,.string ⟨#[]⟩]:=⟨_,Tryz.zeroValue199,rfl⟩
theorem zvv4:∀w,(zeroValue 4).run Tryz.prog w=.ok (.bool false) w:=Tryz.zeroValue4
theorem zvv9:∀w,(zeroValue 9).run Tryz.prog w=.ok (.string ⟨#[]⟩) w:=Tryz.zeroValue9
theorem fa31_0:FA Tryz.prog 31 0 0:=FA_of Tryz.underlying31 rfl Tryz.sizeOf3 (by decide) rfl
theorem fa31_1:FA Tryz.prog 31 1 1:=FA_of Tryz.underlying31 rfl Tryz.sizeOf28 (by decide) rfl
theorem fa31_2:FA Tryz.prog 31 2 2:=FA_of Tryz.underlying31 rfl Tryz.sizeOf29 (by decide) rfl
theorem fa35_0:FA Tryz.prog 35 0 0:=FA_of Tryz.underlying35 rfl Tryz.sizeOf3 (by decide) rfl
theorem fa35_1:FA Tryz.prog 35 1 1:=FA_of Tryz.underlying35 rfl Tryz.sizeOf9 (by decide) rfl
theorem fa49_0:FA Tryz.prog 49 0 0:=FA_of Tryz.underlying49 rfl Tryz.sizeOf35 (by decide) rfl
theorem fa49_1:FA Tryz.prog 49 1 2:=FA_of Tryz.underlying49 rfl Tryz.sizeOf9 (by decide) rfl
theorem fa56_0:FA Tryz.prog 56 0 0:=FA_of Tryz.underlying56 rfl Tryz.sizeOf4 (by decide) rfl
theorem fa56_1:FA Tryz.prog 56 1 1:=FA_of Tryz.underlying56 rfl Tryz.sizeOf54 (by decide) rfl
theorem fa56_2:FA Tryz.prog 56 2 2:=FA_of Tryz.underlying56 rfl Tryz.sizeOf3 (by decide) rfl
theorem fa56_3:FA Tryz.prog 56 3 3:=FA_of Tryz.underlying56 rfl Tryz.sizeOf3 (by decide) rfl
theorem fa61_0:FA Tryz.prog 61 0 0:=FA_of Tryz.underlying61 rfl Tryz.sizeOf4 (by decide) rfl
theorem fa61_1:FA Tryz.prog 61 1 1:=FA_of Tryz.underlying61 rfl Tryz.sizeOf4 (by decide) rfl
theorem fa61_2:FA Tryz.prog 61 2 2:=FA_of Tryz.underlying61 rfl Tryz.sizeOf3 (by decide) rfl
theorem fa61_3:FA Tryz.prog 61 3 3:=FA_of Tryz.underlying61 rfl Tryz.sizeOf3 (by decide) rfl
theorem fa65_0:FA Tryz.prog 65 0 0:=FA_of Tryz.underlying65 rfl Tryz.sizeOf4 (by decide) rfl
theorem fa65_1:FA Tryz.prog 65 1 1:=FA_of Tryz.underlying65 rfl Tryz.sizeOf9 (by decide) rfl
theorem fa65_2:FA Tryz.prog 65 2 2:=FA_of Tryz.underlying65 rfl Tryz.sizeOf35 (by decide) rfl
theorem fa72_0:FA Tryz.prog 72 0 0:=FA_of Tryz.underlying72 rfl Tryz.sizeOf22 (by decide) rfl
theorem fa72_1:FA Tryz.prog 72 1 1:=FA_of Tryz.underlying72 rfl Tryz.sizeOf3 (by decide) rfl
theorem fa86_0:FA Tryz.prog 86 0 0:=FA_of Tryz.underlying86 rfl Tryz.sizeOf35 (by decide) rfl
theorem fa86_1:FA Tryz.prog 86 1 2:=FA_of Tryz.underlying86 rfl Tryz.sizeOf9 (by decide) rfl
theorem fa86_2:FA Tryz.prog 86 2 3:=FA_of Tryz.underlying86 rfl Tryz.sizeOf3 (by decide) rfl
theorem fa94_0:FA Tryz.prog 94 0 0:=FA_of Tryz.underlying94 rfl Tryz.sizeOf27 (by decide) rfl
theorem fa94_1:FA Tryz.prog 94 1 1:=FA_of Tryz.underlying94 rfl Tryz.sizeOf31 (by decide) rfl
theorem fa94_2:FA Tryz.prog 94 2 4:=FA_of Tryz.underlying94 rfl Tryz.sizeOf41 (by decide) rfl
theorem fa94_3:FA Tryz.prog 94 3 5:=FA_of Tryz.underlying94 rfl Tryz.sizeOf92 (by decide) rfl
theorem fa94_4:FA Tryz.prog 94 4 6:=FA_of Tryz.underlying94 rfl Tryz.sizeOf41 (by decide) rfl
theorem fa108_0:FA Tryz.prog 108 0 0:=FA_of Tryz.underlying108 rfl Tryz.sizeOf27 (by decide) rfl
theorem fa108_1:FA Tryz.prog 108 1 1:=FA_of Tryz.underlying108 rfl Tryz.sizeOf31 (by decide) rfl
theorem fa108_2:FA Tryz.prog 108 2 4:=FA_of Tryz.underlying108 rfl Tryz.sizeOf106 (by decide) rfl
theorem fa108_3:FA Tryz.prog 108 3 5:=FA_of Tryz.underlying108 rfl Tryz.sizeOf67 (by decide) rfl
theorem fa116_0:FA Tryz.prog 116 0 0:=FA_of Tryz.underlying116 rfl Tryz.sizeOf35 (by decide) rfl
theorem fa116_1:FA Tryz.prog 116 1 2:=FA_of Tryz.underlying116 rfl Tryz.sizeOf9 (by decide) rfl
theorem fa116_2:FA Tryz.prog 116 2 3:=FA_of Tryz.underlying116 rfl Tryz.sizeOf41 (by decide) rfl
theorem fa116_3:FA Tryz.prog 116 3 4:=FA_of Tryz.underlying116 rfl Tryz.sizeOf3 (by decide) rfl
theorem fa116_4:FA Tryz.prog 116 4 5:=FA_of Tryz.underlying116 rfl Tryz.sizeOf3 (by decide) rfl
theorem fa116_5:FA Tryz.prog 116 5 6:=FA_of Tryz.underlying116 rfl Tryz.sizeOf3 (by decide) rfl
theorem fa116_6:FA Tryz.prog 116 6 7:=FA_of Tryz.underlying116 rfl Tryz.sizeOf4 (by decide) rfl
theorem fa130_0:FA Tryz.prog 130 0 0:=FA_of Tryz.underlying130 rfl Tryz.sizeOf35 (by decide) rfl
theorem fa130_1:FA Tryz.prog 130 1 2:=FA_of Tryz.underlying130 rfl Tryz.sizeOf4 (by decide) rfl
theorem fa130_2:FA Tryz.prog 130 2 3:=FA_of Tryz.underlying130 rfl Tryz.sizeOf3 (by decide) rfl
theorem fa130_3:FA Tryz.prog 130 3 4:=FA_of Tryz.underlying130 rfl Tryz.sizeOf41 (by decide) rfl
theorem fa130_4:FA Tryz.prog 130 4 5:=FA_of Tryz.underlying130 rfl Tryz.sizeOf63 (by decide) rfl
theorem fa135_0:FA Tryz.prog 135 0 0:=FA_of Tryz.underlying135 rfl Tryz.sizeOf125 (by decide) rfl
theorem fa135_1:FA Tryz.prog 135 1 1:=FA_of Tryz.underlying135 rfl Tryz.sizeOf31 (by decide) rfl
theorem fa135_2:FA Tryz.prog 135 2 4:=FA_of Tryz.underlying135 rfl Tryz.sizeOf67 (by decide) rfl
theorem fa135_3:FA Tryz.prog 135 3 5:=FA_of Tryz.underlying135 rfl Tryz.sizeOf41 (by decide) rfl
theorem fa135_4:FA Tryz.prog 135 4 6:=FA_of Tryz.underlying135 rfl Tryz.sizeOf38 (by decide) rfl
theorem fa157_0:FA Tryz.prog 157 0 0:=FA_of Tryz.underlying157 rfl Tryz.sizeOf27 (by decide) rfl
theorem fa157_1:FA Tryz.prog 157 1 1:=FA_of Tryz.underlying157 rfl Tryz.sizeOf31 (by decide) rfl
theorem fa157_2:FA Tryz.prog 157 2 4:=FA_of Tryz.underlying157 rfl Tryz.sizeOf106 (by decide) rfl
theorem fa199_0:FA Tryz.prog 199 0 0:=FA_of Tryz.underlying199 rfl Tryz.sizeOf35 (by decide) rfl
theorem fa199_1:FA Tryz.prog 199 1 2:=FA_of Tryz.underlying199 rfl Tryz.sizeOf35 (by decide) rfl
instance:CAP Tryz.prog 188 199 4 48:=⟨ap188⟩
instance:CAP Tryz.prog 22 3 1 8:=⟨ap22⟩
instance:CAP Tryz.prog 27 56 4 48:=⟨ap27⟩
instance:CAP Tryz.prog 28 86 4 48:=⟨ap28⟩
instance:CAP Tryz.prog 29 116 8 96:=⟨ap29⟩
instance:CAP Tryz.prog 41 35 2 24:=⟨ap41⟩
instance:CAP Tryz.prog 50 49 3 40:=⟨ap50⟩
instance:CAP Tryz.prog 54 61 4 24:=⟨ap54⟩
instance:CAP Tryz.prog 63 9 1 16:=⟨ap63⟩
instance:CAP Tryz.prog 92 130 6 88:=⟨ap92⟩
instance:CBT Tryz.prog 116 [.int .i64 0,.string ⟨#[]⟩,.string ⟨#[]⟩,.slice none 0 0,.int .i64 0,.int .i64 0,.int .i64 0,.bool false] [(0,2),(2,1),(3,1),(4,1),(5,1),(6,1),(7,1)]:=⟨bt116⟩
instance:CBT Tryz.prog 35 [.int .i64 0,.string ⟨#[]⟩] [(0,1),(1,1)]:=⟨bt35⟩
instance:CBT Tryz.prog 86 [.int .i64 0,.string ⟨#[]⟩,.string ⟨#[]⟩,.int .i64 0] [(0,2),(2,1),(3,1)]:=⟨bt86⟩
instance:CFA Tryz.prog 108 0 0:=⟨fa108_0⟩
instance:CFA Tryz.prog 108 1 1:=⟨fa108_1⟩
instance:CFA Tryz.prog 108 2 4:=⟨fa108_2⟩
instance:CFA Tryz.prog 108 3 5:=⟨fa108_3⟩
instance:CFA Tryz.prog 116 0 0:=⟨fa116_0⟩
instance:CFA Tryz.prog 116 1 2:=⟨fa116_1⟩
instance:CFA Tryz.prog 116 2 3:=⟨fa116_2⟩
instance:CFA Tryz.prog 116 3 4:=⟨fa116_3⟩
instance:CFA Tryz.prog 116 4 5:=⟨fa116_4⟩
instance:CFA Tryz.prog 116 5 6:=⟨fa116_5⟩
instance:CFA Tryz.prog 116 6 7:=⟨fa116_6⟩
instance:CFA Tryz.prog 130 0 0:=⟨fa130_0⟩
instance:CFA Tryz.prog 130 1 2:=⟨fa130_1⟩
instance:CFA Tryz.prog 130 2 3:=⟨fa130_2⟩
instance:CFA Tryz.prog 130 3 4:=⟨fa130_3⟩
instance:CFA Tryz.prog 130 4 5:=⟨fa130_4⟩
instance:CFA Tryz.prog 135 0 0:=⟨fa135_0⟩
instance:CFA Tryz.prog 135 1 1:=⟨fa135_1⟩
instance:CFA Tryz.prog 135 2 4:=⟨fa135_2⟩
instance:CFA Tryz.prog 135 3 5:=⟨fa135_3⟩
instance:CFA Tryz.prog 135 4 6:=⟨fa135_4⟩
instance:CFA Tryz.prog 157 0 0:=⟨fa157_0⟩
instance:CFA Tryz.prog 157 1 1:=⟨fa157_1⟩
instance:CFA Tryz.prog 157 2 4:=⟨fa157_2⟩
instance:CFA Tryz.prog 199 0 0:=⟨fa199_0⟩
instance:CFA Tryz.prog 199 1 2:=⟨fa199_1⟩
instance:CFA Tryz.prog 31 0 0:=⟨fa31_0⟩
instance:CFA Tryz.prog 31 1 1:=⟨fa31_1⟩
instance:CFA Tryz.prog 31 2 2:=⟨fa31_2⟩
instance:CFA Tryz.prog 35 0 0:=⟨fa35_0⟩
instance:CFA Tryz.prog 35 1 1:=⟨fa35_1⟩
instance:CFA Tryz.prog 49 0 0:=⟨fa49_0⟩
instance:CFA Tryz.prog 49 1 2:=⟨fa49_1⟩
instance:CFA Tryz.prog 56 0 0:=⟨fa56_0⟩
instance:CFA Tryz.prog 56 1 1:=⟨fa56_1⟩
instance:CFA Tryz.prog 56 2 2:=⟨fa56_2⟩
instance:CFA Tryz.prog 56 3 3:=⟨fa56_3⟩
instance:CFA Tryz.prog 61 0 0:=⟨fa61_0⟩
instance:CFA Tryz.prog 61 1 1:=⟨fa61_1⟩
instance:CFA Tryz.prog 61 2 2:=⟨fa61_2⟩
instance:CFA Tryz.prog 61 3 3:=⟨fa61_3⟩
instance:CFA Tryz.prog 65 0 0:=⟨fa65_0⟩
instance:CFA Tryz.prog 65 1 1:=⟨fa65_1⟩
instance:CFA Tryz.prog 65 2 2:=⟨fa65_2⟩
instance:CFA Tryz.prog 86 0 0:=⟨fa86_0⟩
instance:CFA Tryz.prog 86 1 2:=⟨fa86_1⟩
instance:CFA Tryz.prog 86 2 3:=⟨fa86_2⟩
instance:CFA Tryz.prog 94 0 0:=⟨fa94_0⟩
instance:CFA Tryz.prog 94 1 1:=⟨fa94_1⟩
instance:CFA Tryz.prog 94 2 4:=⟨fa94_2⟩
instance:CFA Tryz.prog 94 3 5:=⟨fa94_3⟩
instance:CFA Tryz.prog 94 4 6:=⟨fa94_4⟩
instance:CSl Tryz.prog 149 5 1:=⟨sl149⟩
instance:CSl Tryz.prog 188 199 4:=⟨sl188⟩
instance:CSl Tryz.prog 22 3 1:=⟨sl22⟩
instance:CSl Tryz.prog 27 56 4:=⟨sl27⟩
instance:CSl Tryz.prog 28 86 4:=⟨sl28⟩
instance:CSl Tryz.prog 29 116 8:=⟨sl29⟩
instance:CSl Tryz.prog 41 35 2:=⟨sl41⟩
instance:CSl Tryz.prog 50 49 3:=⟨sl50⟩
instance:CSl Tryz.prog 54 61 4:=⟨sl54⟩
instance:CSl Tryz.prog 63 9 1:=⟨sl63⟩
instance:CSl Tryz.prog 92 130 6:=⟨sl92⟩
instance:CSz Tryz.prog 106 1:=⟨sz106⟩
instance:CSz Tryz.prog 28 1:=⟨sz28⟩
instance:CSz Tryz.prog 29 1:=⟨sz29⟩
instance:CSz Tryz.prog 3 1:=⟨sz3⟩
instance:CSz Tryz.prog 38 1:=⟨sz38⟩
instance:CSz Tryz.prog 4 1:=⟨sz4⟩
instance:CSz Tryz.prog 41 1:=⟨sz41⟩
instance:CSz Tryz.prog 54 1:=⟨sz54⟩
instance:CSz Tryz.prog 63 1:=⟨sz63⟩
instance:CSz Tryz.prog 92 1:=⟨sz92⟩
instance:CUnd Tryz.prog 41 (.slice 35):=⟨und41⟩
instance:CUnd Tryz.prog 9 (.string):=⟨und9⟩
instance:CZV Tryz.prog 116 [.int .i64 0,.string ⟨#[]⟩,.string ⟨#[]⟩,.slice none 0 0,.int .i64 0,.int .i64 0,.int .i64 0,.bool false]:=⟨zv116⟩
instance:CZV Tryz.prog 130 [.int .i64 0,.string ⟨#[]⟩,.bool false,.int .i64 0,.slice none 0 0,.slice none 0 0]:=⟨zv130⟩
instance:CZV Tryz.prog 199 [.int .i64 0,.string ⟨#[]⟩,.int .i64 0,.string ⟨#[]⟩]:=⟨zv199⟩
instance:CZV Tryz.prog 31 [.int .i64 0,.slice none 0 0,.slice none 0 0]:=⟨zv31⟩
instance:CZV Tryz.prog 35 [.int .i64 0,.string ⟨#[]⟩]:=⟨zv35⟩
instance:CZV Tryz.prog 4 [.bool false]:=⟨zv4⟩
instance:CZV Tryz.prog 41 [.slice none 0 0]:=⟨zv41⟩
instance:CZV Tryz.prog 49 [.int .i64 0,.string ⟨#[]⟩,.string ⟨#[]⟩]:=⟨zv49⟩
instance:CZV Tryz.prog 56 [.bool false,.slice none 0 0,.int .i64 0,.int .i64 0]:=⟨zv56⟩
instance:CZV Tryz.prog 61 [.bool false,.bool false,.int .i64 0,.int .i64 0]:=⟨zv61⟩
instance:CZV Tryz.prog 65 [.bool false,.string ⟨#[]⟩,.int .i64 0,.string ⟨#[]⟩]:=⟨zv65⟩
instance:CZV Tryz.prog 86 [.int .i64 0,.string ⟨#[]⟩,.string ⟨#[]⟩,.int .i64 0]:=⟨zv86⟩
instance:CZV Tryz.prog 94 [.slice none 0 0,.int .i64 0,.slice none 0 0,.slice none 0 0,.slice none 0 0,.slice none 0 0,.slice none 0 0]:=⟨zv94⟩
theorem cf7:CF Tryz.prog 7:=Tryz.call7
theorem cf8:CF Tryz.prog 8:=Tryz.call8
theorem cf9:CF Tryz.prog 9:=Tryz.call9
theorem cf10:CF Tryz.prog 10:=Tryz.call10
theorem cf11:CF Tryz.prog 11:=Tryz.call11
theorem cf12:CF Tryz.prog 12:=Tryz.call12
theorem cf13:CF Tryz.prog 13:=Tryz.call13
theorem cf14:CF Tryz.prog 14:=Tryz.call14
theorem cf15:CF Tryz.prog 15:=Tryz.call15
theorem cf16:CF Tryz.prog 16:=Tryz.call16
theorem cf17:CF Tryz.prog 17:=Tryz.call17
theorem cf18:CF Tryz.prog 18:=Tryz.call18
theorem cf19:CF Tryz.prog 19:=Tryz.call19
theorem cf20:CF Tryz.prog 20:=Tryz.call20
theorem cf21:CF Tryz.prog 21:=Tryz.call21
theorem cf23:CF Tryz.prog 23:=Tryz.call23
theorem cf24:CF Tryz.prog 24:=Tryz.call24
theorem cf25:CF Tryz.prog 25:=Tryz.call25
theorem cf26:CF Tryz.prog 26:=Tryz.call26
theorem cf27:CF Tryz.prog 27:=Tryz.call27
theorem cf28:CF Tryz.prog 28:=Tryz.call28
theorem cf29:CF Tryz.prog 29:=Tryz.call29
theorem cf30:CF Tryz.prog 30:=Tryz.call30
theorem cf31:CF Tryz.prog 31:=Tryz.call31
theorem cf32:CF Tryz.prog 32:=Tryz.call32
theorem cf33:CF Tryz.prog 33:=Tryz.call33
theorem cf34:CF Tryz.prog 34:=Tryz.call34
theorem cf35:CF Tryz.prog 35:=Tryz.call35
theorem cf36:CF Tryz.prog 36:=Tryz.call36
theorem cf37:CF Tryz.prog 37:=Tryz.call37
theorem cf39:CF Tryz.prog 39:=Tryz.call39
theorem cf40:CF Tryz.prog 40:=Tryz.call40
theorem cf41:CF Tryz.prog 41:=Tryz.call41
theorem cf42:CF Tryz.prog 42:=Tryz.call42
theorem cf43:CF Tryz.prog 43:=Tryz.call43
theorem cf44:CF Tryz.prog 44:=Tryz.call44
theorem cf45:CF Tryz.prog 45:=Tryz.call45
theorem cf46:CF Tryz.prog 46:=Tryz.call46
theorem cf47:CF Tryz.prog 47:=Tryz.call47
theorem cf48:CF Tryz.prog 48:=Tryz.call48
theorem cf49:CF Tryz.prog 49:=Tryz.call49
theorem cf50:CF Tryz.prog 50:=Tryz.call50
theorem cf51:CF Tryz.prog 51:=Tryz.call51
theorem cf52:CF Tryz.prog 52:=Tryz.call52
theorem cf53:CF Tryz.prog 53:=Tryz.call53
theorem cf54:CF Tryz.prog 54:=Tryz.call54
theorem cf55:CF Tryz.prog 55:=Tryz.call55
theorem cf56:CF Tryz.prog 56:=Tryz.call56
theorem cf57:CF Tryz.prog 57:=Tryz.call57
theorem cf58:CF Tryz.prog 58:=Tryz.call58
theorem cf59:CF Tryz.prog 59:=Tryz.call59
theorem cf60:CF Tryz.prog 60:=Tryz.call60
theorem cf61:CF Tryz.prog 61:=Tryz.call61
theorem cf62:CF Tryz.prog 62:=Tryz.call62
theorem cf63:CF Tryz.prog 63:=Tryz.call63
theorem cf64:CF Tryz.prog 64:=Tryz.call64
theorem cf65:CF Tryz.prog 65:=Tryz.call65
theorem cf68:CF Tryz.prog 68:=Tryz.call68
theorem cf69:CF Tryz.prog 69:=Tryz.call69
theorem cf70:CF Tryz.prog 70:=Tryz.call70
theorem cf71:CF Tryz.prog 71:=Tryz.call71
theorem cf72:CF Tryz.prog 72:=Tryz.call72
theorem cf73:CF Tryz.prog 73:=Tryz.call73
theorem cf74:CF Tryz.prog 74:=Tryz.call74
theorem cf75:CF Tryz.prog 75:=Tryz.call75
theorem cf76:CF Tryz.prog 76:=Tryz.call76
theorem cf77:CF Tryz.prog 77:=Tryz.call77
theorem cf78:CF Tryz.prog 78:=Tryz.call78
theorem cf79:CF Tryz.prog 79:=Tryz.call79
theorem cf80:CF Tryz.prog 80:=Tryz.call80
theorem cf81:CF Tryz.prog 81:=Tryz.call81
theorem cf82:CF Tryz.prog 82:=Tryz.call82
theorem cf83:CF Tryz.prog 83:=Tryz.call83
theorem cf84:CF Tryz.prog 84:=Tryz.call84
theorem cf85:CF Tryz.prog 85:=Tryz.call85
theorem cf86:CF Tryz.prog 86:=Tryz.call86
theorem cf87:CF Tryz.prog 87:=Tryz.call87
theorem cf88:CF Tryz.prog 88:=Tryz.call88
theorem cf89:CF Tryz.prog 89:=Tryz.call89
theorem cf90:CF Tryz.prog 90:=Tryz.call90
theorem cf91:CF Tryz.prog 91:=Tryz.call91
theorem cf93:CF Tryz.prog 93:=Tryz.call93
theorem cf94:CF Tryz.prog 94:=Tryz.call94
theorem cf95:CF Tryz.prog 95:=Tryz.call95
theorem cf98:CF Tryz.prog 98:=Tryz.call98
theorem cf99:CF Tryz.prog 99:=Tryz.call99
theorem cf100:CF Tryz.prog 100:=Tryz.call100
theorem cf101:CF Tryz.prog 101:=Tryz.call101
theorem cf107:CF Tryz.prog 107:=Tryz.call107
theorem cf108:CF Tryz.prog 108:=Tryz.call108
theorem cf109:CF Tryz.prog 109:=Tryz.call109
theorem cf110:CF Tryz.prog 110:=Tryz.call110
theorem cf111:CF Tryz.prog 111:=Tryz.call111
theorem cf112:CF Tryz.prog 112:=Tryz.call112
theorem cf113:CF Tryz.prog 113:=Tryz.call113
theorem cf114:CF Tryz.prog 114:=Tryz.call114
theorem cf115:CF Tryz.prog 115:=Tryz.call115
theorem cf116:CF Tryz.prog 116:=Tryz.call116
theorem cf117:CF Tryz.prog 117:=Tryz.call117
theorem cf118:CF Tryz.prog 118:=Tryz.call118
theorem cf119:CF Tryz.prog 119:=Tryz.call119
theorem cf120:CF Tryz.prog 120:=Tryz.call120
theorem cf121:CF Tryz.prog 121:=Tryz.call121
theorem cf122:CF Tryz.prog 122:=Tryz.call122
theorem cf123:CF Tryz.prog 123:=Tryz.call123
theorem cf124:CF Tryz.prog 124:=Tryz.call124
theorem cf125:CF Tryz.prog 125:=Tryz.call125
theorem cf126:CF Tryz.prog 126:=Tryz.call126
theorem cf128:CF Tryz.prog 128:=Tryz.call128
theorem cf140:CF Tryz.prog 140:=Tryz.call140
theorem cf145:CF Tryz.prog 145:=Tryz.call145
theorem cf146:CF Tryz.prog 146:=Tryz.call146
theorem cf147:CF Tryz.prog 147:=Tryz.call147
theorem cf148:CF Tryz.prog 148:=Tryz.call148
theorem cf149:CF Tryz.prog 149:=Tryz.call149
theorem cf150:CF Tryz.prog 150:=Tryz.call150
theorem cf151:CF Tryz.prog 151:=Tryz.call151
theorem cf152:CF Tryz.prog 152:=Tryz.call152
theorem cf153:CF Tryz.prog 153:=Tryz.call153
theorem cf154:CF Tryz.prog 154:=Tryz.call154
theorem cf155:CF Tryz.prog 155:=Tryz.call155
theorem cf156:CF Tryz.prog 156:=Tryz.call156
theorem cf157:CF Tryz.prog 157:=Tryz.call157
theorem cf158:CF Tryz.prog 158:=Tryz.call158
theorem cf159:CF Tryz.prog 159:=Tryz.call159
theorem cf160:CF Tryz.prog 160:=Tryz.call160
theorem cf161:CF Tryz.prog 161:=Tryz.call161
theorem cf162:CF Tryz.prog 162:=Tryz.call162
theorem cf163:CF Tryz.prog 163:=Tryz.call163
theorem cf164:CF Tryz.prog 164:=Tryz.call164
theorem cf165:CF Tryz.prog 165:=Tryz.call165
theorem cf176:CF Tryz.prog 176:=Tryz.call176
theorem cf177:CF Tryz.prog 177:=Tryz.call177
theorem cf179:CF Tryz.prog 179:=Tryz.call179
theorem cf180:CF Tryz.prog 180:=Tryz.call180
theorem cf181:CF Tryz.prog 181:=Tryz.call181
theorem cf182:CF Tryz.prog 182:=Tryz.call182
theorem cf184:CF Tryz.prog 184:=Tryz.call184
theorem cf185:CF Tryz.prog 185:=Tryz.call185
theorem cf205:CF Tryz.prog 205:=Tryz.call205
theorem cf207:CF Tryz.prog 207:=Tryz.call207
theorem cf310:CF Tryz.prog 310:=Tryz.call310
theorem cf512:CF Tryz.prog 512:=Tryz.call512
instance:CCF Tryz.prog 7:=⟨cf7⟩
instance:CCF Tryz.prog 11:=⟨cf11⟩
instance:CCF Tryz.prog 12:=⟨cf12⟩
instance:CCF Tryz.prog 15:=⟨cf15⟩
instance:CCF Tryz.prog 17:=⟨cf17⟩
instance:CCF Tryz.prog 18:=⟨cf18⟩
instance:CCF Tryz.prog 19:=⟨cf19⟩
instance:CCF Tryz.prog 20:=⟨cf20⟩
instance:CCF Tryz.prog 21:=⟨cf21⟩
instance:CCF Tryz.prog 23:=⟨cf23⟩
instance:CCF Tryz.prog 24:=⟨cf24⟩
instance:CCF Tryz.prog 25:=⟨cf25⟩
instance:CCF Tryz.prog 30:=⟨cf30⟩
instance:CCF Tryz.prog 37:=⟨cf37⟩
instance:CCF Tryz.prog 42:=⟨cf42⟩
instance:CCF Tryz.prog 51:=⟨cf51⟩
instance:CCF Tryz.prog 52:=⟨cf52⟩
instance:CCF Tryz.prog 53:=⟨cf53⟩
instance:CCF Tryz.prog 54:=⟨cf54⟩
instance:CCF Tryz.prog 55:=⟨cf55⟩
instance:CCF Tryz.prog 56:=⟨cf56⟩
instance:CCF Tryz.prog 58:=⟨cf58⟩
instance:CCF Tryz.prog 61:=⟨cf61⟩
instance:CCF Tryz.prog 62:=⟨cf62⟩
instance:CCF Tryz.prog 75:=⟨cf75⟩
instance:CCF Tryz.prog 81:=⟨cf81⟩
instance:CCF Tryz.prog 82:=⟨cf82⟩
instance:CCF Tryz.prog 83:=⟨cf83⟩
instance:CCF Tryz.prog 84:=⟨cf84⟩
instance:CCF Tryz.prog 86:=⟨cf86⟩
instance:CCF Tryz.prog 87:=⟨cf87⟩
instance:CCF Tryz.prog 88:=⟨cf88⟩
instance:CCF Tryz.prog 89:=⟨cf89⟩
instance:CCF Tryz.prog 95:=⟨cf95⟩
instance:CCF Tryz.prog 98:=⟨cf98⟩
instance:CCF Tryz.prog 99:=⟨cf99⟩
instance:CCF Tryz.prog 112:=⟨cf112⟩
instance:CCF Tryz.prog 116:=⟨cf116⟩
instance:CCF Tryz.prog 120:=⟨cf120⟩
instance:CCF Tryz.prog 121:=⟨cf121⟩
instance:CCF Tryz.prog 124:=⟨cf124⟩
instance:CCF Tryz.prog 128:=⟨cf128⟩
instance:CCF Tryz.prog 140:=⟨cf140⟩
instance:CCF Tryz.prog 149:=⟨cf149⟩
instance:CCF Tryz.prog 151:=⟨cf151⟩
instance:CCF Tryz.prog 152:=⟨cf152⟩
instance:CCF Tryz.prog 156:=⟨cf156⟩
instance:CCF Tryz.prog 158:=⟨cf158⟩
instance:CCF Tryz.prog 160:=⟨cf160⟩
instance:CCF Tryz.prog 163:=⟨cf163⟩
instance:CCF Tryz.prog 164:=⟨cf164⟩
instance:CCF Tryz.prog 165:=⟨cf165⟩
instance:CCF Tryz.prog 176:=⟨cf176⟩
instance:CCF Tryz.prog 180:=⟨cf180⟩
instance:CCF Tryz.prog 181:=⟨cf181⟩
instance:CCF Tryz.prog 182:=⟨cf182⟩
instance:CCF Tryz.prog 207:=⟨cf207⟩
instance:CCF Tryz.prog 310:=⟨cf310⟩
end Go.Rc

