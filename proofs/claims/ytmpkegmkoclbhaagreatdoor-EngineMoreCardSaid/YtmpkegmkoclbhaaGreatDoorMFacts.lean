/- Walks over the program, part Facts. Conditions: as each theorem says. -/
import Derived.Test.YtmpkegmkoclbhaaGreatDoorProg
import Derived.Test.YtmpkegmkoclbhaaGreatDoorMBd
set_option linter.all false
namespace Go.Rc
open Go Go.Proofs Go.Proofs.Tryz
theorem mixed:prog.follows .mixedOrders=true:=by kernel_rfl
theorem fK:Ha prog 40:=L5 underlying40 rfl rfl rfl rfl (by decide) (by decide) underlying3 underlying9 isAgg3 isAgg9 (by kernel_rfl) (by kernel_rfl)
theorem aM:tj prog 31 3:=⟨⟨_,underlying31⟩,by kernel_rfl⟩
theorem ao:tj prog 40 2:=⟨⟨_,underlying40⟩,by kernel_rfl⟩
theorem Cd:tj prog 49 3:=⟨⟨_,underlying49⟩,by kernel_rfl⟩
theorem ks:tj prog 78 4:=⟨⟨_,underlying78⟩,by kernel_rfl⟩
theorem oQ:tj prog 81 4:=⟨⟨_,underlying81⟩,by kernel_rfl⟩
theorem sQ:tj prog 84 4:=⟨⟨_,underlying84⟩,by kernel_rfl⟩
theorem cV:tj prog 88 8:=⟨⟨_,underlying88⟩,by kernel_rfl⟩
theorem fW:tj prog 95 7:=⟨⟨_,underlying95⟩,by kernel_rfl⟩
theorem nJ:tj prog 115 6:=⟨⟨_,underlying115⟩,by kernel_rfl⟩
theorem iP:tj prog 152 4:=⟨⟨_,underlying152⟩,by kernel_rfl⟩
theorem zn:tj prog 160 4:=⟨⟨_,underlying160⟩,by kernel_rfl⟩
theorem adg:AP prog 22 3 1 8:=oJ (z:=.int .i64 0) underlying22 (by kernel_rfl) (by kernel_rfl) (by decide)
theorem adh:AP prog 27 84 4 48:=oJ (z:=.agg #[.bool false,.slice none 0 0,.int .i64 0,.int .i64 0]) underlying27 (by kernel_rfl) (by kernel_rfl) (by decide)
theorem adi:AP prog 28 78 4 48:=oJ (z:=.agg #[.int .i64 0,.string ⟨#[]⟩,.string ⟨#[]⟩,.int .i64 0]) underlying28 (by kernel_rfl) (by kernel_rfl) (by decide)
theorem RU:AP prog 29 88 8 96:=oJ (z:=.agg #[.int .i64 0,.string ⟨#[]⟩,.string ⟨#[]⟩,.slice none 0 0,.int .i64 0,.int .i64 0,.int .i64 0,.bool false]) underlying29 (by kernel_rfl) (by kernel_rfl) (by decide)
theorem kX:AP prog 34 40 2 24:=oJ (z:=.agg #[.int .i64 0,.string ⟨#[]⟩]) underlying34 (by kernel_rfl) (by kernel_rfl) (by decide)
theorem adj:AP prog 50 49 3 40:=oJ (z:=.agg #[.int .i64 0,.string ⟨#[]⟩,.string ⟨#[]⟩]) underlying50 (by kernel_rfl) (by kernel_rfl) (by decide)
theorem RV:AP prog 65 115 6 88:=oJ (z:=.agg #[.int .i64 0,.string ⟨#[]⟩,.bool false,.int .i64 0,.slice none 0 0,.slice none 0 0]) underlying65 (by kernel_rfl) (by kernel_rfl) (by decide)
theorem adk:AP prog 82 81 4 24:=oJ (z:=.agg #[.bool false,.bool false,.int .i64 0,.int .i64 0]) underlying82 (by kernel_rfl) (by kernel_rfl) (by decide)
theorem Ce:AP prog 113 9 1 16:=oJ (z:=.string ⟨#[]⟩) underlying113 (by kernel_rfl) (by kernel_rfl) (by decide)
theorem WM:AP prog 157 160 4 48:=oJ (z:=.agg #[.int .i64 0,.string ⟨#[]⟩,.int .i64 0,.string ⟨#[]⟩]) underlying157 (by kernel_rfl) (by kernel_rfl) (by decide)
theorem Kf:BS prog 22 3 1 1 [.int .i64 0]:=⟨underlying22,sizeOf3,by decide,by decide,_,zeroValue3,by kernel_rfl⟩
theorem Kg:BS prog 27 84 4 1 [.bool false,.slice none 0 0,.int .i64 0,.int .i64 0]:=⟨underlying27,sizeOf84,by decide,by decide,_,zeroValue84,by kernel_rfl⟩
theorem EU:BS prog 28 78 4 1 [.int .i64 0,.string ⟨#[]⟩,.string ⟨#[]⟩,.int .i64 0]:=⟨underlying28,sizeOf78,by decide,by decide,_,zeroValue78,by kernel_rfl⟩
theorem nK:BS prog 29 88 8 1 [.int .i64 0,.string ⟨#[]⟩,.string ⟨#[]⟩,.slice none 0 0,.int .i64 0,.int .i64 0,.int .i64 0,.bool false]:=⟨underlying29,sizeOf88,by decide,by decide,_,zeroValue88,by kernel_rfl⟩
theorem dx:BS prog 34 40 2 1 [.int .i64 0,.string ⟨#[]⟩]:=⟨underlying34,sizeOf40,by decide,by decide,_,zeroValue40,by kernel_rfl⟩
theorem EV:BS prog 50 49 3 1 [.int .i64 0,.string ⟨#[]⟩,.string ⟨#[]⟩]:=⟨underlying50,sizeOf49,by decide,by decide,_,zeroValue49,by kernel_rfl⟩
theorem rQ:BS prog 65 115 6 1 [.int .i64 0,.string ⟨#[]⟩,.bool false,.int .i64 0,.slice none 0 0,.slice none 0 0]:=⟨underlying65,sizeOf115,by decide,by decide,_,zeroValue115,by kernel_rfl⟩
theorem Kh:BS prog 82 81 4 1 [.bool false,.bool false,.int .i64 0,.int .i64 0]:=⟨underlying82,sizeOf81,by decide,by decide,_,zeroValue81,by kernel_rfl⟩
theorem jq:BS prog 113 9 1 1 [.string ⟨#[]⟩]:=⟨underlying113,sizeOf9,by decide,by decide,_,zeroValue9,by kernel_rfl⟩
theorem GM:BS prog 157 160 4 1 [.int .i64 0,.string ⟨#[]⟩,.int .i64 0,.string ⟨#[]⟩]:=⟨underlying157,sizeOf160,by decide,by decide,_,zeroValue160,by kernel_rfl⟩
theorem Ki:BS prog 113 9 1 10 [.string ⟨#[]⟩,.string ⟨#[]⟩,.string ⟨#[]⟩,.string ⟨#[]⟩,.string ⟨#[]⟩,.string ⟨#[]⟩,.string ⟨#[]⟩,.string ⟨#[]⟩,.string ⟨#[]⟩,.string ⟨#[]⟩]:=⟨underlying113,sizeOf9,by decide,by decide,_,zeroValue9,by kernel_rfl⟩
theorem RW:BS prog 22 3 1 2 [.int .i64 0,.int .i64 0]:=⟨underlying22,sizeOf3,by decide,by decide,_,zeroValue3,by kernel_rfl⟩
theorem RX:BS prog 27 84 4 2 [.bool false,.slice none 0 0,.int .i64 0,.int .i64 0,.bool false,.slice none 0 0,.int .i64 0,.int .i64 0]:=⟨underlying27,sizeOf84,by decide,by decide,_,zeroValue84,by kernel_rfl⟩
theorem RY:BS prog 34 40 2 2 [.int .i64 0,.string ⟨#[]⟩,.int .i64 0,.string ⟨#[]⟩]:=⟨underlying34,sizeOf40,by decide,by decide,_,zeroValue40,by kernel_rfl⟩
theorem RZ:BS prog 82 81 4 2 [.bool false,.bool false,.int .i64 0,.int .i64 0,.bool false,.bool false,.int .i64 0,.int .i64 0]:=⟨underlying82,sizeOf81,by decide,by decide,_,zeroValue81,by kernel_rfl⟩
theorem R0:BS prog 22 3 1 6 [.int .i64 0,.int .i64 0,.int .i64 0,.int .i64 0,.int .i64 0,.int .i64 0]:=⟨underlying22,sizeOf3,by decide,by decide,_,zeroValue3,by kernel_rfl⟩
theorem WN:BT prog 31 [.int .i64 0,.slice none 0 0,.slice none 0 0] [(0,1),(1,1),(2,1)]:=jv (fs:=[_,_,_]) zeroValue31 rfl underlying31 ⟨rfl,sizeOf3,rfl,sizeOf28,rfl,sizeOf29,trivial⟩
theorem Cf:BT prog 40 [.int .i64 0,.string ⟨#[]⟩] [(0,1),(1,1)]:=jv (fs:=[_,_]) zeroValue40 rfl underlying40 ⟨rfl,sizeOf3,rfl,sizeOf9,trivial⟩
theorem R1:BT prog 49 [.int .i64 0,.string ⟨#[]⟩,.string ⟨#[]⟩] [(0,2),(2,1)]:=jv (fs:=[_,_]) zeroValue49 rfl underlying49 ⟨rfl,sizeOf40,rfl,sizeOf9,trivial⟩
theorem adl:BT prog 55 [.slice none 0 0,.int .i64 0] [(0,1),(1,1)]:=jv (fs:=[_,_]) zeroValue55 rfl underlying55 ⟨rfl,sizeOf22,rfl,sizeOf3,trivial⟩
theorem adm:BT prog 74 [.slice none 0 0,.int .i64 0,.slice none 0 0,.slice none 0 0,.map none,.pointer none,.slice none 0 0] [(0,1),(1,3),(4,1),(5,1),(6,1)]:=jv (fs:=[_,_,_,_,_]) zeroValue74 rfl underlying74 ⟨rfl,sizeOf27,rfl,sizeOf31,rfl,sizeOf71,rfl,sizeOf72,rfl,sizeOf34,trivial⟩
theorem MX:BT prog 78 [.int .i64 0,.string ⟨#[]⟩,.string ⟨#[]⟩,.int .i64 0] [(0,2),(2,1),(3,1)]:=jv (fs:=[_,_,_]) zeroValue78 rfl underlying78 ⟨rfl,sizeOf40,rfl,sizeOf9,rfl,sizeOf3,trivial⟩
theorem Kj:BT prog 81 [.bool false,.bool false,.int .i64 0,.int .i64 0] [(0,1),(1,1),(2,1),(3,1)]:=jv (fs:=[_,_,_,_]) zeroValue81 rfl underlying81 ⟨rfl,sizeOf4,rfl,sizeOf4,rfl,sizeOf3,rfl,sizeOf3,trivial⟩
theorem MY:BT prog 84 [.bool false,.slice none 0 0,.int .i64 0,.int .i64 0] [(0,1),(1,1),(2,1),(3,1)]:=jv (fs:=[_,_,_,_]) zeroValue84 rfl underlying84 ⟨rfl,sizeOf4,rfl,sizeOf82,rfl,sizeOf3,rfl,sizeOf3,trivial⟩
theorem MZ:BT prog 88 [.int .i64 0,.string ⟨#[]⟩,.string ⟨#[]⟩,.slice none 0 0,.int .i64 0,.int .i64 0,.int .i64 0,.bool false] [(0,2),(2,1),(3,1),(4,1),(5,1),(6,1),(7,1)]:=jv (fs:=[_,_,_,_,_,_,_]) zeroValue88 rfl underlying88 ⟨rfl,sizeOf40,rfl,sizeOf9,rfl,sizeOf34,rfl,sizeOf3,rfl,sizeOf3,rfl,sizeOf3,rfl,sizeOf4,trivial⟩
theorem WQ:BT prog 95 [.slice none 0 0,.int .i64 0,.slice none 0 0,.slice none 0 0,.slice none 0 0,.slice none 0 0,.slice none 0 0] [(0,1),(1,3),(4,1),(5,1),(6,1)]:=jv (fs:=[_,_,_,_,_]) zeroValue95 rfl underlying95 ⟨rfl,sizeOf27,rfl,sizeOf31,rfl,sizeOf34,rfl,sizeOf65,rfl,sizeOf34,trivial⟩
theorem GN:BT prog 115 [.int .i64 0,.string ⟨#[]⟩,.bool false,.int .i64 0,.slice none 0 0,.slice none 0 0] [(0,2),(2,1),(3,1),(4,1),(5,1)]:=jv (fs:=[_,_,_,_,_]) zeroValue115 rfl underlying115 ⟨rfl,sizeOf40,rfl,sizeOf4,rfl,sizeOf3,rfl,sizeOf34,rfl,sizeOf113,trivial⟩
theorem WR:BT prog 140 [.pointer none,.int .i64 0,.slice none 0 0,.slice none 0 0,.map none,.slice none 0 0,.int .i64 0] [(0,1),(1,3),(4,1),(5,1),(6,1)]:=jv (fs:=[_,_,_,_,_]) zeroValue140 rfl underlying140 ⟨rfl,sizeOf130,rfl,sizeOf31,rfl,sizeOf138,rfl,sizeOf34,rfl,sizeOf36,trivial⟩
theorem WS:BT prog 147 [.slice none 0 0,.int .i64 0,.slice none 0 0,.slice none 0 0,.map none,.map none] [(0,1),(1,3),(4,1),(5,1)]:=jv (fs:=[_,_,_,_]) zeroValue147 rfl underlying147 ⟨rfl,sizeOf27,rfl,sizeOf31,rfl,sizeOf145,rfl,sizeOf138,trivial⟩
theorem mF:BT prog 152 [.bool false,.string ⟨#[]⟩,.int .i64 0,.string ⟨#[]⟩] [(0,1),(1,1),(2,2)]:=jv (fs:=[_,_,_]) zeroValue152 rfl underlying152 ⟨rfl,sizeOf4,rfl,sizeOf9,rfl,sizeOf40,trivial⟩
theorem O0:BT prog 160 [.int .i64 0,.string ⟨#[]⟩,.int .i64 0,.string ⟨#[]⟩] [(0,2),(2,2)]:=jv (fs:=[_,_]) zeroValue160 rfl underlying160 ⟨rfl,sizeOf40,rfl,sizeOf40,trivial⟩
theorem WT:BT prog 176 [.slice none 0 0,.int .i64 0,.slice none 0 0,.slice none 0 0,.map none,.map none] [(0,1),(1,3),(4,1),(5,1)]:=jv (fs:=[_,_,_,_]) zeroValue176 rfl underlying176 ⟨rfl,sizeOf27,rfl,sizeOf31,rfl,sizeOf145,rfl,sizeOf174,trivial⟩
theorem GO:BT prog 268 [.string ⟨#[]⟩,.string ⟨#[]⟩,.nilIface] [(0,1),(1,1),(2,1)]:=jv (fs:=[_,_,_]) zeroValue268 rfl underlying268 ⟨rfl,sizeOf9,rfl,sizeOf9,rfl,sizeOf184,trivial⟩
theorem da:KK prog 40 Key.val:=Qt underlying40 fK (Hd underlying40 rfl rfl rfl rfl underlying3 underlying9 isAgg3 isAgg9)
theorem zo:∃ms,prog.underlying 184=some (.interface ms):=⟨_,underlying184⟩
theorem aN:One prog 3:=isAgg3
theorem dH:One prog 4:=isAgg4
theorem fw:One prog 9:=isAgg9
theorem O1:One prog 22:=isAgg22
theorem jB:One prog 27:=isAgg27
theorem i6:One prog 28:=isAgg28
theorem dD:One prog 29:=isAgg29
theorem dE:One prog 34:=isAgg34
theorem ye:One prog 36:=isAgg36
theorem Kk:One prog 63:=isAgg63
theorem Cg:One prog 65:=isAgg65
theorem fX:One prog 71:=isAgg71
theorem yf:One prog 72:=isAgg72
theorem ku:One prog 82:=isAgg82
theorem rR:One prog 113:=isAgg113
theorem EW:One prog 130:=isAgg130
theorem nL:One prog 138:=isAgg138
theorem gJ:One prog 145:=isAgg145
theorem zq:One prog 184:=isAgg184
theorem EY:wi prog 22 3 1:=⟨underlying22,sizeOf3⟩
theorem jj:wi prog 27 84 4:=⟨underlying27,sizeOf84⟩
theorem qC:wi prog 28 78 4:=⟨underlying28,sizeOf78⟩
theorem iG:wi prog 29 88 8:=⟨underlying29,sizeOf88⟩
theorem et:wi prog 34 40 2:=⟨underlying34,sizeOf40⟩
theorem HR:wi prog 50 49 3:=⟨underlying50,sizeOf49⟩
theorem mP:wi prog 65 115 6:=⟨underlying65,sizeOf115⟩
theorem wJ:wi prog 82 81 4:=⟨underlying82,sizeOf81⟩
theorem oR:wi prog 113 9 1:=⟨underlying113,sizeOf9⟩
theorem GP:wi prog 157 160 4:=⟨underlying157,sizeOf160⟩
theorem O2:wi prog 211 5 1:=⟨underlying211,sizeOf5⟩
theorem adn:∀w,(sizeOf 40).run prog w=.ok 2 w:=sizeOf40
theorem ado:∀w,(sizeOf 78).run prog w=.ok 4 w:=sizeOf78
theorem adp:∀w,(sizeOf 88).run prog w=.ok 8 w:=sizeOf88
theorem GQ:(prog.info? 3).map (·.size)=some 1:=by kernel_rfl
theorem O3:(prog.info? 4).map (·.size)=some 1:=by kernel_rfl
theorem adq:(prog.info? 28).map (·.size)=some 1:=by kernel_rfl
theorem adr:(prog.info? 29).map (·.size)=some 1:=by kernel_rfl
theorem dL:(prog.info? 31).map (·.size)=some 3:=by kernel_rfl
theorem R2:(prog.info? 34).map (·.size)=some 1:=by kernel_rfl
theorem ads:(prog.info? 36).map (·.size)=some 1:=by kernel_rfl
theorem hP:(prog.info? 40).map (·.size)=some 2:=by kernel_rfl
theorem Kl:(prog.info? 49).map (·.size)=some 3:=by kernel_rfl
theorem adt:(prog.info? 65).map (·.size)=some 1:=by kernel_rfl
theorem zs:(prog.info? 78).map (·.size)=some 4:=by kernel_rfl
theorem EZ:(prog.info? 81).map (·.size)=some 4:=by kernel_rfl
theorem adu:(prog.info? 82).map (·.size)=some 1:=by kernel_rfl
theorem E0:(prog.info? 84).map (·.size)=some 4:=by kernel_rfl
theorem fY:(prog.info? 88).map (·.size)=some 8:=by kernel_rfl
theorem nM:(prog.info? 95).map (·.size)=some 7:=by kernel_rfl
theorem Km:(prog.info? 113).map (·.size)=some 1:=by kernel_rfl
theorem GR:(prog.info? 115).map (·.size)=some 6:=by kernel_rfl
theorem WV:(prog.info? 145).map (·.size)=some 1:=by kernel_rfl
theorem gD:(prog.info? 152).map (·.size)=some 4:=by kernel_rfl
theorem Kn:(prog.info? 160).map (·.size)=some 4:=by kernel_rfl
theorem adw:prog.underlying 3=some (.int .i64):=underlying3
theorem adx:prog.underlying 4=some (.bool):=underlying4
theorem ady:prog.underlying 5=some (.int .u8):=underlying5
theorem rS:prog.underlying 9=some (.string):=underlying9
theorem O4:prog.underlying 28=some (.slice 78):=underlying28
theorem O5:prog.underlying 29=some (.slice 88):=underlying29
theorem O6:prog.underlying 34=some (.slice 40):=underlying34
theorem fZ:prog.underlying 71=some (.map 40 109):=underlying71
theorem R3:prog.underlying 109=some (.pointer 88):=underlying109
theorem gK:prog.underlying 138=some (.map 40 4):=underlying138
theorem dV:prog.underlying 145=some (.map 40 9):=underlying145
theorem Ko:prog.underlying 174=some (.map 40 34):=underlying174
theorem zv4:ZV prog 4 [.bool false]:=⟨_,zeroValue4,rfl⟩
theorem Na:ZV prog 31 [.int .i64 0,.slice none 0 0,.slice none 0 0]:=⟨_,zeroValue31,rfl⟩
theorem adz:ZV prog 34 [.slice none 0 0]:=⟨_,zeroValue34,rfl⟩
theorem E1:ZV prog 40 [.int .i64 0,.string ⟨#[]⟩]:=⟨_,zeroValue40,rfl⟩
theorem adA:ZV prog 49 [.int .i64 0,.string ⟨#[]⟩,.string ⟨#[]⟩]:=⟨_,zeroValue49,rfl⟩
theorem Nb:ZV prog 78 [.int .i64 0,.string ⟨#[]⟩,.string ⟨#[]⟩,.int .i64 0]:=⟨_,zeroValue78,rfl⟩
theorem R4:ZV prog 81 [.bool false,.bool false,.int .i64 0,.int .i64 0]:=⟨_,zeroValue81,rfl⟩
theorem Nc:ZV prog 84 [.bool false,.slice none 0 0,.int .i64 0,.int .i64 0]:=⟨_,zeroValue84,rfl⟩
theorem nN:ZV prog 88 [.int .i64 0,.string ⟨#[]⟩,.string ⟨#[]⟩,.slice none 0 0,.int .i64 0,.int .i64 0,.int .i64 0,.bool false]:=⟨_,zeroValue88,rfl⟩
theorem WW:ZV prog 95 [.slice none 0 0,.int .i64 0,.slice none 0 0,.slice none 0 0,.slice none 0 0,.slice none 0 0,.slice none 0 0]:=⟨_,zeroValue95,rfl⟩
theorem O7:ZV prog 115 [.int .i64 0,.string ⟨#[]⟩,.bool false,.int .i64 0,.slice none 0 0,.slice none 0 0]:=⟨_,zeroValue115,rfl⟩
theorem WX:ZV prog 145 [.map none]:=⟨_,zeroValue145,rfl⟩
theorem oS:ZV prog 152 [.bool false,.string ⟨#[]⟩,.int .i64 0,.string ⟨#[]⟩]:=⟨_,zeroValue152,rfl⟩
theorem WY:ZV prog 160 [.int .i64 0,.string ⟨#[]⟩,.int .i64 0,.string ⟨#[]⟩]:=⟨_,zeroValue160,rfl⟩
theorem Ch:∀w,(zeroValue 4).run prog w=.ok (.bool false) w:=zeroValue4
theorem mf:∀w,(zeroValue 9).run prog w=.ok (.string ⟨#[]⟩) w:=zeroValue9
theorem O8:∀w,(zeroValue 34).run prog w=.ok (.slice none 0 0) w:=zeroValue34
theorem fb:∀w,(zeroValue 109).run prog w=.ok (.pointer none) w:=zeroValue109
theorem kY:FA prog 31 0 0:=cw underlying31 rfl sizeOf3 (by decide) rfl
theorem uY:FA prog 31 1 1:=cw underlying31 rfl sizeOf28 (by decide) rfl
theorem rT:FA prog 31 2 2:=cw underlying31 rfl sizeOf29 (by decide) rfl
theorem dF:FA prog 40 0 0:=cw underlying40 rfl sizeOf3 (by decide) rfl
theorem pF:FA prog 40 1 1:=cw underlying40 rfl sizeOf9 (by decide) rfl
theorem R5:FA prog 49 0 0:=cw underlying49 rfl sizeOf40 (by decide) rfl
theorem R6:FA prog 49 1 2:=cw underlying49 rfl sizeOf9 (by decide) rfl
theorem Kp:FA prog 55 0 0:=cw underlying55 rfl sizeOf22 (by decide) rfl
theorem zt:FA prog 55 1 1:=cw underlying55 rfl sizeOf3 (by decide) rfl
theorem R7:FA prog 74 0 0:=cw underlying74 rfl sizeOf27 (by decide) rfl
theorem R8:FA prog 74 1 1:=cw underlying74 rfl sizeOf31 (by decide) rfl
theorem R9:FA prog 74 2 4:=cw underlying74 rfl sizeOf71 (by decide) rfl
theorem Sa:FA prog 74 3 5:=cw underlying74 rfl sizeOf72 (by decide) rfl
theorem Sb:FA prog 74 4 6:=cw underlying74 rfl sizeOf34 (by decide) rfl
theorem rU:FA prog 78 0 0:=cw underlying78 rfl sizeOf40 (by decide) rfl
theorem E4:FA prog 78 1 2:=cw underlying78 rfl sizeOf9 (by decide) rfl
theorem uZ:FA prog 78 2 3:=cw underlying78 rfl sizeOf3 (by decide) rfl
theorem zv:FA prog 81 0 0:=cw underlying81 rfl sizeOf4 (by decide) rfl
theorem u2:FA prog 81 1 1:=cw underlying81 rfl sizeOf4 (by decide) rfl
theorem E7:FA prog 81 2 2:=cw underlying81 rfl sizeOf3 (by decide) rfl
theorem u4:FA prog 81 3 3:=cw underlying81 rfl sizeOf3 (by decide) rfl
theorem kx:FA prog 84 0 0:=cw underlying84 rfl sizeOf4 (by decide) rfl
theorem rV:FA prog 84 1 1:=cw underlying84 rfl sizeOf82 (by decide) rfl
theorem pG:FA prog 84 2 2:=cw underlying84 rfl sizeOf3 (by decide) rfl
theorem kZ:FA prog 84 3 3:=cw underlying84 rfl sizeOf3 (by decide) rfl
theorem pH:FA prog 88 0 0:=cw underlying88 rfl sizeOf40 (by decide) rfl
theorem u5:FA prog 88 1 2:=cw underlying88 rfl sizeOf9 (by decide) rfl
theorem zw:FA prog 88 2 3:=cw underlying88 rfl sizeOf34 (by decide) rfl
theorem u6:FA prog 88 3 4:=cw underlying88 rfl sizeOf3 (by decide) rfl
theorem pI:FA prog 88 4 5:=cw underlying88 rfl sizeOf3 (by decide) rfl
theorem E8:FA prog 88 5 6:=cw underlying88 rfl sizeOf3 (by decide) rfl
theorem E9:FA prog 88 6 7:=cw underlying88 rfl sizeOf4 (by decide) rfl
theorem Sc:FA prog 95 0 0:=cw underlying95 rfl sizeOf27 (by decide) rfl
theorem Sd:FA prog 95 1 1:=cw underlying95 rfl sizeOf31 (by decide) rfl
theorem Se:FA prog 95 2 4:=cw underlying95 rfl sizeOf34 (by decide) rfl
theorem Sf:FA prog 95 3 5:=cw underlying95 rfl sizeOf65 (by decide) rfl
theorem Sg:FA prog 95 4 6:=cw underlying95 rfl sizeOf34 (by decide) rfl
theorem GS:FA prog 115 0 0:=cw underlying115 rfl sizeOf40 (by decide) rfl
theorem Nf:FA prog 115 1 2:=cw underlying115 rfl sizeOf4 (by decide) rfl
theorem Ng:FA prog 115 2 3:=cw underlying115 rfl sizeOf3 (by decide) rfl
theorem Nh:FA prog 115 3 4:=cw underlying115 rfl sizeOf34 (by decide) rfl
theorem Ni:FA prog 115 4 5:=cw underlying115 rfl sizeOf113 (by decide) rfl
theorem Nj:FA prog 140 0 0:=cw underlying140 rfl sizeOf130 (by decide) rfl
theorem Nk:FA prog 140 1 1:=cw underlying140 rfl sizeOf31 (by decide) rfl
theorem Nl:FA prog 140 2 4:=cw underlying140 rfl sizeOf138 (by decide) rfl
theorem Nn:FA prog 140 3 5:=cw underlying140 rfl sizeOf34 (by decide) rfl
theorem Np:FA prog 140 4 6:=cw underlying140 rfl sizeOf36 (by decide) rfl
theorem Nq:FA prog 147 0 0:=cw underlying147 rfl sizeOf27 (by decide) rfl
theorem Nr:FA prog 147 1 1:=cw underlying147 rfl sizeOf31 (by decide) rfl
theorem Ns:FA prog 147 2 4:=cw underlying147 rfl sizeOf145 (by decide) rfl
theorem Nt:FA prog 147 3 5:=cw underlying147 rfl sizeOf138 (by decide) rfl
theorem Nu:FA prog 152 0 0:=cw underlying152 rfl sizeOf4 (by decide) rfl
theorem Nv:FA prog 152 1 1:=cw underlying152 rfl sizeOf9 (by decide) rfl
theorem Nw:FA prog 152 2 2:=cw underlying152 rfl sizeOf40 (by decide) rfl
theorem Nx:FA prog 160 0 0:=cw underlying160 rfl sizeOf40 (by decide) rfl
theorem Ny:FA prog 160 1 2:=cw underlying160 rfl sizeOf40 (by decide) rfl
theorem Nz:FA prog 176 0 0:=cw underlying176 rfl sizeOf27 (by decide) rfl
theorem NB:FA prog 176 1 1:=cw underlying176 rfl sizeOf31 (by decide) rfl
theorem NC:FA prog 176 2 4:=cw underlying176 rfl sizeOf145 (by decide) rfl
instance:Jc prog 113 9 1 16:=⟨Ce⟩
instance:Jc prog 157 160 4 48:=⟨WM⟩
instance:Jc prog 22 3 1 8:=⟨adg⟩
instance:Jc prog 27 84 4 48:=⟨adh⟩
instance:Jc prog 28 78 4 48:=⟨adi⟩
instance:Jc prog 29 88 8 96:=⟨RU⟩
instance:Jc prog 34 40 2 24:=⟨kX⟩
instance:Jc prog 50 49 3 40:=⟨adj⟩
instance:Jc prog 65 115 6 88:=⟨RV⟩
instance:Jc prog 82 81 4 24:=⟨adk⟩
instance:US prog 40 [.int .i64 0,.string ⟨#[]⟩] [(0,1),(1,1)]:=⟨Cf⟩
instance:US prog 78 [.int .i64 0,.string ⟨#[]⟩,.string ⟨#[]⟩,.int .i64 0] [(0,2),(2,1),(3,1)]:=⟨MX⟩
instance:US prog 88 [.int .i64 0,.string ⟨#[]⟩,.string ⟨#[]⟩,.slice none 0 0,.int .i64 0,.int .i64 0,.int .i64 0,.bool false] [(0,2),(2,1),(3,1),(4,1),(5,1),(6,1),(7,1)]:=⟨MZ⟩
instance:iJ prog 115 0 0:=⟨GS⟩
instance:iJ prog 115 1 2:=⟨Nf⟩
instance:iJ prog 115 2 3:=⟨Ng⟩
instance:iJ prog 115 3 4:=⟨Nh⟩
instance:iJ prog 115 4 5:=⟨Ni⟩
instance:iJ prog 140 0 0:=⟨Nj⟩
instance:iJ prog 140 1 1:=⟨Nk⟩
instance:iJ prog 140 2 4:=⟨Nl⟩
instance:iJ prog 140 3 5:=⟨Nn⟩
instance:iJ prog 140 4 6:=⟨Np⟩
instance:iJ prog 147 0 0:=⟨Nq⟩
instance:iJ prog 147 1 1:=⟨Nr⟩
instance:iJ prog 147 2 4:=⟨Ns⟩
instance:iJ prog 147 3 5:=⟨Nt⟩
instance:iJ prog 152 0 0:=⟨Nu⟩
instance:iJ prog 152 1 1:=⟨Nv⟩
instance:iJ prog 152 2 2:=⟨Nw⟩
instance:iJ prog 160 0 0:=⟨Nx⟩
instance:iJ prog 160 1 2:=⟨Ny⟩
instance:iJ prog 176 0 0:=⟨Nz⟩
instance:iJ prog 176 1 1:=⟨NB⟩
instance:iJ prog 176 2 4:=⟨NC⟩
instance:iJ prog 31 0 0:=⟨kY⟩
instance:iJ prog 31 1 1:=⟨uY⟩
instance:iJ prog 31 2 2:=⟨rT⟩
instance:iJ prog 40 0 0:=⟨dF⟩
instance:iJ prog 40 1 1:=⟨pF⟩
instance:iJ prog 49 0 0:=⟨R5⟩
instance:iJ prog 49 1 2:=⟨R6⟩
instance:iJ prog 74 0 0:=⟨R7⟩
instance:iJ prog 74 1 1:=⟨R8⟩
instance:iJ prog 74 2 4:=⟨R9⟩
instance:iJ prog 74 3 5:=⟨Sa⟩
instance:iJ prog 74 4 6:=⟨Sb⟩
instance:iJ prog 78 0 0:=⟨rU⟩
instance:iJ prog 78 1 2:=⟨E4⟩
instance:iJ prog 78 2 3:=⟨uZ⟩
instance:iJ prog 81 0 0:=⟨zv⟩
instance:iJ prog 81 1 1:=⟨u2⟩
instance:iJ prog 81 2 2:=⟨E7⟩
instance:iJ prog 81 3 3:=⟨u4⟩
instance:iJ prog 84 0 0:=⟨kx⟩
instance:iJ prog 84 1 1:=⟨rV⟩
instance:iJ prog 84 2 2:=⟨pG⟩
instance:iJ prog 84 3 3:=⟨kZ⟩
instance:iJ prog 88 0 0:=⟨pH⟩
instance:iJ prog 88 1 2:=⟨u5⟩
instance:iJ prog 88 2 3:=⟨zw⟩
instance:iJ prog 88 3 4:=⟨u6⟩
instance:iJ prog 88 4 5:=⟨pI⟩
instance:iJ prog 88 5 6:=⟨E8⟩
instance:iJ prog 88 6 7:=⟨E9⟩
instance:iJ prog 95 0 0:=⟨Sc⟩
instance:iJ prog 95 1 1:=⟨Sd⟩
instance:iJ prog 95 2 4:=⟨Se⟩
instance:iJ prog 95 3 5:=⟨Sf⟩
instance:iJ prog 95 4 6:=⟨Sg⟩
instance:D0 prog 40:=⟨fK⟩
instance:Gf prog 113 9 1:=⟨oR⟩
instance:Gf prog 157 160 4:=⟨GP⟩
instance:Gf prog 211 5 1:=⟨O2⟩
instance:Gf prog 22 3 1:=⟨EY⟩
instance:Gf prog 27 84 4:=⟨jj⟩
instance:Gf prog 28 78 4:=⟨qC⟩
instance:Gf prog 29 88 8:=⟨iG⟩
instance:Gf prog 34 40 2:=⟨et⟩
instance:Gf prog 50 49 3:=⟨HR⟩
instance:Gf prog 65 115 6:=⟨mP⟩
instance:Gf prog 82 81 4:=⟨wJ⟩
instance:Iv prog 113 1:=⟨Km⟩
instance:Iv prog 145 1:=⟨WV⟩
instance:Iv prog 28 1:=⟨adq⟩
instance:Iv prog 29 1:=⟨adr⟩
instance:Iv prog 3 1:=⟨GQ⟩
instance:Iv prog 34 1:=⟨R2⟩
instance:Iv prog 36 1:=⟨ads⟩
instance:Iv prog 4 1:=⟨O3⟩
instance:Iv prog 65 1:=⟨adt⟩
instance:Iv prog 82 1:=⟨adu⟩
instance:nc prog 109 (.pointer 88):=⟨R3⟩
instance:nc prog 28 (.slice 78):=⟨O4⟩
instance:nc prog 29 (.slice 88):=⟨O5⟩
instance:nc prog 34 (.slice 40):=⟨O6⟩
instance:nc prog 9 (.string):=⟨rS⟩
instance:D1 prog 115 [.int .i64 0,.string ⟨#[]⟩,.bool false,.int .i64 0,.slice none 0 0,.slice none 0 0]:=⟨O7⟩
instance:D1 prog 152 [.bool false,.string ⟨#[]⟩,.int .i64 0,.string ⟨#[]⟩]:=⟨oS⟩
instance:D1 prog 160 [.int .i64 0,.string ⟨#[]⟩,.int .i64 0,.string ⟨#[]⟩]:=⟨WY⟩
instance:D1 prog 31 [.int .i64 0,.slice none 0 0,.slice none 0 0]:=⟨Na⟩
instance:D1 prog 34 [.slice none 0 0]:=⟨adz⟩
instance:D1 prog 4 [.bool false]:=⟨zv4⟩
instance:D1 prog 40 [.int .i64 0,.string ⟨#[]⟩]:=⟨E1⟩
instance:D1 prog 49 [.int .i64 0,.string ⟨#[]⟩,.string ⟨#[]⟩]:=⟨adA⟩
instance:D1 prog 78 [.int .i64 0,.string ⟨#[]⟩,.string ⟨#[]⟩,.int .i64 0]:=⟨Nb⟩
instance:D1 prog 81 [.bool false,.bool false,.int .i64 0,.int .i64 0]:=⟨R4⟩
instance:D1 prog 84 [.bool false,.slice none 0 0,.int .i64 0,.int .i64 0]:=⟨Nc⟩
instance:D1 prog 88 [.int .i64 0,.string ⟨#[]⟩,.string ⟨#[]⟩,.slice none 0 0,.int .i64 0,.int .i64 0,.int .i64 0,.bool false]:=⟨nN⟩
instance:D1 prog 95 [.slice none 0 0,.int .i64 0,.slice none 0 0,.slice none 0 0,.slice none 0 0,.slice none 0 0,.slice none 0 0]:=⟨WW⟩
theorem cf5:CF prog 5:=call5
theorem cf6:CF prog 6:=call6
theorem cf7:CF prog 7:=call7
theorem cf8:CF prog 8:=call8
theorem cf9:CF prog 9:=call9
theorem HS:CF prog 10:=call10
theorem HT:CF prog 11:=call11
theorem adB:CF prog 12:=call12
theorem adC:CF prog 13:=call13
theorem Sh:CF prog 14:=call14
theorem adD:CF prog 15:=call15
theorem ND:CF prog 16:=call16
theorem zx:CF prog 17:=call17
theorem adE:CF prog 18:=call18
theorem adF:CF prog 19:=call19
theorem WZ:CF prog 20:=call20
theorem adG:CF prog 21:=call21
theorem jC:CF prog 22:=call22
theorem adH:CF prog 23:=call23
theorem adI:CF prog 24:=call24
theorem adJ:CF prog 25:=call25
theorem adK:CF prog 26:=call26
theorem adL:CF prog 27:=call27
theorem adM:CF prog 28:=call28
theorem adN:CF prog 29:=call29
theorem adO:CF prog 30:=call30
theorem W0:CF prog 31:=call31
theorem NF:CF prog 32:=call32
theorem adP:CF prog 33:=call33
theorem Si:CF prog 34:=call34
theorem zy:CF prog 35:=call35
theorem Sj:CF prog 36:=call36
theorem Kq:CF prog 37:=call37
theorem HU:CF prog 38:=call38
theorem W1:CF prog 39:=call39
theorem adQ:CF prog 40:=call40
theorem adR:CF prog 41:=call41
theorem adS:CF prog 42:=call42
theorem W2:CF prog 43:=call43
theorem adT:CF prog 44:=call44
theorem adU:CF prog 45:=call45
theorem adV:CF prog 46:=call46
theorem adW:CF prog 47:=call47
theorem adX:CF prog 48:=call48
theorem adY:CF prog 49:=call49
theorem adZ:CF prog 50:=call50
theorem ad0:CF prog 51:=call51
theorem ad1:CF prog 52:=call52
theorem ad2:CF prog 53:=call53
theorem ad3:CF prog 54:=call54
theorem ad4:CF prog 55:=call55
theorem W3:CF prog 56:=call56
theorem ad5:CF prog 57:=call57
theorem ad6:CF prog 58:=call58
theorem ad7:CF prog 59:=call59
theorem Sk:CF prog 60:=call60
theorem ad8:CF prog 61:=call61
theorem ad9:CF prog 62:=call62
theorem Sl:CF prog 63:=call63
theorem aea:CF prog 64:=call64
theorem W4:CF prog 66:=call66
theorem Kr:CF prog 67:=call67
theorem W5:CF prog 68:=call68
theorem aeb:CF prog 69:=call69
theorem aec:CF prog 71:=call71
theorem W6:CF prog 72:=call72
theorem aed:CF prog 73:=call73
theorem aee:CF prog 74:=call74
theorem NG:CF prog 75:=call75
theorem W7:CF prog 76:=call76
theorem Sm:CF prog 77:=call77
theorem W8:CF prog 78:=call78
theorem aef:CF prog 79:=call79
theorem aeg:CF prog 80:=call80
theorem Sn:CF prog 81:=call81
theorem Sp:CF prog 82:=call82
theorem aeh:CF prog 83:=call83
theorem W9:CF prog 84:=call84
theorem aei:CF prog 85:=call85
theorem HV:CF prog 86:=call86
theorem Xa:CF prog 87:=call87
theorem aej:CF prog 88:=call88
theorem aek:CF prog 89:=call89
theorem ael:CF prog 90:=call90
theorem Sq:CF prog 91:=call91
theorem aem:CF prog 92:=call92
theorem aen:CF prog 93:=call93
theorem aeo:CF prog 94:=call94
theorem aep:CF prog 95:=call95
theorem aeq:CF prog 96:=call96
theorem Sr:CF prog 97:=call97
theorem aer:CF prog 98:=call98
theorem aes:CF prog 99:=call99
theorem Xb:CF prog 100:=call100
theorem Xc:CF prog 101:=call101
theorem Xd:CF prog 102:=call102
theorem Xe:CF prog 103:=call103
theorem Xf:CF prog 104:=call104
theorem Xg:CF prog 105:=call105
theorem Xh:CF prog 106:=call106
theorem O9:CF prog 107:=call107
theorem Xi:CF prog 108:=call108
theorem Xj:CF prog 109:=call109
theorem Xk:CF prog 110:=call110
theorem Xl:CF prog 111:=call111
theorem Xm:CF prog 112:=call112
theorem Xn:CF prog 113:=call113
theorem Xo:CF prog 114:=call114
theorem Xp:CF prog 115:=call115
theorem Xq:CF prog 116:=call116
theorem Xr:CF prog 117:=call117
theorem GU:CF prog 120:=call120
theorem Xs:CF prog 121:=call121
theorem Pa:CF prog 122:=call122
theorem Xt:CF prog 123:=call123
theorem Xu:CF prog 124:=call124
theorem Xv:CF prog 125:=call125
theorem Xw:CF prog 126:=call126
theorem Xx:CF prog 127:=call127
theorem Pb:CF prog 128:=call128
theorem Xy:CF prog 129:=call129
theorem Pc:CF prog 130:=call130
theorem Xz:CF prog 131:=call131
theorem XA:CF prog 132:=call132
theorem XB:CF prog 133:=call133
theorem Pd:CF prog 134:=call134
theorem kM:CF prog 135:=call135
theorem XC:CF prog 136:=call136
theorem XD:CF prog 137:=call137
theorem XE:CF prog 138:=call138
theorem XF:CF prog 139:=call139
theorem Pe:CF prog 140:=call140
theorem XG:CF prog 141:=call141
theorem Pf:CF prog 142:=call142
theorem XH:CF prog 143:=call143
theorem XI:CF prog 145:=call145
theorem GV:CF prog 147:=call147
theorem XJ:CF prog 148:=call148
theorem XK:CF prog 149:=call149
theorem XL:CF prog 150:=call150
theorem XM:CF prog 151:=call151
theorem XN:CF prog 152:=call152
theorem XO:CF prog 153:=call153
theorem XP:CF prog 162:=call162
theorem XQ:CF prog 163:=call163
theorem XR:CF prog 164:=call164
theorem Pg:CF prog 177:=call177
theorem Ph:CF prog 178:=call178
theorem Pj:CF prog 179:=call179
theorem Ks:CF prog 180:=call180
theorem Pk:CF prog 181:=call181
theorem Pm:CF prog 182:=call182
theorem Pn:CF prog 183:=call183
theorem XS:CF prog 184:=call184
theorem Po:CF prog 185:=call185
theorem GW:CF prog 186:=call186
theorem XT:CF prog 187:=call187
theorem XU:CF prog 188:=call188
theorem Pp:CF prog 189:=call189
theorem XV:CF prog 190:=call190
theorem XW:CF prog 191:=call191
theorem XX:CF prog 192:=call192
theorem XY:CF prog 193:=call193
theorem XZ:CF prog 194:=call194
theorem X0:CF prog 195:=call195
theorem X1:CF prog 196:=call196
theorem X2:CF prog 200:=call200
theorem Kt:CF prog 201:=call201
theorem X3:CF prog 202:=call202
theorem X4:CF prog 203:=call203
theorem X5:CF prog 216:=call216
theorem Pq:CF prog 217:=call217
theorem X6:CF prog 218:=call218
theorem GX:CF prog 220:=call220
theorem X7:CF prog 221:=call221
theorem X8:CF prog 222:=call222
theorem X9:CF prog 224:=call224
theorem Ya:CF prog 225:=call225
theorem Pr:CF prog 243:=call243
theorem Yb:CF prog 244:=call244
theorem Yc:CF prog 249:=call249
theorem Pu:CF prog 250:=call250
theorem Yd:CF prog 252:=call252
theorem Ye:CF prog 254:=call254
theorem Yf:CF prog 358:=call358
theorem Yg:CF prog 560:=call560
instance:gF prog 5:=⟨cf5⟩
instance:gF prog 11:=⟨HT⟩
instance:gF prog 12:=⟨adB⟩
instance:gF prog 13:=⟨adC⟩
instance:gF prog 17:=⟨zx⟩
instance:gF prog 24:=⟨adI⟩
instance:gF prog 32:=⟨NF⟩
instance:gF prog 33:=⟨adP⟩
instance:gF prog 34:=⟨Si⟩
instance:gF prog 37:=⟨Kq⟩
instance:gF prog 38:=⟨HU⟩
instance:gF prog 39:=⟨W1⟩
instance:gF prog 40:=⟨adQ⟩
instance:gF prog 41:=⟨adR⟩
instance:gF prog 43:=⟨W2⟩
instance:gF prog 51:=⟨ad0⟩
instance:gF prog 52:=⟨ad1⟩
instance:gF prog 53:=⟨ad2⟩
instance:gF prog 55:=⟨ad4⟩
instance:gF prog 59:=⟨ad7⟩
instance:gF prog 66:=⟨W4⟩
instance:gF prog 69:=⟨aeb⟩
instance:gF prog 71:=⟨aec⟩
instance:gF prog 72:=⟨W6⟩
instance:gF prog 86:=⟨HV⟩
instance:gF prog 90:=⟨ael⟩
instance:gF prog 92:=⟨aem⟩
instance:gF prog 93:=⟨aen⟩
instance:gF prog 94:=⟨aeo⟩
instance:gF prog 95:=⟨aep⟩
instance:gF prog 97:=⟨Sr⟩
instance:gF prog 98:=⟨aer⟩
instance:gF prog 99:=⟨aes⟩
instance:gF prog 100:=⟨Xb⟩
instance:gF prog 101:=⟨Xc⟩
instance:gF prog 103:=⟨Xe⟩
instance:gF prog 105:=⟨Xg⟩
instance:gF prog 106:=⟨Xh⟩
instance:gF prog 107:=⟨O9⟩
instance:gF prog 113:=⟨Xn⟩
instance:gF prog 114:=⟨Xo⟩
instance:gF prog 115:=⟨Xp⟩
instance:gF prog 116:=⟨Xq⟩
instance:gF prog 117:=⟨Xr⟩
instance:gF prog 130:=⟨Pc⟩
instance:gF prog 134:=⟨Pd⟩
instance:gF prog 138:=⟨XE⟩
instance:gF prog 139:=⟨XF⟩
instance:gF prog 142:=⟨Pf⟩
instance:gF prog 145:=⟨XI⟩
instance:gF prog 150:=⟨XL⟩
instance:gF prog 151:=⟨XM⟩
instance:gF prog 153:=⟨XO⟩
instance:gF prog 162:=⟨XP⟩
instance:gF prog 163:=⟨XQ⟩
instance:gF prog 164:=⟨XR⟩
instance:gF prog 181:=⟨Pk⟩
instance:gF prog 183:=⟨Pn⟩
instance:gF prog 184:=⟨XS⟩
instance:gF prog 188:=⟨XU⟩
instance:gF prog 190:=⟨XV⟩
instance:gF prog 194:=⟨XZ⟩
instance:gF prog 195:=⟨X0⟩
instance:gF prog 196:=⟨X1⟩
instance:gF prog 201:=⟨Kt⟩
instance:gF prog 203:=⟨X4⟩
instance:gF prog 216:=⟨X5⟩
instance:gF prog 221:=⟨X7⟩
instance:gF prog 222:=⟨X8⟩
instance:gF prog 254:=⟨Ye⟩
instance:gF prog 358:=⟨Yf⟩
end Go.Rc

