/- Walks over the program, part Facts. Conditions: as each theorem says. -/
import Derived.Test.YtjpagoacbadijaaGreatDoorProg
import Derived.Test.YtjpagoacbadijaaGreatDoorJBd
set_option linter.all false
namespace Go.Rc
open Go Go.Proofs Go.Proofs.Tryz
theorem mixed:prog.follows .mixedOrders=true:=by kernel_rfl
theorem ek:BP prog 39:=Gm underlying39 rfl rfl rfl rfl (by decide) (by decide) underlying3 underlying9 isAgg3 isAgg9 (by kernel_rfl) (by kernel_rfl)
theorem bz:pO prog 31 3:=⟨⟨_,underlying31⟩,by kernel_rfl⟩
theorem ak:pO prog 39 2:=⟨⟨_,underlying39⟩,by kernel_rfl⟩
theorem lW:pO prog 42 3:=⟨⟨_,underlying42⟩,by kernel_rfl⟩
theorem dC:pO prog 48 8:=⟨⟨_,underlying48⟩,by kernel_rfl⟩
theorem ua:pO prog 59 4:=⟨⟨_,underlying59⟩,by kernel_rfl⟩
theorem lX:pO prog 61 4:=⟨⟨_,underlying61⟩,by kernel_rfl⟩
theorem xz:pO prog 71 3:=⟨⟨_,underlying71⟩,by kernel_rfl⟩
theorem hI:pO prog 102 4:=⟨⟨_,underlying102⟩,by kernel_rfl⟩
theorem zG:pO prog 126 4:=⟨⟨_,underlying126⟩,by kernel_rfl⟩
theorem gh:pO prog 144 4:=⟨⟨_,underlying144⟩,by kernel_rfl⟩
theorem US:AP prog 22 3 1 8:=lM (z:=.int .i64 0) underlying22 (by kernel_rfl) (by kernel_rfl) (by decide)
theorem UT:AP prog 27 59 4 48:=lM (z:=.agg #[.bool false,.slice none 0 0,.int .i64 0,.int .i64 0]) underlying27 (by kernel_rfl) (by kernel_rfl) (by decide)
theorem UU:AP prog 28 102 4 48:=lM (z:=.agg #[.int .i64 0,.string ⟨#[]⟩,.string ⟨#[]⟩,.int .i64 0]) underlying28 (by kernel_rfl) (by kernel_rfl) (by decide)
theorem UW:AP prog 29 48 8 96:=lM (z:=.agg #[.int .i64 0,.string ⟨#[]⟩,.string ⟨#[]⟩,.slice none 0 0,.int .i64 0,.int .i64 0,.int .i64 0,.bool false]) underlying29 (by kernel_rfl) (by kernel_rfl) (by decide)
theorem qY:AP prog 34 39 2 24:=lM (z:=.agg #[.int .i64 0,.string ⟨#[]⟩]) underlying34 (by kernel_rfl) (by kernel_rfl) (by decide)
theorem UX:AP prog 57 61 4 24:=lM (z:=.agg #[.bool false,.bool false,.int .i64 0,.int .i64 0]) underlying57 (by kernel_rfl) (by kernel_rfl) (by decide)
theorem UY:AP prog 64 71 3 40:=lM (z:=.agg #[.int .i64 0,.string ⟨#[]⟩,.string ⟨#[]⟩]) underlying64 (by kernel_rfl) (by kernel_rfl) (by decide)
theorem O2:AP prog 107 151 6 88:=lM (z:=.agg #[.int .i64 0,.string ⟨#[]⟩,.bool false,.int .i64 0,.slice none 0 0,.slice none 0 0]) underlying107 (by kernel_rfl) (by kernel_rfl) (by decide)
theorem O3:AP prog 122 126 4 48:=lM (z:=.agg #[.int .i64 0,.string ⟨#[]⟩,.int .i64 0,.string ⟨#[]⟩]) underlying122 (by kernel_rfl) (by kernel_rfl) (by decide)
theorem O4:AP prog 142 9 1 16:=lM (z:=.string ⟨#[]⟩) underlying142 (by kernel_rfl) (by kernel_rfl) (by decide)
theorem Eu:BS prog 22 3 1 1 [.int .i64 0]:=⟨underlying22,sizeOf3,by decide,by decide,_,zeroValue3,by kernel_rfl⟩
theorem KO:BS prog 27 59 4 1 [.bool false,.slice none 0 0,.int .i64 0,.int .i64 0]:=⟨underlying27,sizeOf59,by decide,by decide,_,zeroValue59,by kernel_rfl⟩
theorem zH:BS prog 28 102 4 1 [.int .i64 0,.string ⟨#[]⟩,.string ⟨#[]⟩,.int .i64 0]:=⟨underlying28,sizeOf102,by decide,by decide,_,zeroValue102,by kernel_rfl⟩
theorem qZ:BS prog 29 48 8 1 [.int .i64 0,.string ⟨#[]⟩,.string ⟨#[]⟩,.slice none 0 0,.int .i64 0,.int .i64 0,.int .i64 0,.bool false]:=⟨underlying29,sizeOf48,by decide,by decide,_,zeroValue48,by kernel_rfl⟩
theorem dc:BS prog 34 39 2 1 [.int .i64 0,.string ⟨#[]⟩]:=⟨underlying34,sizeOf39,by decide,by decide,_,zeroValue39,by kernel_rfl⟩
theorem u9:BS prog 57 61 4 1 [.bool false,.bool false,.int .i64 0,.int .i64 0]:=⟨underlying57,sizeOf61,by decide,by decide,_,zeroValue61,by kernel_rfl⟩
theorem Ew:BS prog 64 71 3 1 [.int .i64 0,.string ⟨#[]⟩,.string ⟨#[]⟩]:=⟨underlying64,sizeOf71,by decide,by decide,_,zeroValue71,by kernel_rfl⟩
theorem Bu:BS prog 122 126 4 1 [.int .i64 0,.string ⟨#[]⟩,.int .i64 0,.string ⟨#[]⟩]:=⟨underlying122,sizeOf126,by decide,by decide,_,zeroValue126,by kernel_rfl⟩
theorem iS:BS prog 142 9 1 1 [.string ⟨#[]⟩]:=⟨underlying142,sizeOf9,by decide,by decide,_,zeroValue9,by kernel_rfl⟩
theorem Ex:BS prog 142 9 1 10 [.string ⟨#[]⟩,.string ⟨#[]⟩,.string ⟨#[]⟩,.string ⟨#[]⟩,.string ⟨#[]⟩,.string ⟨#[]⟩,.string ⟨#[]⟩,.string ⟨#[]⟩,.string ⟨#[]⟩,.string ⟨#[]⟩]:=⟨underlying142,sizeOf9,by decide,by decide,_,zeroValue9,by kernel_rfl⟩
theorem KP:BS prog 22 3 1 2 [.int .i64 0,.int .i64 0]:=⟨underlying22,sizeOf3,by decide,by decide,_,zeroValue3,by kernel_rfl⟩
theorem KQ:BS prog 27 59 4 2 [.bool false,.slice none 0 0,.int .i64 0,.int .i64 0,.bool false,.slice none 0 0,.int .i64 0,.int .i64 0]:=⟨underlying27,sizeOf59,by decide,by decide,_,zeroValue59,by kernel_rfl⟩
theorem KS:BS prog 34 39 2 3 [.int .i64 0,.string ⟨#[]⟩,.int .i64 0,.string ⟨#[]⟩,.int .i64 0,.string ⟨#[]⟩]:=⟨underlying34,sizeOf39,by decide,by decide,_,zeroValue39,by kernel_rfl⟩
theorem KT:BS prog 22 3 1 6 [.int .i64 0,.int .i64 0,.int .i64 0,.int .i64 0,.int .i64 0,.int .i64 0]:=⟨underlying22,sizeOf3,by decide,by decide,_,zeroValue3,by kernel_rfl⟩
theorem O5:BT prog 31 [.int .i64 0,.slice none 0 0,.slice none 0 0] [(0,1),(1,1),(2,1)]:=hK (fs:=[_,_,_]) zeroValue31 rfl underlying31 ⟨rfl,sizeOf3,rfl,sizeOf28,rfl,sizeOf29,trivial⟩
theorem q7:BT prog 39 [.int .i64 0,.string ⟨#[]⟩] [(0,1),(1,1)]:=hK (fs:=[_,_]) zeroValue39 rfl underlying39 ⟨rfl,sizeOf3,rfl,sizeOf9,trivial⟩
theorem xA:BT prog 42 [.int .i64 0,.int .i64 0,.string ⟨#[]⟩] [(0,1),(1,2)]:=hK (fs:=[_,_]) zeroValue42 rfl underlying42 ⟨rfl,sizeOf3,rfl,sizeOf39,trivial⟩
theorem O6:BT prog 48 [.int .i64 0,.string ⟨#[]⟩,.string ⟨#[]⟩,.slice none 0 0,.int .i64 0,.int .i64 0,.int .i64 0,.bool false] [(0,2),(2,1),(3,1),(4,1),(5,1),(6,1),(7,1)]:=hK (fs:=[_,_,_,_,_,_,_]) zeroValue48 rfl underlying48 ⟨rfl,sizeOf39,rfl,sizeOf9,rfl,sizeOf34,rfl,sizeOf3,rfl,sizeOf3,rfl,sizeOf3,rfl,sizeOf4,trivial⟩
theorem Ey:BT prog 59 [.bool false,.slice none 0 0,.int .i64 0,.int .i64 0] [(0,1),(1,1),(2,1),(3,1)]:=hK (fs:=[_,_,_,_]) zeroValue59 rfl underlying59 ⟨rfl,sizeOf4,rfl,sizeOf57,rfl,sizeOf3,rfl,sizeOf3,trivial⟩
theorem Ez:BT prog 61 [.bool false,.bool false,.int .i64 0,.int .i64 0] [(0,1),(1,1),(2,1),(3,1)]:=hK (fs:=[_,_,_,_]) zeroValue61 rfl underlying61 ⟨rfl,sizeOf4,rfl,sizeOf4,rfl,sizeOf3,rfl,sizeOf3,trivial⟩
theorem O7:BT prog 71 [.int .i64 0,.string ⟨#[]⟩,.string ⟨#[]⟩] [(0,2),(2,1)]:=hK (fs:=[_,_]) zeroValue71 rfl underlying71 ⟨rfl,sizeOf39,rfl,sizeOf9,trivial⟩
theorem UZ:BT prog 74 [.slice none 0 0,.int .i64 0] [(0,1),(1,1)]:=hK (fs:=[_,_]) zeroValue74 rfl underlying74 ⟨rfl,sizeOf22,rfl,sizeOf3,trivial⟩
theorem U0:BT prog 88 [.pointer none,.int .i64 0,.slice none 0 0,.slice none 0 0,.map none,.slice none 0 0,.int .i64 0] [(0,1),(1,3),(4,1),(5,1),(6,1)]:=hK (fs:=[_,_,_,_,_]) zeroValue88 rfl underlying88 ⟨rfl,sizeOf84,rfl,sizeOf31,rfl,sizeOf86,rfl,sizeOf34,rfl,sizeOf35,trivial⟩
theorem Bv:BT prog 102 [.int .i64 0,.string ⟨#[]⟩,.string ⟨#[]⟩,.int .i64 0] [(0,2),(2,1),(3,1)]:=hK (fs:=[_,_,_]) zeroValue102 rfl underlying102 ⟨rfl,sizeOf39,rfl,sizeOf9,rfl,sizeOf3,trivial⟩
theorem O8:BT prog 121 [.slice none 0 0,.int .i64 0,.slice none 0 0,.slice none 0 0,.map none,.pointer none,.slice none 0 0] [(0,1),(1,3),(4,1),(5,1),(6,1)]:=hK (fs:=[_,_,_,_,_]) zeroValue121 rfl underlying121 ⟨rfl,sizeOf27,rfl,sizeOf31,rfl,sizeOf118,rfl,sizeOf119,rfl,sizeOf34,trivial⟩
theorem Iu:BT prog 126 [.int .i64 0,.string ⟨#[]⟩,.int .i64 0,.string ⟨#[]⟩] [(0,2),(2,2)]:=hK (fs:=[_,_]) zeroValue126 rfl underlying126 ⟨rfl,sizeOf39,rfl,sizeOf39,trivial⟩
theorem O9:BT prog 134 [.slice none 0 0,.int .i64 0,.slice none 0 0,.slice none 0 0,.map none,.map none] [(0,1),(1,3),(4,1),(5,1)]:=hK (fs:=[_,_,_,_]) zeroValue134 rfl underlying134 ⟨rfl,sizeOf27,rfl,sizeOf31,rfl,sizeOf131,rfl,sizeOf132,trivial⟩
theorem kj:BT prog 144 [.bool false,.string ⟨#[]⟩,.int .i64 0,.string ⟨#[]⟩] [(0,1),(1,1),(2,2)]:=hK (fs:=[_,_,_]) zeroValue144 rfl underlying144 ⟨rfl,sizeOf4,rfl,sizeOf9,rfl,sizeOf39,trivial⟩
theorem Pa:BT prog 184 [.slice none 0 0,.int .i64 0,.slice none 0 0,.slice none 0 0,.map none,.map none] [(0,1),(1,3),(4,1),(5,1)]:=hK (fs:=[_,_,_,_]) zeroValue184 rfl underlying184 ⟨rfl,sizeOf27,rfl,sizeOf31,rfl,sizeOf131,rfl,sizeOf86,trivial⟩
theorem Bw:BT prog 503 [.string ⟨#[]⟩,.string ⟨#[]⟩,.nilIface] [(0,1),(1,1),(2,1)]:=hK (fs:=[_,_,_]) zeroValue503 rfl underlying503 ⟨rfl,sizeOf9,rfl,sizeOf9,rfl,sizeOf205,trivial⟩
theorem cE:KK prog 39 Key.val:=Jr underlying39 ek (BU underlying39 rfl rfl rfl rfl underlying3 underlying9 isAgg3 isAgg9)
theorem va:∃ms,prog.underlying 205=some (.interface ms):=⟨_,underlying205⟩
theorem aK:One prog 3:=isAgg3
theorem di:One prog 4:=isAgg4
theorem eV:One prog 9:=isAgg9
theorem Iv:One prog 22:=isAgg22
theorem kX:One prog 27:=isAgg27
theorem jD:One prog 28:=isAgg28
theorem el:One prog 29:=isAgg29
theorem gw:One prog 34:=isAgg34
theorem ub:One prog 35:=isAgg35
theorem iT:One prog 57:=isAgg57
theorem EB:One prog 76:=isAgg76
theorem EC:One prog 84:=isAgg84
theorem oY:One prog 86:=isAgg86
theorem fw:One prog 118:=isAgg118
theorem q8:One prog 119:=isAgg119
theorem eR:One prog 131:=isAgg131
theorem vb:One prog 205:=isAgg205
theorem zI:tf prog 22 3 1:=⟨underlying22,sizeOf3⟩
theorem gn:tf prog 27 59 4:=⟨underlying27,sizeOf59⟩
theorem pF:tf prog 28 102 4:=⟨underlying28,sizeOf102⟩
theorem iG:tf prog 29 48 8:=⟨underlying29,sizeOf48⟩
theorem dL:tf prog 34 39 2:=⟨underlying34,sizeOf39⟩
theorem su:tf prog 57 61 4:=⟨underlying57,sizeOf61⟩
theorem Cu:tf prog 64 71 3:=⟨underlying64,sizeOf71⟩
theorem Pb:tf prog 107 151 6:=⟨underlying107,sizeOf151⟩
theorem ED:tf prog 122 126 4:=⟨underlying122,sizeOf126⟩
theorem lY:tf prog 142 9 1:=⟨underlying142,sizeOf9⟩
theorem Iw:tf prog 191 5 1:=⟨underlying191,sizeOf5⟩
theorem U1:∀w,(sizeOf 39).run prog w=.ok 2 w:=sizeOf39
theorem U2:∀w,(sizeOf 48).run prog w=.ok 8 w:=sizeOf48
theorem Pc:∀w,(sizeOf 102).run prog w=.ok 4 w:=sizeOf102
theorem Ni:(prog.info? 3).map (·.size)=some 1:=by kernel_rfl
theorem sz4:(prog.info? 4).map (·.size)=some 1:=by kernel_rfl
theorem U3:(prog.info? 28).map (·.size)=some 1:=by kernel_rfl
theorem U4:(prog.info? 29).map (·.size)=some 1:=by kernel_rfl
theorem jE:(prog.info? 31).map (·.size)=some 3:=by kernel_rfl
theorem U5:(prog.info? 34).map (·.size)=some 1:=by kernel_rfl
theorem U6:(prog.info? 35).map (·.size)=some 1:=by kernel_rfl
theorem gi:(prog.info? 39).map (·.size)=some 2:=by kernel_rfl
theorem q9:(prog.info? 42).map (·.size)=some 3:=by kernel_rfl
theorem fA:(prog.info? 48).map (·.size)=some 8:=by kernel_rfl
theorem U7:(prog.info? 57).map (·.size)=some 1:=by kernel_rfl
theorem zJ:(prog.info? 59).map (·.size)=some 4:=by kernel_rfl
theorem zK:(prog.info? 61).map (·.size)=some 4:=by kernel_rfl
theorem EE:(prog.info? 71).map (·.size)=some 3:=by kernel_rfl
theorem oZ:(prog.info? 102).map (·.size)=some 4:=by kernel_rfl
theorem Pd:(prog.info? 107).map (·.size)=some 1:=by kernel_rfl
theorem Ix:(prog.info? 126).map (·.size)=some 4:=by kernel_rfl
theorem Pe:(prog.info? 131).map (·.size)=some 1:=by kernel_rfl
theorem Pf:(prog.info? 142).map (·.size)=some 1:=by kernel_rfl
theorem fe:(prog.info? 144).map (·.size)=some 4:=by kernel_rfl
theorem U8:prog.underlying 3=some (.int .i64):=underlying3
theorem U9:prog.underlying 5=some (.int .u8):=underlying5
theorem re:prog.underlying 9=some (.string):=underlying9
theorem Iy:prog.underlying 28=some (.slice 102):=underlying28
theorem Iz:prog.underlying 29=some (.slice 48):=underlying29
theorem IA:prog.underlying 34=some (.slice 39):=underlying34
theorem gx:prog.underlying 86=some (.map 39 4):=underlying86
theorem KU:prog.underlying 117=some (.pointer 48):=underlying117
theorem fx:prog.underlying 118=some (.map 39 117):=underlying118
theorem cS:prog.underlying 131=some (.map 39 9):=underlying131
theorem EG:prog.underlying 132=some (.map 39 34):=underlying132
theorem zv4:ZV prog 4 [.bool false]:=⟨_,zeroValue4,rfl⟩
theorem Pg:ZV prog 31 [.int .i64 0,.slice none 0 0,.slice none 0 0]:=⟨_,zeroValue31,rfl⟩
theorem Va:ZV prog 34 [.slice none 0 0]:=⟨_,zeroValue34,rfl⟩
theorem zL:ZV prog 39 [.int .i64 0,.string ⟨#[]⟩]:=⟨_,zeroValue39,rfl⟩
theorem Ph:ZV prog 42 [.int .i64 0,.int .i64 0,.string ⟨#[]⟩]:=⟨_,zeroValue42,rfl⟩
theorem nC:ZV prog 48 [.int .i64 0,.string ⟨#[]⟩,.string ⟨#[]⟩,.slice none 0 0,.int .i64 0,.int .i64 0,.int .i64 0,.bool false]:=⟨_,zeroValue48,rfl⟩
theorem He:ZV prog 59 [.bool false,.slice none 0 0,.int .i64 0,.int .i64 0]:=⟨_,zeroValue59,rfl⟩
theorem KW:ZV prog 61 [.bool false,.bool false,.int .i64 0,.int .i64 0]:=⟨_,zeroValue61,rfl⟩
theorem Vb:ZV prog 71 [.int .i64 0,.string ⟨#[]⟩,.string ⟨#[]⟩]:=⟨_,zeroValue71,rfl⟩
theorem Bx:ZV prog 102 [.int .i64 0,.string ⟨#[]⟩,.string ⟨#[]⟩,.int .i64 0]:=⟨_,zeroValue102,rfl⟩
theorem Pj:ZV prog 109 [.slice none 0 0,.int .i64 0,.slice none 0 0,.slice none 0 0,.slice none 0 0,.slice none 0 0,.slice none 0 0]:=⟨_,zeroValue109,rfl⟩
theorem Pk:ZV prog 126 [.int .i64 0,.string ⟨#[]⟩,.int .i64 0,.string ⟨#[]⟩]:=⟨_,zeroValue126,rfl⟩
theorem Pm:ZV prog 131 [.map none]:=⟨_,zeroValue131,rfl⟩
theorem o0:ZV prog 144 [.bool false,.string ⟨#[]⟩,.int .i64 0,.string ⟨#[]⟩]:=⟨_,zeroValue144,rfl⟩
theorem Pn:ZV prog 151 [.int .i64 0,.string ⟨#[]⟩,.bool false,.int .i64 0,.slice none 0 0,.slice none 0 0]:=⟨_,zeroValue151,rfl⟩
theorem xB:∀w,(zeroValue 4).run prog w=.ok (.bool false) w:=zeroValue4
theorem j5:∀w,(zeroValue 9).run prog w=.ok (.string ⟨#[]⟩) w:=zeroValue9
theorem IB:∀w,(zeroValue 34).run prog w=.ok (.slice none 0 0) w:=zeroValue34
theorem fN:∀w,(zeroValue 117).run prog w=.ok (.pointer none) w:=zeroValue117
theorem j6:FA prog 31 0 0:=bL underlying31 rfl sizeOf3 (by decide) rfl
theorem rf:FA prog 31 1 1:=bL underlying31 rfl sizeOf28 (by decide) rfl
theorem rh:FA prog 31 2 2:=bL underlying31 rfl sizeOf29 (by decide) rfl
theorem cL:FA prog 39 0 0:=bL underlying39 rfl sizeOf3 (by decide) rfl
theorem oo:FA prog 39 1 1:=bL underlying39 rfl sizeOf9 (by decide) rfl
theorem KX:FA prog 42 0 0:=bL underlying42 rfl sizeOf3 (by decide) rfl
theorem KY:FA prog 42 1 1:=bL underlying42 rfl sizeOf39 (by decide) rfl
theorem oq:FA prog 48 0 0:=bL underlying48 rfl sizeOf39 (by decide) rfl
theorem vc:FA prog 48 1 2:=bL underlying48 rfl sizeOf9 (by decide) rfl
theorem zM:FA prog 48 2 3:=bL underlying48 rfl sizeOf34 (by decide) rfl
theorem rj:FA prog 48 3 4:=bL underlying48 rfl sizeOf3 (by decide) rfl
theorem ot:FA prog 48 4 5:=bL underlying48 rfl sizeOf3 (by decide) rfl
theorem zN:FA prog 48 5 6:=bL underlying48 rfl sizeOf3 (by decide) rfl
theorem zO:FA prog 48 6 7:=bL underlying48 rfl sizeOf4 (by decide) rfl
theorem iA:FA prog 59 0 0:=bL underlying59 rfl sizeOf4 (by decide) rfl
theorem ou:FA prog 59 1 1:=bL underlying59 rfl sizeOf57 (by decide) rfl
theorem mD:FA prog 59 2 2:=bL underlying59 rfl sizeOf3 (by decide) rfl
theorem jd:FA prog 59 3 3:=bL underlying59 rfl sizeOf3 (by decide) rfl
theorem vd:FA prog 61 0 0:=bL underlying61 rfl sizeOf4 (by decide) rfl
theorem rk:FA prog 61 1 1:=bL underlying61 rfl sizeOf4 (by decide) rfl
theorem zP:FA prog 61 2 2:=bL underlying61 rfl sizeOf3 (by decide) rfl
theorem rp:FA prog 61 3 3:=bL underlying61 rfl sizeOf3 (by decide) rfl
theorem KZ:FA prog 71 0 0:=bL underlying71 rfl sizeOf39 (by decide) rfl
theorem K2:FA prog 71 1 2:=bL underlying71 rfl sizeOf9 (by decide) rfl
theorem EH:FA prog 74 0 0:=bL underlying74 rfl sizeOf22 (by decide) rfl
theorem ve:FA prog 74 1 1:=bL underlying74 rfl sizeOf3 (by decide) rfl
theorem K3:FA prog 88 0 0:=bL underlying88 rfl sizeOf84 (by decide) rfl
theorem K4:FA prog 88 1 1:=bL underlying88 rfl sizeOf31 (by decide) rfl
theorem K5:FA prog 88 2 4:=bL underlying88 rfl sizeOf86 (by decide) rfl
theorem K6:FA prog 88 3 5:=bL underlying88 rfl sizeOf34 (by decide) rfl
theorem K7:FA prog 88 4 6:=bL underlying88 rfl sizeOf35 (by decide) rfl
theorem lA:FA prog 102 0 0:=bL underlying102 rfl sizeOf39 (by decide) rfl
theorem vf:FA prog 102 1 2:=bL underlying102 rfl sizeOf9 (by decide) rfl
theorem nD:FA prog 102 2 3:=bL underlying102 rfl sizeOf3 (by decide) rfl
theorem Hf:FA prog 109 0 0:=bL underlying109 rfl sizeOf27 (by decide) rfl
theorem Hg:FA prog 109 1 1:=bL underlying109 rfl sizeOf31 (by decide) rfl
theorem Hh:FA prog 109 2 4:=bL underlying109 rfl sizeOf34 (by decide) rfl
theorem Hi:FA prog 109 3 5:=bL underlying109 rfl sizeOf107 (by decide) rfl
theorem Hj:FA prog 109 4 6:=bL underlying109 rfl sizeOf34 (by decide) rfl
theorem Hk:FA prog 121 1 1:=bL underlying121 rfl sizeOf31 (by decide) rfl
theorem Hl:FA prog 121 2 4:=bL underlying121 rfl sizeOf118 (by decide) rfl
theorem Hm:FA prog 121 3 5:=bL underlying121 rfl sizeOf119 (by decide) rfl
theorem Hn:FA prog 126 0 0:=bL underlying126 rfl sizeOf39 (by decide) rfl
theorem Ho:FA prog 126 1 2:=bL underlying126 rfl sizeOf39 (by decide) rfl
theorem Hp:FA prog 134 0 0:=bL underlying134 rfl sizeOf27 (by decide) rfl
theorem Hq:FA prog 134 1 1:=bL underlying134 rfl sizeOf31 (by decide) rfl
theorem Hr:FA prog 134 2 4:=bL underlying134 rfl sizeOf131 (by decide) rfl
theorem Hs:FA prog 144 0 0:=bL underlying144 rfl sizeOf4 (by decide) rfl
theorem Ht:FA prog 144 1 1:=bL underlying144 rfl sizeOf9 (by decide) rfl
theorem Hu:FA prog 144 2 2:=bL underlying144 rfl sizeOf39 (by decide) rfl
theorem Hv:FA prog 151 0 0:=bL underlying151 rfl sizeOf39 (by decide) rfl
theorem Hw:FA prog 151 1 2:=bL underlying151 rfl sizeOf4 (by decide) rfl
theorem Hx:FA prog 151 2 3:=bL underlying151 rfl sizeOf3 (by decide) rfl
theorem Hy:FA prog 151 3 4:=bL underlying151 rfl sizeOf34 (by decide) rfl
theorem Hz:FA prog 151 4 5:=bL underlying151 rfl sizeOf142 (by decide) rfl
theorem HA:FA prog 184 0 0:=bL underlying184 rfl sizeOf27 (by decide) rfl
theorem HB:FA prog 184 1 1:=bL underlying184 rfl sizeOf31 (by decide) rfl
theorem HC:FA prog 184 2 4:=bL underlying184 rfl sizeOf131 (by decide) rfl
theorem HD:FA prog 184 3 5:=bL underlying184 rfl sizeOf86 (by decide) rfl
instance:DA prog 107 151 6 88:=⟨O2⟩
instance:DA prog 122 126 4 48:=⟨O3⟩
instance:DA prog 142 9 1 16:=⟨O4⟩
instance:DA prog 22 3 1 8:=⟨US⟩
instance:DA prog 27 59 4 48:=⟨UT⟩
instance:DA prog 28 102 4 48:=⟨UU⟩
instance:DA prog 29 48 8 96:=⟨UW⟩
instance:DA prog 34 39 2 24:=⟨qY⟩
instance:DA prog 57 61 4 24:=⟨UX⟩
instance:DA prog 64 71 3 40:=⟨UY⟩
instance:Jv prog 102 [.int .i64 0,.string ⟨#[]⟩,.string ⟨#[]⟩,.int .i64 0] [(0,2),(2,1),(3,1)]:=⟨Bv⟩
instance:Jv prog 39 [.int .i64 0,.string ⟨#[]⟩] [(0,1),(1,1)]:=⟨q7⟩
instance:Jv prog 42 [.int .i64 0,.int .i64 0,.string ⟨#[]⟩] [(0,1),(1,2)]:=⟨xA⟩
instance:Jv prog 48 [.int .i64 0,.string ⟨#[]⟩,.string ⟨#[]⟩,.slice none 0 0,.int .i64 0,.int .i64 0,.int .i64 0,.bool false] [(0,2),(2,1),(3,1),(4,1),(5,1),(6,1),(7,1)]:=⟨O6⟩
instance:fU prog 102 0 0:=⟨lA⟩
instance:fU prog 102 1 2:=⟨vf⟩
instance:fU prog 102 2 3:=⟨nD⟩
instance:fU prog 109 0 0:=⟨Hf⟩
instance:fU prog 109 1 1:=⟨Hg⟩
instance:fU prog 109 2 4:=⟨Hh⟩
instance:fU prog 109 3 5:=⟨Hi⟩
instance:fU prog 109 4 6:=⟨Hj⟩
instance:fU prog 121 1 1:=⟨Hk⟩
instance:fU prog 121 2 4:=⟨Hl⟩
instance:fU prog 121 3 5:=⟨Hm⟩
instance:fU prog 126 0 0:=⟨Hn⟩
instance:fU prog 126 1 2:=⟨Ho⟩
instance:fU prog 134 0 0:=⟨Hp⟩
instance:fU prog 134 1 1:=⟨Hq⟩
instance:fU prog 134 2 4:=⟨Hr⟩
instance:fU prog 144 0 0:=⟨Hs⟩
instance:fU prog 144 1 1:=⟨Ht⟩
instance:fU prog 144 2 2:=⟨Hu⟩
instance:fU prog 151 0 0:=⟨Hv⟩
instance:fU prog 151 1 2:=⟨Hw⟩
instance:fU prog 151 2 3:=⟨Hx⟩
instance:fU prog 151 3 4:=⟨Hy⟩
instance:fU prog 151 4 5:=⟨Hz⟩
instance:fU prog 184 0 0:=⟨HA⟩
instance:fU prog 184 1 1:=⟨HB⟩
instance:fU prog 184 2 4:=⟨HC⟩
instance:fU prog 184 3 5:=⟨HD⟩
instance:fU prog 31 0 0:=⟨j6⟩
instance:fU prog 31 1 1:=⟨rf⟩
instance:fU prog 31 2 2:=⟨rh⟩
instance:fU prog 39 0 0:=⟨cL⟩
instance:fU prog 39 1 1:=⟨oo⟩
instance:fU prog 42 0 0:=⟨KX⟩
instance:fU prog 42 1 1:=⟨KY⟩
instance:fU prog 48 0 0:=⟨oq⟩
instance:fU prog 48 1 2:=⟨vc⟩
instance:fU prog 48 2 3:=⟨zM⟩
instance:fU prog 48 3 4:=⟨rj⟩
instance:fU prog 48 4 5:=⟨ot⟩
instance:fU prog 48 5 6:=⟨zN⟩
instance:fU prog 48 6 7:=⟨zO⟩
instance:fU prog 59 0 0:=⟨iA⟩
instance:fU prog 59 1 1:=⟨ou⟩
instance:fU prog 59 2 2:=⟨mD⟩
instance:fU prog 59 3 3:=⟨jd⟩
instance:fU prog 61 0 0:=⟨vd⟩
instance:fU prog 61 1 1:=⟨rk⟩
instance:fU prog 61 2 2:=⟨zP⟩
instance:fU prog 61 3 3:=⟨rp⟩
instance:fU prog 71 0 0:=⟨KZ⟩
instance:fU prog 71 1 2:=⟨K2⟩
instance:fU prog 88 0 0:=⟨K3⟩
instance:fU prog 88 1 1:=⟨K4⟩
instance:fU prog 88 2 4:=⟨K5⟩
instance:fU prog 88 3 5:=⟨K6⟩
instance:fU prog 88 4 6:=⟨K7⟩
instance:AM prog 107 151 6:=⟨Pb⟩
instance:AM prog 122 126 4:=⟨ED⟩
instance:AM prog 142 9 1:=⟨lY⟩
instance:AM prog 191 5 1:=⟨Iw⟩
instance:AM prog 22 3 1:=⟨zI⟩
instance:AM prog 27 59 4:=⟨gn⟩
instance:AM prog 28 102 4:=⟨pF⟩
instance:AM prog 29 48 8:=⟨iG⟩
instance:AM prog 34 39 2:=⟨dL⟩
instance:AM prog 57 61 4:=⟨su⟩
instance:AM prog 64 71 3:=⟨Cu⟩
instance:C1 prog 107 1:=⟨Pd⟩
instance:C1 prog 131 1:=⟨Pe⟩
instance:C1 prog 142 1:=⟨Pf⟩
instance:C1 prog 28 1:=⟨U3⟩
instance:C1 prog 29 1:=⟨U4⟩
instance:C1 prog 3 1:=⟨Ni⟩
instance:C1 prog 34 1:=⟨U5⟩
instance:C1 prog 35 1:=⟨U6⟩
instance:C1 prog 4 1:=⟨sz4⟩
instance:C1 prog 57 1:=⟨U7⟩
instance:kF prog 117 (.pointer 48):=⟨KU⟩
instance:kF prog 28 (.slice 102):=⟨Iy⟩
instance:kF prog 29 (.slice 48):=⟨Iz⟩
instance:kF prog 34 (.slice 39):=⟨IA⟩
instance:kF prog 9 (.string):=⟨re⟩
instance:yE prog 102 [.int .i64 0,.string ⟨#[]⟩,.string ⟨#[]⟩,.int .i64 0]:=⟨Bx⟩
instance:yE prog 109 [.slice none 0 0,.int .i64 0,.slice none 0 0,.slice none 0 0,.slice none 0 0,.slice none 0 0,.slice none 0 0]:=⟨Pj⟩
instance:yE prog 126 [.int .i64 0,.string ⟨#[]⟩,.int .i64 0,.string ⟨#[]⟩]:=⟨Pk⟩
instance:yE prog 144 [.bool false,.string ⟨#[]⟩,.int .i64 0,.string ⟨#[]⟩]:=⟨o0⟩
instance:yE prog 151 [.int .i64 0,.string ⟨#[]⟩,.bool false,.int .i64 0,.slice none 0 0,.slice none 0 0]:=⟨Pn⟩
instance:yE prog 31 [.int .i64 0,.slice none 0 0,.slice none 0 0]:=⟨Pg⟩
instance:yE prog 34 [.slice none 0 0]:=⟨Va⟩
instance:yE prog 39 [.int .i64 0,.string ⟨#[]⟩]:=⟨zL⟩
instance:yE prog 4 [.bool false]:=⟨zv4⟩
instance:yE prog 42 [.int .i64 0,.int .i64 0,.string ⟨#[]⟩]:=⟨Ph⟩
instance:yE prog 48 [.int .i64 0,.string ⟨#[]⟩,.string ⟨#[]⟩,.slice none 0 0,.int .i64 0,.int .i64 0,.int .i64 0,.bool false]:=⟨nC⟩
instance:yE prog 59 [.bool false,.slice none 0 0,.int .i64 0,.int .i64 0]:=⟨He⟩
instance:yE prog 61 [.bool false,.bool false,.int .i64 0,.int .i64 0]:=⟨KW⟩
instance:yE prog 71 [.int .i64 0,.string ⟨#[]⟩,.string ⟨#[]⟩]:=⟨Vb⟩
theorem cf6:CF prog 6:=call6
theorem cf7:CF prog 7:=call7
theorem cf8:CF prog 8:=call8
theorem Vc:CF prog 10:=call10
theorem sw:CF prog 11:=call11
theorem Po:CF prog 12:=call12
theorem Pp:CF prog 13:=call13
theorem ov:CF prog 14:=call14
theorem Vd:CF prog 15:=call15
theorem Ve:CF prog 16:=call16
theorem Vf:CF prog 18:=call18
theorem Cv:CF prog 19:=call19
theorem Vg:CF prog 20:=call20
theorem K8:CF prog 21:=call21
theorem Pq:CF prog 22:=call22
theorem Vh:CF prog 23:=call23
theorem Vi:CF prog 24:=call24
theorem Vj:CF prog 25:=call25
theorem K9:CF prog 27:=call27
theorem La:CF prog 28:=call28
theorem HE:CF prog 29:=call29
theorem EJ:CF prog 30:=call30
theorem Vk:CF prog 31:=call31
theorem Pr:CF prog 32:=call32
theorem Lb:CF prog 33:=call33
theorem Pu:CF prog 34:=call34
theorem HF:CF prog 35:=call35
theorem Vl:CF prog 36:=call36
theorem Pv:CF prog 37:=call37
theorem mE:CF prog 38:=call38
theorem Vm:CF prog 40:=call40
theorem Pw:CF prog 41:=call41
theorem Lc:CF prog 42:=call42
theorem EL:CF prog 43:=call43
theorem EM:CF prog 44:=call44
theorem Px:CF prog 45:=call45
theorem Le:CF prog 46:=call46
theorem Vn:CF prog 47:=call47
theorem Vo:CF prog 48:=call48
theorem EN:CF prog 49:=call49
theorem Vp:CF prog 54:=call54
theorem Vq:CF prog 55:=call55
theorem Vr:CF prog 56:=call56
theorem Vs:CF prog 57:=call57
theorem Vt:CF prog 58:=call58
theorem Vu:CF prog 59:=call59
theorem Vv:CF prog 61:=call61
theorem Py:CF prog 62:=call62
theorem Pz:CF prog 63:=call63
theorem HG:CF prog 64:=call64
theorem Vw:CF prog 65:=call65
theorem Vx:CF prog 66:=call66
theorem Vy:CF prog 67:=call67
theorem Vz:CF prog 68:=call68
theorem VB:CF prog 69:=call69
theorem HH:CF prog 70:=call70
theorem PA:CF prog 71:=call71
theorem PC:CF prog 72:=call72
theorem VC:CF prog 73:=call73
theorem VD:CF prog 74:=call74
theorem VE:CF prog 75:=call75
theorem VF:CF prog 82:=call82
theorem VG:CF prog 83:=call83
theorem VH:CF prog 84:=call84
theorem VI:CF prog 85:=call85
theorem VJ:CF prog 86:=call86
theorem VK:CF prog 87:=call87
theorem VL:CF prog 88:=call88
theorem VM:CF prog 89:=call89
theorem VN:CF prog 90:=call90
theorem VO:CF prog 91:=call91
theorem VP:CF prog 92:=call92
theorem VQ:CF prog 93:=call93
theorem PD:CF prog 95:=call95
theorem VR:CF prog 96:=call96
theorem VS:CF prog 97:=call97
theorem PE:CF prog 98:=call98
theorem VT:CF prog 99:=call99
theorem PF:CF prog 100:=call100
theorem PG:CF prog 101:=call101
theorem PH:CF prog 102:=call102
theorem PI:CF prog 103:=call103
theorem PJ:CF prog 104:=call104
theorem IC:CF prog 105:=call105
theorem PK:CF prog 107:=call107
theorem PN:CF prog 108:=call108
theorem PO:CF prog 113:=call113
theorem PQ:CF prog 116:=call116
theorem PR:CF prog 117:=call117
theorem PT:CF prog 118:=call118
theorem PU:CF prog 119:=call119
theorem ID:CF prog 120:=call120
theorem PW:CF prog 121:=call121
theorem PX:CF prog 122:=call122
theorem EO:CF prog 123:=call123
theorem PY:CF prog 124:=call124
theorem PZ:CF prog 125:=call125
theorem P0:CF prog 126:=call126
theorem P1:CF prog 127:=call127
theorem P2:CF prog 128:=call128
theorem P3:CF prog 129:=call129
theorem P4:CF prog 130:=call130
theorem P5:CF prog 131:=call131
theorem P6:CF prog 132:=call132
theorem EP:CF prog 133:=call133
theorem P7:CF prog 138:=call138
theorem P8:CF prog 140:=call140
theorem P9:CF prog 141:=call141
theorem IE:CF prog 142:=call142
theorem Qa:CF prog 145:=call145
theorem Qb:CF prog 147:=call147
theorem Qc:CF prog 148:=call148
theorem Qd:CF prog 149:=call149
theorem Qe:CF prog 150:=call150
theorem Qf:CF prog 151:=call151
theorem IF:CF prog 152:=call152
theorem Qg:CF prog 153:=call153
theorem IH:CF prog 154:=call154
theorem Qh:CF prog 155:=call155
theorem Qi:CF prog 156:=call156
theorem II:CF prog 157:=call157
theorem Qj:CF prog 158:=call158
theorem Qk:CF prog 159:=call159
theorem IJ:CF prog 161:=call161
theorem Ql:CF prog 162:=call162
theorem Qm:CF prog 163:=call163
theorem ET:CF prog 164:=call164
theorem Qn:CF prog 166:=call166
theorem Qo:CF prog 199:=call199
theorem Qp:CF prog 200:=call200
theorem Qq:CF prog 201:=call201
theorem Qr:CF prog 202:=call202
theorem Qs:CF prog 203:=call203
theorem Qt:CF prog 204:=call204
theorem Qu:CF prog 205:=call205
theorem Qv:CF prog 206:=call206
theorem Qw:CF prog 207:=call207
theorem IK:CF prog 208:=call208
theorem Qx:CF prog 209:=call209
theorem Qy:CF prog 210:=call210
theorem Qz:CF prog 286:=call286
theorem QA:CF prog 287:=call287
theorem QB:CF prog 290:=call290
theorem QC:CF prog 300:=call300
theorem QD:CF prog 373:=call373
theorem QE:CF prog 380:=call380
theorem QF:CF prog 381:=call381
theorem QG:CF prog 382:=call382
instance:fi prog 6:=⟨cf6⟩
instance:fi prog 11:=⟨sw⟩
instance:fi prog 15:=⟨Vd⟩
instance:fi prog 19:=⟨Cv⟩
instance:fi prog 23:=⟨Vh⟩
instance:fi prog 29:=⟨HE⟩
instance:fi prog 36:=⟨Vl⟩
instance:fi prog 40:=⟨Vm⟩
instance:fi prog 41:=⟨Pw⟩
instance:fi prog 43:=⟨EL⟩
instance:fi prog 44:=⟨EM⟩
instance:fi prog 45:=⟨Px⟩
instance:fi prog 46:=⟨Le⟩
instance:fi prog 48:=⟨Vo⟩
instance:fi prog 54:=⟨Vp⟩
instance:fi prog 56:=⟨Vr⟩
instance:fi prog 63:=⟨Pz⟩
instance:fi prog 64:=⟨HG⟩
instance:fi prog 72:=⟨PC⟩
instance:fi prog 75:=⟨VE⟩
instance:fi prog 82:=⟨VF⟩
instance:fi prog 83:=⟨VG⟩
instance:fi prog 84:=⟨VH⟩
instance:fi prog 86:=⟨VJ⟩
instance:fi prog 89:=⟨VM⟩
instance:fi prog 92:=⟨VP⟩
instance:fi prog 99:=⟨VT⟩
instance:fi prog 102:=⟨PH⟩
instance:fi prog 107:=⟨PK⟩
instance:fi prog 113:=⟨PO⟩
instance:fi prog 116:=⟨PQ⟩
instance:fi prog 117:=⟨PR⟩
instance:fi prog 118:=⟨PT⟩
instance:fi prog 119:=⟨PU⟩
instance:fi prog 120:=⟨ID⟩
instance:fi prog 121:=⟨PW⟩
instance:fi prog 123:=⟨EO⟩
instance:fi prog 124:=⟨PY⟩
instance:fi prog 125:=⟨PZ⟩
instance:fi prog 126:=⟨P0⟩
instance:fi prog 127:=⟨P1⟩
instance:fi prog 131:=⟨P5⟩
instance:fi prog 132:=⟨P6⟩
instance:fi prog 138:=⟨P7⟩
instance:fi prog 145:=⟨Qa⟩
instance:fi prog 147:=⟨Qb⟩
instance:fi prog 148:=⟨Qc⟩
instance:fi prog 149:=⟨Qd⟩
instance:fi prog 150:=⟨Qe⟩
instance:fi prog 154:=⟨IH⟩
instance:fi prog 159:=⟨Qk⟩
instance:fi prog 162:=⟨Ql⟩
instance:fi prog 164:=⟨ET⟩
instance:fi prog 166:=⟨Qn⟩
instance:fi prog 199:=⟨Qo⟩
instance:fi prog 201:=⟨Qq⟩
instance:fi prog 204:=⟨Qt⟩
instance:fi prog 205:=⟨Qu⟩
instance:fi prog 210:=⟨Qy⟩
instance:fi prog 290:=⟨QB⟩
instance:fi prog 300:=⟨QC⟩
instance:fi prog 373:=⟨QD⟩
instance:fi prog 380:=⟨QE⟩
instance:fi prog 381:=⟨QF⟩
instance:fi prog 382:=⟨QG⟩
end Go.Rc

