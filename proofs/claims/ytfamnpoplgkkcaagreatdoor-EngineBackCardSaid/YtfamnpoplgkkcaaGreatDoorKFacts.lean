/- Walks over the program, part Facts. Conditions: as each theorem says. -/
import Derived.Test.YtfamnpoplgkkcaaGreatDoorProg
import Derived.Test.YtfamnpoplgkkcaaGreatDoorKBd
set_option linter.all false
namespace Go.Rc
open Go Go.Proofs Go.Proofs.Tryz
theorem mixed:prog.follows .mixedOrders=true:=by kernel_rfl
theorem fP:zk prog 41:=DR underlying41 rfl rfl rfl rfl (by decide) (by decide) underlying3 underlying9 isAgg3 isAgg9 (by kernel_rfl) (by kernel_rfl)
theorem cq:ow prog 31 3:=⟨⟨_,underlying31⟩,by kernel_rfl⟩
theorem aq:ow prog 41 2:=⟨⟨_,underlying41⟩,by kernel_rfl⟩
theorem dV:ow prog 47 8:=⟨⟨_,underlying47⟩,by kernel_rfl⟩
theorem Cs:ow prog 58 4:=⟨⟨_,underlying58⟩,by kernel_rfl⟩
theorem vz:ow prog 65 3:=⟨⟨_,underlying65⟩,by kernel_rfl⟩
theorem jk:ow prog 88 4:=⟨⟨_,underlying88⟩,by kernel_rfl⟩
theorem mS:ow prog 102 4:=⟨⟨_,underlying102⟩,by kernel_rfl⟩
theorem Ct:ow prog 126 6:=⟨⟨_,underlying126⟩,by kernel_rfl⟩
theorem mT:ow prog 140 4:=⟨⟨_,underlying140⟩,by kernel_rfl⟩
theorem Cu:ow prog 167 4:=⟨⟨_,underlying167⟩,by kernel_rfl⟩
theorem Su:AP prog 22 3 1 8:=kq (z:=.int .i64 0) underlying22 (by kernel_rfl) (by kernel_rfl) (by decide)
theorem Sv:AP prog 27 58 4 48:=kq (z:=.agg #[.bool false,.slice none 0 0,.int .i64 0,.int .i64 0]) underlying27 (by kernel_rfl) (by kernel_rfl) (by decide)
theorem Sw:AP prog 28 88 4 48:=kq (z:=.agg #[.int .i64 0,.string ⟨#[]⟩,.string ⟨#[]⟩,.int .i64 0]) underlying28 (by kernel_rfl) (by kernel_rfl) (by decide)
theorem Sx:AP prog 29 47 8 96:=kq (z:=.agg #[.int .i64 0,.string ⟨#[]⟩,.string ⟨#[]⟩,.slice none 0 0,.int .i64 0,.int .i64 0,.int .i64 0,.bool false]) underlying29 (by kernel_rfl) (by kernel_rfl) (by decide)
theorem qJ:AP prog 34 41 2 24:=kq (z:=.agg #[.int .i64 0,.string ⟨#[]⟩]) underlying34 (by kernel_rfl) (by kernel_rfl) (by decide)
theorem Sy:AP prog 54 65 3 40:=kq (z:=.agg #[.int .i64 0,.string ⟨#[]⟩,.string ⟨#[]⟩]) underlying54 (by kernel_rfl) (by kernel_rfl) (by decide)
theorem Sz:AP prog 56 102 4 24:=kq (z:=.agg #[.bool false,.bool false,.int .i64 0,.int .i64 0]) underlying56 (by kernel_rfl) (by kernel_rfl) (by decide)
theorem SA:AP prog 77 126 6 88:=kq (z:=.agg #[.int .i64 0,.string ⟨#[]⟩,.bool false,.int .i64 0,.slice none 0 0,.slice none 0 0]) underlying77 (by kernel_rfl) (by kernel_rfl) (by decide)
theorem GA:AP prog 124 9 1 16:=kq (z:=.string ⟨#[]⟩) underlying124 (by kernel_rfl) (by kernel_rfl) (by decide)
theorem Mw:AP prog 164 167 4 48:=kq (z:=.agg #[.int .i64 0,.string ⟨#[]⟩,.int .i64 0,.string ⟨#[]⟩]) underlying164 (by kernel_rfl) (by kernel_rfl) (by decide)
theorem Cv:BS prog 22 3 1 1 [.int .i64 0]:=⟨underlying22,sizeOf3,by decide,by decide,_,zeroValue3,by kernel_rfl⟩
theorem IK:BS prog 27 58 4 1 [.bool false,.slice none 0 0,.int .i64 0,.int .i64 0]:=⟨underlying27,sizeOf58,by decide,by decide,_,zeroValue58,by kernel_rfl⟩
theorem x5:BS prog 28 88 4 1 [.int .i64 0,.string ⟨#[]⟩,.string ⟨#[]⟩,.int .i64 0]:=⟨underlying28,sizeOf88,by decide,by decide,_,zeroValue88,by kernel_rfl⟩
theorem Cw:BS prog 29 47 8 1 [.int .i64 0,.string ⟨#[]⟩,.string ⟨#[]⟩,.slice none 0 0,.int .i64 0,.int .i64 0,.int .i64 0,.bool false]:=⟨underlying29,sizeOf47,by decide,by decide,_,zeroValue47,by kernel_rfl⟩
theorem ey:BS prog 34 41 2 1 [.int .i64 0,.string ⟨#[]⟩]:=⟨underlying34,sizeOf41,by decide,by decide,_,zeroValue41,by kernel_rfl⟩
theorem pK:BS prog 54 65 3 1 [.int .i64 0,.string ⟨#[]⟩,.string ⟨#[]⟩]:=⟨underlying54,sizeOf65,by decide,by decide,_,zeroValue65,by kernel_rfl⟩
theorem Cx:BS prog 56 102 4 1 [.bool false,.bool false,.int .i64 0,.int .i64 0]:=⟨underlying56,sizeOf102,by decide,by decide,_,zeroValue102,by kernel_rfl⟩
theorem IL:BS prog 77 126 6 1 [.int .i64 0,.string ⟨#[]⟩,.bool false,.int .i64 0,.slice none 0 0,.slice none 0 0]:=⟨underlying77,sizeOf126,by decide,by decide,_,zeroValue126,by kernel_rfl⟩
theorem tp:BS prog 124 9 1 1 [.string ⟨#[]⟩]:=⟨underlying124,sizeOf9,by decide,by decide,_,zeroValue9,by kernel_rfl⟩
theorem ET:BS prog 164 167 4 1 [.int .i64 0,.string ⟨#[]⟩,.int .i64 0,.string ⟨#[]⟩]:=⟨underlying164,sizeOf167,by decide,by decide,_,zeroValue167,by kernel_rfl⟩
theorem Cy:BS prog 124 9 1 10 [.string ⟨#[]⟩,.string ⟨#[]⟩,.string ⟨#[]⟩,.string ⟨#[]⟩,.string ⟨#[]⟩,.string ⟨#[]⟩,.string ⟨#[]⟩,.string ⟨#[]⟩,.string ⟨#[]⟩,.string ⟨#[]⟩]:=⟨underlying124,sizeOf9,by decide,by decide,_,zeroValue9,by kernel_rfl⟩
theorem IM:BS prog 22 3 1 2 [.int .i64 0,.int .i64 0]:=⟨underlying22,sizeOf3,by decide,by decide,_,zeroValue3,by kernel_rfl⟩
theorem IP:BS prog 27 58 4 2 [.bool false,.slice none 0 0,.int .i64 0,.int .i64 0,.bool false,.slice none 0 0,.int .i64 0,.int .i64 0]:=⟨underlying27,sizeOf58,by decide,by decide,_,zeroValue58,by kernel_rfl⟩
theorem IQ:BS prog 56 102 4 2 [.bool false,.bool false,.int .i64 0,.int .i64 0,.bool false,.bool false,.int .i64 0,.int .i64 0]:=⟨underlying56,sizeOf102,by decide,by decide,_,zeroValue102,by kernel_rfl⟩
theorem IU:BS prog 22 3 1 6 [.int .i64 0,.int .i64 0,.int .i64 0,.int .i64 0,.int .i64 0,.int .i64 0]:=⟨underlying22,sizeOf3,by decide,by decide,_,zeroValue3,by kernel_rfl⟩
theorem Mx:BT prog 31 [.int .i64 0,.slice none 0 0,.slice none 0 0] [(0,1),(1,1),(2,1)]:=gY (fs:=[_,_,_]) zeroValue31 rfl underlying31 ⟨rfl,sizeOf3,rfl,sizeOf28,rfl,sizeOf29,trivial⟩
theorem vA:BT prog 41 [.int .i64 0,.string ⟨#[]⟩] [(0,1),(1,1)]:=gY (fs:=[_,_]) zeroValue41 rfl underlying41 ⟨rfl,sizeOf3,rfl,sizeOf9,trivial⟩
theorem IV:BT prog 47 [.int .i64 0,.string ⟨#[]⟩,.string ⟨#[]⟩,.slice none 0 0,.int .i64 0,.int .i64 0,.int .i64 0,.bool false] [(0,2),(2,1),(3,1),(4,1),(5,1),(6,1),(7,1)]:=gY (fs:=[_,_,_,_,_,_,_]) zeroValue47 rfl underlying47 ⟨rfl,sizeOf41,rfl,sizeOf9,rfl,sizeOf34,rfl,sizeOf3,rfl,sizeOf3,rfl,sizeOf3,rfl,sizeOf4,trivial⟩
theorem EU:BT prog 58 [.bool false,.slice none 0 0,.int .i64 0,.int .i64 0] [(0,1),(1,1),(2,1),(3,1)]:=gY (fs:=[_,_,_,_]) zeroValue58 rfl underlying58 ⟨rfl,sizeOf4,rfl,sizeOf56,rfl,sizeOf3,rfl,sizeOf3,trivial⟩
theorem Cz:BT prog 65 [.int .i64 0,.string ⟨#[]⟩,.string ⟨#[]⟩] [(0,2),(2,1)]:=gY (fs:=[_,_]) zeroValue65 rfl underlying65 ⟨rfl,sizeOf41,rfl,sizeOf9,trivial⟩
theorem SB:BT prog 70 [.slice none 0 0,.int .i64 0] [(0,1),(1,1)]:=gY (fs:=[_,_]) zeroValue70 rfl underlying70 ⟨rfl,sizeOf22,rfl,sizeOf3,trivial⟩
theorem SC:BT prog 86 [.slice none 0 0,.int .i64 0,.slice none 0 0,.slice none 0 0,.map none,.pointer none,.slice none 0 0] [(0,1),(1,3),(4,1),(5,1),(6,1)]:=gY (fs:=[_,_,_,_,_]) zeroValue86 rfl underlying86 ⟨rfl,sizeOf27,rfl,sizeOf31,rfl,sizeOf83,rfl,sizeOf84,rfl,sizeOf34,trivial⟩
theorem EV:BT prog 88 [.int .i64 0,.string ⟨#[]⟩,.string ⟨#[]⟩,.int .i64 0] [(0,2),(2,1),(3,1)]:=gY (fs:=[_,_,_]) zeroValue88 rfl underlying88 ⟨rfl,sizeOf41,rfl,sizeOf9,rfl,sizeOf3,trivial⟩
theorem vB:BT prog 102 [.bool false,.bool false,.int .i64 0,.int .i64 0] [(0,1),(1,1),(2,1),(3,1)]:=gY (fs:=[_,_,_,_]) zeroValue102 rfl underlying102 ⟨rfl,sizeOf4,rfl,sizeOf4,rfl,sizeOf3,rfl,sizeOf3,trivial⟩
theorem My:BT prog 126 [.int .i64 0,.string ⟨#[]⟩,.bool false,.int .i64 0,.slice none 0 0,.slice none 0 0] [(0,2),(2,1),(3,1),(4,1),(5,1)]:=gY (fs:=[_,_,_,_,_]) zeroValue126 rfl underlying126 ⟨rfl,sizeOf41,rfl,sizeOf4,rfl,sizeOf3,rfl,sizeOf34,rfl,sizeOf124,trivial⟩
theorem vC:BT prog 140 [.bool false,.string ⟨#[]⟩,.int .i64 0,.string ⟨#[]⟩] [(0,1),(1,1),(2,2)]:=gY (fs:=[_,_,_]) zeroValue140 rfl underlying140 ⟨rfl,sizeOf4,rfl,sizeOf9,rfl,sizeOf41,trivial⟩
theorem Mz:BT prog 158 [.slice none 0 0,.int .i64 0,.slice none 0 0,.slice none 0 0,.map none,.map none] [(0,1),(1,3),(4,1),(5,1)]:=gY (fs:=[_,_,_,_]) zeroValue158 rfl underlying158 ⟨rfl,sizeOf27,rfl,sizeOf31,rfl,sizeOf134,rfl,sizeOf151,trivial⟩
theorem MA:BT prog 167 [.int .i64 0,.string ⟨#[]⟩,.int .i64 0,.string ⟨#[]⟩] [(0,2),(2,2)]:=gY (fs:=[_,_]) zeroValue167 rfl underlying167 ⟨rfl,sizeOf41,rfl,sizeOf41,trivial⟩
theorem y2:BT prog 432 [.string ⟨#[]⟩,.string ⟨#[]⟩,.nilIface] [(0,1),(1,1),(2,1)]:=gY (fs:=[_,_,_]) zeroValue432 rfl underlying432 ⟨rfl,sizeOf9,rfl,sizeOf9,rfl,sizeOf189,trivial⟩
theorem cV:KK prog 41 Key.val:=Hk underlying41 fP (zn underlying41 rfl rfl rfl rfl underlying3 underlying9 isAgg3 isAgg9)
theorem tq:∃ms,prog.underlying 189=some (.interface ms):=⟨_,underlying189⟩
theorem aT:One prog 3:=isAgg3
theorem ed:One prog 4:=isAgg4
theorem e4:One prog 9:=isAgg9
theorem GB:One prog 22:=isAgg22
theorem vD:One prog 27:=isAgg27
theorem hV:One prog 28:=isAgg28
theorem iH:One prog 29:=isAgg29
theorem eD:One prog 34:=isAgg34
theorem ma:One prog 56:=isAgg56
theorem CB:One prog 75:=isAgg75
theorem dD:One prog 83:=isAgg83
theorem sf:One prog 84:=isAgg84
theorem CC:One prog 124:=isAgg124
theorem fQ:One prog 134:=isAgg134
theorem x7:One prog 151:=isAgg151
theorem tr:One prog 189:=isAgg189
theorem x8:rf prog 22 3 1:=⟨underlying22,sizeOf3⟩
theorem iI:rf prog 27 58 4:=⟨underlying27,sizeOf58⟩
theorem oj:rf prog 28 88 4:=⟨underlying28,sizeOf88⟩
theorem jQ:rf prog 29 47 8:=⟨underlying29,sizeOf47⟩
theorem fR:rf prog 34 41 2:=⟨underlying34,sizeOf41⟩
theorem Ah:rf prog 54 65 3:=⟨underlying54,sizeOf65⟩
theorem EW:rf prog 56 102 4:=⟨underlying56,sizeOf102⟩
theorem pL:rf prog 77 126 6:=⟨underlying77,sizeOf126⟩
theorem vE:rf prog 124 9 1:=⟨underlying124,sizeOf9⟩
theorem GC:rf prog 164 167 4:=⟨underlying164,sizeOf167⟩
theorem GD:rf prog 219 5 1:=⟨underlying219,sizeOf5⟩
theorem SE:∀w,(sizeOf 41).run prog w=.ok 2 w:=sizeOf41
theorem SF:∀w,(sizeOf 47).run prog w=.ok 8 w:=sizeOf47
theorem SG:∀w,(sizeOf 88).run prog w=.ok 4 w:=sizeOf88
theorem GF:(prog.info? 3).map (·.size)=some 1:=by kernel_rfl
theorem QN:(prog.info? 4).map (·.size)=some 1:=by kernel_rfl
theorem SH:(prog.info? 28).map (·.size)=some 1:=by kernel_rfl
theorem SI:(prog.info? 29).map (·.size)=some 1:=by kernel_rfl
theorem iJ:(prog.info? 31).map (·.size)=some 3:=by kernel_rfl
theorem MB:(prog.info? 34).map (·.size)=some 1:=by kernel_rfl
theorem SJ:(prog.info? 36).map (·.size)=some 1:=by kernel_rfl
theorem gz:(prog.info? 41).map (·.size)=some 2:=by kernel_rfl
theorem iK:(prog.info? 47).map (·.size)=some 8:=by kernel_rfl
theorem SK:(prog.info? 56).map (·.size)=some 1:=by kernel_rfl
theorem EY:(prog.info? 58).map (·.size)=some 4:=by kernel_rfl
theorem CD:(prog.info? 65).map (·.size)=some 3:=by kernel_rfl
theorem SM:(prog.info? 77).map (·.size)=some 1:=by kernel_rfl
theorem vF:(prog.info? 88).map (·.size)=some 4:=by kernel_rfl
theorem vG:(prog.info? 102).map (·.size)=some 4:=by kernel_rfl
theorem GG:(prog.info? 124).map (·.size)=some 1:=by kernel_rfl
theorem MC:(prog.info? 134).map (·.size)=some 1:=by kernel_rfl
theorem mb:(prog.info? 140).map (·.size)=some 4:=by kernel_rfl
theorem MD:(prog.info? 167).map (·.size)=some 4:=by kernel_rfl
theorem SN:prog.underlying 3=some (.int .i64):=underlying3
theorem SO:prog.underlying 5=some (.int .u8):=underlying5
theorem pM:prog.underlying 9=some (.string):=underlying9
theorem GH:prog.underlying 28=some (.slice 88):=underlying28
theorem GI:prog.underlying 29=some (.slice 47):=underlying29
theorem GJ:prog.underlying 34=some (.slice 41):=underlying34
theorem dE:prog.underlying 83=some (.map 41 120):=underlying83
theorem IW:prog.underlying 120=some (.pointer 47):=underlying120
theorem fu:prog.underlying 134=some (.map 41 9):=underlying134
theorem CE:prog.underlying 135=some (.map 41 34):=underlying135
theorem jc:prog.underlying 151=some (.map 41 4):=underlying151
theorem zv4:ZV prog 4 [.bool false]:=⟨_,zeroValue4,rfl⟩
theorem ME:ZV prog 31 [.int .i64 0,.slice none 0 0,.slice none 0 0]:=⟨_,zeroValue31,rfl⟩
theorem SP:ZV prog 34 [.slice none 0 0]:=⟨_,zeroValue34,rfl⟩
theorem Ai:ZV prog 41 [.int .i64 0,.string ⟨#[]⟩]:=⟨_,zeroValue41,rfl⟩
theorem CH:ZV prog 47 [.int .i64 0,.string ⟨#[]⟩,.string ⟨#[]⟩,.slice none 0 0,.int .i64 0,.int .i64 0,.int .i64 0,.bool false]:=⟨_,zeroValue47,rfl⟩
theorem MF:ZV prog 58 [.bool false,.slice none 0 0,.int .i64 0,.int .i64 0]:=⟨_,zeroValue58,rfl⟩
theorem SQ:ZV prog 65 [.int .i64 0,.string ⟨#[]⟩,.string ⟨#[]⟩]:=⟨_,zeroValue65,rfl⟩
theorem EZ:ZV prog 88 [.int .i64 0,.string ⟨#[]⟩,.string ⟨#[]⟩,.int .i64 0]:=⟨_,zeroValue88,rfl⟩
theorem MG:ZV prog 102 [.bool false,.bool false,.int .i64 0,.int .i64 0]:=⟨_,zeroValue102,rfl⟩
theorem MH:ZV prog 107 [.slice none 0 0,.int .i64 0,.slice none 0 0,.slice none 0 0,.slice none 0 0,.slice none 0 0,.slice none 0 0]:=⟨_,zeroValue107,rfl⟩
theorem MI:ZV prog 126 [.int .i64 0,.string ⟨#[]⟩,.bool false,.int .i64 0,.slice none 0 0,.slice none 0 0]:=⟨_,zeroValue126,rfl⟩
theorem MJ:ZV prog 134 [.map none]:=⟨_,zeroValue134,rfl⟩
theorem y5:ZV prog 140 [.bool false,.string ⟨#[]⟩,.int .i64 0,.string ⟨#[]⟩]:=⟨_,zeroValue140,rfl⟩
theorem MK:ZV prog 167 [.int .i64 0,.string ⟨#[]⟩,.int .i64 0,.string ⟨#[]⟩]:=⟨_,zeroValue167,rfl⟩
theorem IX:∀w,(zeroValue 4).run prog w=.ok (.bool false) w:=zeroValue4
theorem qK:∀w,(zeroValue 9).run prog w=.ok (.string ⟨#[]⟩) w:=zeroValue9
theorem GK:∀w,(zeroValue 34).run prog w=.ok (.slice none 0 0) w:=zeroValue34
theorem db:∀w,(zeroValue 120).run prog w=.ok (.pointer none) w:=zeroValue120
theorem mU:FA prog 31 0 0:=bt underlying31 rfl sizeOf3 (by decide) rfl
theorem pN:FA prog 31 1 1:=bt underlying31 rfl sizeOf28 (by decide) rfl
theorem x9:FA prog 31 2 2:=bt underlying31 rfl sizeOf29 (by decide) rfl
theorem dp:FA prog 41 0 0:=bt underlying41 rfl sizeOf3 (by decide) rfl
theorem mV:FA prog 41 1 1:=bt underlying41 rfl sizeOf9 (by decide) rfl
theorem mW:FA prog 47 0 0:=bt underlying47 rfl sizeOf41 (by decide) rfl
theorem CI:FA prog 47 1 2:=bt underlying47 rfl sizeOf9 (by decide) rfl
theorem ya:FA prog 47 2 3:=bt underlying47 rfl sizeOf34 (by decide) rfl
theorem yb:FA prog 47 3 4:=bt underlying47 rfl sizeOf3 (by decide) rfl
theorem ts:FA prog 47 4 5:=bt underlying47 rfl sizeOf3 (by decide) rfl
theorem ye:FA prog 47 5 6:=bt underlying47 rfl sizeOf3 (by decide) rfl
theorem CJ:FA prog 47 6 7:=bt underlying47 rfl sizeOf4 (by decide) rfl
theorem mX:FA prog 58 0 0:=bt underlying58 rfl sizeOf4 (by decide) rfl
theorem IY:FA prog 58 1 1:=bt underlying58 rfl sizeOf56 (by decide) rfl
theorem IZ:FA prog 58 2 2:=bt underlying58 rfl sizeOf3 (by decide) rfl
theorem I0:FA prog 58 3 3:=bt underlying58 rfl sizeOf3 (by decide) rfl
theorem I1:FA prog 65 0 0:=bt underlying65 rfl sizeOf41 (by decide) rfl
theorem I2:FA prog 65 1 2:=bt underlying65 rfl sizeOf9 (by decide) rfl
theorem CK:FA prog 70 0 0:=bt underlying70 rfl sizeOf22 (by decide) rfl
theorem tt:FA prog 70 1 1:=bt underlying70 rfl sizeOf3 (by decide) rfl
theorem I3:FA prog 86 0 0:=bt underlying86 rfl sizeOf27 (by decide) rfl
theorem I4:FA prog 86 1 1:=bt underlying86 rfl sizeOf31 (by decide) rfl
theorem I5:FA prog 86 2 4:=bt underlying86 rfl sizeOf83 (by decide) rfl
theorem I6:FA prog 86 3 5:=bt underlying86 rfl sizeOf84 (by decide) rfl
theorem I7:FA prog 86 4 6:=bt underlying86 rfl sizeOf34 (by decide) rfl
theorem mY:FA prog 88 0 0:=bt underlying88 rfl sizeOf41 (by decide) rfl
theorem yf:FA prog 88 1 2:=bt underlying88 rfl sizeOf9 (by decide) rfl
theorem pO:FA prog 88 2 3:=bt underlying88 rfl sizeOf3 (by decide) rfl
theorem E0:FA prog 102 0 0:=bt underlying102 rfl sizeOf4 (by decide) rfl
theorem E1:FA prog 102 1 1:=bt underlying102 rfl sizeOf4 (by decide) rfl
theorem E3:FA prog 102 2 2:=bt underlying102 rfl sizeOf3 (by decide) rfl
theorem E4:FA prog 102 3 3:=bt underlying102 rfl sizeOf3 (by decide) rfl
theorem E7:FA prog 107 0 0:=bt underlying107 rfl sizeOf27 (by decide) rfl
theorem E8:FA prog 107 1 1:=bt underlying107 rfl sizeOf31 (by decide) rfl
theorem E9:FA prog 107 2 4:=bt underlying107 rfl sizeOf34 (by decide) rfl
theorem Fa:FA prog 107 3 5:=bt underlying107 rfl sizeOf77 (by decide) rfl
theorem Fb:FA prog 107 4 6:=bt underlying107 rfl sizeOf34 (by decide) rfl
theorem Fc:FA prog 126 0 0:=bt underlying126 rfl sizeOf41 (by decide) rfl
theorem Fe:FA prog 126 1 2:=bt underlying126 rfl sizeOf4 (by decide) rfl
theorem Ff:FA prog 126 2 3:=bt underlying126 rfl sizeOf3 (by decide) rfl
theorem Fg:FA prog 126 3 4:=bt underlying126 rfl sizeOf34 (by decide) rfl
theorem Fh:FA prog 126 4 5:=bt underlying126 rfl sizeOf124 (by decide) rfl
theorem Fi:FA prog 137 0 0:=bt underlying137 rfl sizeOf27 (by decide) rfl
theorem Fj:FA prog 137 1 1:=bt underlying137 rfl sizeOf31 (by decide) rfl
theorem Fk:FA prog 137 2 4:=bt underlying137 rfl sizeOf134 (by decide) rfl
theorem Fl:FA prog 140 0 0:=bt underlying140 rfl sizeOf4 (by decide) rfl
theorem Fm:FA prog 140 1 1:=bt underlying140 rfl sizeOf9 (by decide) rfl
theorem Fo:FA prog 140 2 2:=bt underlying140 rfl sizeOf41 (by decide) rfl
theorem Fp:FA prog 153 0 0:=bt underlying153 rfl sizeOf92 (by decide) rfl
theorem Fq:FA prog 153 1 1:=bt underlying153 rfl sizeOf31 (by decide) rfl
theorem Fs:FA prog 153 2 4:=bt underlying153 rfl sizeOf151 (by decide) rfl
theorem Ft:FA prog 153 3 5:=bt underlying153 rfl sizeOf34 (by decide) rfl
theorem Fu:FA prog 153 4 6:=bt underlying153 rfl sizeOf36 (by decide) rfl
theorem Fv:FA prog 158 0 0:=bt underlying158 rfl sizeOf27 (by decide) rfl
theorem Fw:FA prog 158 1 1:=bt underlying158 rfl sizeOf31 (by decide) rfl
theorem Fx:FA prog 158 2 4:=bt underlying158 rfl sizeOf134 (by decide) rfl
theorem Fy:FA prog 158 3 5:=bt underlying158 rfl sizeOf151 (by decide) rfl
theorem Fz:FA prog 167 0 0:=bt underlying167 rfl sizeOf41 (by decide) rfl
theorem FB:FA prog 167 1 2:=bt underlying167 rfl sizeOf41 (by decide) rfl
instance:Bk prog 124 9 1 16:=⟨GA⟩
instance:Bk prog 164 167 4 48:=⟨Mw⟩
instance:Bk prog 22 3 1 8:=⟨Su⟩
instance:Bk prog 27 58 4 48:=⟨Sv⟩
instance:Bk prog 28 88 4 48:=⟨Sw⟩
instance:Bk prog 29 47 8 96:=⟨Sx⟩
instance:Bk prog 34 41 2 24:=⟨qJ⟩
instance:Bk prog 54 65 3 40:=⟨Sy⟩
instance:Bk prog 56 102 4 24:=⟨Sz⟩
instance:Bk prog 77 126 6 88:=⟨SA⟩
instance:Ky prog 41 [.int .i64 0,.string ⟨#[]⟩] [(0,1),(1,1)]:=⟨vA⟩
instance:Ky prog 47 [.int .i64 0,.string ⟨#[]⟩,.string ⟨#[]⟩,.slice none 0 0,.int .i64 0,.int .i64 0,.int .i64 0,.bool false] [(0,2),(2,1),(3,1),(4,1),(5,1),(6,1),(7,1)]:=⟨IV⟩
instance:Ky prog 88 [.int .i64 0,.string ⟨#[]⟩,.string ⟨#[]⟩,.int .i64 0] [(0,2),(2,1),(3,1)]:=⟨EV⟩
instance:fj prog 102 0 0:=⟨E0⟩
instance:fj prog 102 1 1:=⟨E1⟩
instance:fj prog 102 2 2:=⟨E3⟩
instance:fj prog 102 3 3:=⟨E4⟩
instance:fj prog 107 0 0:=⟨E7⟩
instance:fj prog 107 1 1:=⟨E8⟩
instance:fj prog 107 2 4:=⟨E9⟩
instance:fj prog 107 3 5:=⟨Fa⟩
instance:fj prog 107 4 6:=⟨Fb⟩
instance:fj prog 126 0 0:=⟨Fc⟩
instance:fj prog 126 1 2:=⟨Fe⟩
instance:fj prog 126 2 3:=⟨Ff⟩
instance:fj prog 126 3 4:=⟨Fg⟩
instance:fj prog 126 4 5:=⟨Fh⟩
instance:fj prog 137 0 0:=⟨Fi⟩
instance:fj prog 137 1 1:=⟨Fj⟩
instance:fj prog 137 2 4:=⟨Fk⟩
instance:fj prog 140 0 0:=⟨Fl⟩
instance:fj prog 140 1 1:=⟨Fm⟩
instance:fj prog 140 2 2:=⟨Fo⟩
instance:fj prog 153 0 0:=⟨Fp⟩
instance:fj prog 153 1 1:=⟨Fq⟩
instance:fj prog 153 2 4:=⟨Fs⟩
instance:fj prog 153 3 5:=⟨Ft⟩
instance:fj prog 153 4 6:=⟨Fu⟩
instance:fj prog 158 0 0:=⟨Fv⟩
instance:fj prog 158 1 1:=⟨Fw⟩
instance:fj prog 158 2 4:=⟨Fx⟩
instance:fj prog 158 3 5:=⟨Fy⟩
instance:fj prog 167 0 0:=⟨Fz⟩
instance:fj prog 167 1 2:=⟨FB⟩
instance:fj prog 31 0 0:=⟨mU⟩
instance:fj prog 31 1 1:=⟨pN⟩
instance:fj prog 31 2 2:=⟨x9⟩
instance:fj prog 41 0 0:=⟨dp⟩
instance:fj prog 41 1 1:=⟨mV⟩
instance:fj prog 47 0 0:=⟨mW⟩
instance:fj prog 47 1 2:=⟨CI⟩
instance:fj prog 47 2 3:=⟨ya⟩
instance:fj prog 47 3 4:=⟨yb⟩
instance:fj prog 47 4 5:=⟨ts⟩
instance:fj prog 47 5 6:=⟨ye⟩
instance:fj prog 47 6 7:=⟨CJ⟩
instance:fj prog 58 0 0:=⟨mX⟩
instance:fj prog 58 1 1:=⟨IY⟩
instance:fj prog 58 2 2:=⟨IZ⟩
instance:fj prog 58 3 3:=⟨I0⟩
instance:fj prog 65 0 0:=⟨I1⟩
instance:fj prog 65 1 2:=⟨I2⟩
instance:fj prog 86 0 0:=⟨I3⟩
instance:fj prog 86 1 1:=⟨I4⟩
instance:fj prog 86 2 4:=⟨I5⟩
instance:fj prog 86 3 5:=⟨I6⟩
instance:fj prog 86 4 6:=⟨I7⟩
instance:fj prog 88 0 0:=⟨mY⟩
instance:fj prog 88 1 2:=⟨yf⟩
instance:fj prog 88 2 3:=⟨pO⟩
instance:xm prog 41:=⟨fP⟩
instance:yG prog 124 9 1:=⟨vE⟩
instance:yG prog 164 167 4:=⟨GC⟩
instance:yG prog 219 5 1:=⟨GD⟩
instance:yG prog 22 3 1:=⟨x8⟩
instance:yG prog 27 58 4:=⟨iI⟩
instance:yG prog 28 88 4:=⟨oj⟩
instance:yG prog 29 47 8:=⟨jQ⟩
instance:yG prog 34 41 2:=⟨fR⟩
instance:yG prog 54 65 3:=⟨Ah⟩
instance:yG prog 56 102 4:=⟨EW⟩
instance:yG prog 77 126 6:=⟨pL⟩
instance:AE prog 124 1:=⟨GG⟩
instance:AE prog 134 1:=⟨MC⟩
instance:AE prog 28 1:=⟨SH⟩
instance:AE prog 29 1:=⟨SI⟩
instance:AE prog 3 1:=⟨GF⟩
instance:AE prog 34 1:=⟨MB⟩
instance:AE prog 36 1:=⟨SJ⟩
instance:AE prog 4 1:=⟨QN⟩
instance:AE prog 56 1:=⟨SK⟩
instance:AE prog 77 1:=⟨SM⟩
instance:jA prog 120 (.pointer 47):=⟨IW⟩
instance:jA prog 28 (.slice 88):=⟨GH⟩
instance:jA prog 29 (.slice 47):=⟨GI⟩
instance:jA prog 34 (.slice 41):=⟨GJ⟩
instance:jA prog 9 (.string):=⟨pM⟩
instance:xn prog 102 [.bool false,.bool false,.int .i64 0,.int .i64 0]:=⟨MG⟩
instance:xn prog 107 [.slice none 0 0,.int .i64 0,.slice none 0 0,.slice none 0 0,.slice none 0 0,.slice none 0 0,.slice none 0 0]:=⟨MH⟩
instance:xn prog 126 [.int .i64 0,.string ⟨#[]⟩,.bool false,.int .i64 0,.slice none 0 0,.slice none 0 0]:=⟨MI⟩
instance:xn prog 140 [.bool false,.string ⟨#[]⟩,.int .i64 0,.string ⟨#[]⟩]:=⟨y5⟩
instance:xn prog 167 [.int .i64 0,.string ⟨#[]⟩,.int .i64 0,.string ⟨#[]⟩]:=⟨MK⟩
instance:xn prog 31 [.int .i64 0,.slice none 0 0,.slice none 0 0]:=⟨ME⟩
instance:xn prog 34 [.slice none 0 0]:=⟨SP⟩
instance:xn prog 4 [.bool false]:=⟨zv4⟩
instance:xn prog 41 [.int .i64 0,.string ⟨#[]⟩]:=⟨Ai⟩
instance:xn prog 47 [.int .i64 0,.string ⟨#[]⟩,.string ⟨#[]⟩,.slice none 0 0,.int .i64 0,.int .i64 0,.int .i64 0,.bool false]:=⟨CH⟩
instance:xn prog 58 [.bool false,.slice none 0 0,.int .i64 0,.int .i64 0]:=⟨MF⟩
instance:xn prog 65 [.int .i64 0,.string ⟨#[]⟩,.string ⟨#[]⟩]:=⟨SQ⟩
instance:xn prog 88 [.int .i64 0,.string ⟨#[]⟩,.string ⟨#[]⟩,.int .i64 0]:=⟨EZ⟩
theorem cf6:CF prog 6:=call6
theorem X3:CF prog 7:=call7
theorem cf8:CF prog 8:=call8
theorem FC:CF prog 11:=call11
theorem SS:CF prog 12:=call12
theorem SU:CF prog 13:=call13
theorem ML:CF prog 15:=call15
theorem SX:CF prog 16:=call16
theorem FD:CF prog 17:=call17
theorem CL:CF prog 18:=call18
theorem SY:CF prog 19:=call19
theorem SZ:CF prog 20:=call20
theorem S0:CF prog 21:=call21
theorem MM:CF prog 22:=call22
theorem kh:CF prog 23:=call23
theorem S1:CF prog 24:=call24
theorem MN:CF prog 25:=call25
theorem S2:CF prog 26:=call26
theorem S3:CF prog 27:=call27
theorem S4:CF prog 30:=call30
theorem S5:CF prog 31:=call31
theorem S6:CF prog 32:=call32
theorem S7:CF prog 33:=call33
theorem S8:CF prog 34:=call34
theorem S9:CF prog 35:=call35
theorem Ta:CF prog 36:=call36
theorem MO:CF prog 37:=call37
theorem FE:CF prog 38:=call38
theorem I8:CF prog 39:=call39
theorem I9:CF prog 40:=call40
theorem Tb:CF prog 41:=call41
theorem Tc:CF prog 42:=call42
theorem Td:CF prog 43:=call43
theorem Te:CF prog 44:=call44
theorem Tf:CF prog 45:=call45
theorem MP:CF prog 48:=call48
theorem Tg:CF prog 49:=call49
theorem Ja:CF prog 50:=call50
theorem MQ:CF prog 51:=call51
theorem Th:CF prog 52:=call52
theorem Ti:CF prog 53:=call53
theorem Tj:CF prog 54:=call54
theorem Tk:CF prog 55:=call55
theorem Tl:CF prog 56:=call56
theorem Tm:CF prog 62:=call62
theorem Tn:CF prog 63:=call63
theorem To:CF prog 64:=call64
theorem Tp:CF prog 65:=call65
theorem Tq:CF prog 66:=call66
theorem MR:CF prog 67:=call67
theorem Tr:CF prog 68:=call68
theorem Ts:CF prog 69:=call69
theorem Tt:CF prog 70:=call70
theorem Jb:CF prog 71:=call71
theorem Tu:CF prog 72:=call72
theorem Tv:CF prog 73:=call73
theorem Jc:CF prog 74:=call74
theorem Tw:CF prog 75:=call75
theorem MS:CF prog 77:=call77
theorem CN:CF prog 78:=call78
theorem MT:CF prog 79:=call79
theorem Tx:CF prog 80:=call80
theorem Ty:CF prog 81:=call81
theorem MU:CF prog 82:=call82
theorem Tz:CF prog 83:=call83
theorem Jd:CF prog 84:=call84
theorem MV:CF prog 85:=call85
theorem TA:CF prog 86:=call86
theorem TB:CF prog 88:=call88
theorem TC:CF prog 90:=call90
theorem TD:CF prog 91:=call91
theorem TE:CF prog 93:=call93
theorem TF:CF prog 94:=call94
theorem MW:CF prog 104:=call104
theorem MX:CF prog 105:=call105
theorem MY:CF prog 106:=call106
theorem MZ:CF prog 107:=call107
theorem Na:CF prog 108:=call108
theorem CO:CF prog 109:=call109
theorem Nb:CF prog 110:=call110
theorem Nc:CF prog 111:=call111
theorem Nd:CF prog 112:=call112
theorem Nf:CF prog 113:=call113
theorem Ng:CF prog 114:=call114
theorem Nh:CF prog 115:=call115
theorem Ni:CF prog 116:=call116
theorem Nj:CF prog 117:=call117
theorem Nk:CF prog 118:=call118
theorem GL:CF prog 119:=call119
theorem Nl:CF prog 120:=call120
theorem Nn:CF prog 121:=call121
theorem Np:CF prog 122:=call122
theorem Nq:CF prog 123:=call123
theorem Nr:CF prog 124:=call124
theorem Ns:CF prog 125:=call125
theorem Nt:CF prog 126:=call126
theorem Nu:CF prog 127:=call127
theorem Nv:CF prog 128:=call128
theorem Nw:CF prog 129:=call129
theorem Nx:CF prog 130:=call130
theorem Ny:CF prog 132:=call132
theorem Nz:CF prog 133:=call133
theorem NB:CF prog 135:=call135
theorem NC:CF prog 142:=call142
theorem ND:CF prog 145:=call145
theorem NF:CF prog 148:=call148
theorem NG:CF prog 149:=call149
theorem GM:CF prog 150:=call150
theorem NH:CF prog 151:=call151
theorem GN:CF prog 152:=call152
theorem NI:CF prog 153:=call153
theorem NJ:CF prog 155:=call155
theorem y7:CF prog 157:=call157
theorem NK:CF prog 158:=call158
theorem NL:CF prog 159:=call159
theorem NN:CF prog 160:=call160
theorem NQ:CF prog 161:=call161
theorem NR:CF prog 162:=call162
theorem NS:CF prog 163:=call163
theorem NT:CF prog 172:=call172
theorem NU:CF prog 173:=call173
theorem NV:CF prog 174:=call174
theorem NW:CF prog 195:=call195
theorem NX:CF prog 196:=call196
theorem NY:CF prog 200:=call200
theorem NZ:CF prog 202:=call202
theorem N0:CF prog 203:=call203
theorem N1:CF prog 204:=call204
theorem N2:CF prog 205:=call205
theorem N3:CF prog 206:=call206
theorem N4:CF prog 207:=call207
theorem N5:CF prog 208:=call208
theorem N6:CF prog 212:=call212
theorem CP:CF prog 213:=call213
theorem N7:CF prog 214:=call214
theorem N8:CF prog 215:=call215
theorem N9:CF prog 257:=call257
theorem Oa:CF prog 259:=call259
theorem Ob:CF prog 260:=call260
theorem Oc:CF prog 262:=call262
theorem Od:CF prog 263:=call263
theorem GO:CF prog 281:=call281
theorem Oe:CF prog 282:=call282
theorem Of:CF prog 360:=call360
instance:dQ prog 6:=⟨cf6⟩
instance:dQ prog 16:=⟨SX⟩
instance:dQ prog 17:=⟨FD⟩
instance:dQ prog 20:=⟨SZ⟩
instance:dQ prog 22:=⟨MM⟩
instance:dQ prog 24:=⟨S1⟩
instance:dQ prog 25:=⟨MN⟩
instance:dQ prog 27:=⟨S3⟩
instance:dQ prog 30:=⟨S4⟩
instance:dQ prog 38:=⟨FE⟩
instance:dQ prog 39:=⟨I8⟩
instance:dQ prog 40:=⟨I9⟩
instance:dQ prog 42:=⟨Tc⟩
instance:dQ prog 43:=⟨Td⟩
instance:dQ prog 45:=⟨Tf⟩
instance:dQ prog 49:=⟨Tg⟩
instance:dQ prog 50:=⟨Ja⟩
instance:dQ prog 53:=⟨Ti⟩
instance:dQ prog 62:=⟨Tm⟩
instance:dQ prog 63:=⟨Tn⟩
instance:dQ prog 64:=⟨To⟩
instance:dQ prog 66:=⟨Tq⟩
instance:dQ prog 70:=⟨Tt⟩
instance:dQ prog 77:=⟨MS⟩
instance:dQ prog 80:=⟨Tx⟩
instance:dQ prog 82:=⟨MU⟩
instance:dQ prog 88:=⟨TB⟩
instance:dQ prog 90:=⟨TC⟩
instance:dQ prog 91:=⟨TD⟩
instance:dQ prog 104:=⟨MW⟩
instance:dQ prog 105:=⟨MX⟩
instance:dQ prog 106:=⟨MY⟩
instance:dQ prog 107:=⟨MZ⟩
instance:dQ prog 109:=⟨CO⟩
instance:dQ prog 110:=⟨Nb⟩
instance:dQ prog 111:=⟨Nc⟩
instance:dQ prog 112:=⟨Nd⟩
instance:dQ prog 113:=⟨Nf⟩
instance:dQ prog 115:=⟨Nh⟩
instance:dQ prog 117:=⟨Nj⟩
instance:dQ prog 118:=⟨Nk⟩
instance:dQ prog 119:=⟨GL⟩
instance:dQ prog 125:=⟨Ns⟩
instance:dQ prog 126:=⟨Nt⟩
instance:dQ prog 127:=⟨Nu⟩
instance:dQ prog 128:=⟨Nv⟩
instance:dQ prog 129:=⟨Nw⟩
instance:dQ prog 135:=⟨NB⟩
instance:dQ prog 142:=⟨NC⟩
instance:dQ prog 145:=⟨ND⟩
instance:dQ prog 148:=⟨NF⟩
instance:dQ prog 149:=⟨NG⟩
instance:dQ prog 152:=⟨GN⟩
instance:dQ prog 155:=⟨NJ⟩
instance:dQ prog 160:=⟨NN⟩
instance:dQ prog 161:=⟨NQ⟩
instance:dQ prog 163:=⟨NS⟩
instance:dQ prog 172:=⟨NT⟩
instance:dQ prog 173:=⟨NU⟩
instance:dQ prog 174:=⟨NV⟩
instance:dQ prog 195:=⟨NW⟩
instance:dQ prog 196:=⟨NX⟩
instance:dQ prog 200:=⟨NY⟩
instance:dQ prog 202:=⟨NZ⟩
instance:dQ prog 206:=⟨N3⟩
instance:dQ prog 207:=⟨N4⟩
instance:dQ prog 208:=⟨N5⟩
instance:dQ prog 213:=⟨CP⟩
instance:dQ prog 215:=⟨N8⟩
instance:dQ prog 257:=⟨N9⟩
instance:dQ prog 259:=⟨Oa⟩
instance:dQ prog 260:=⟨Ob⟩
instance:dQ prog 360:=⟨Of⟩
end Go.Rc

