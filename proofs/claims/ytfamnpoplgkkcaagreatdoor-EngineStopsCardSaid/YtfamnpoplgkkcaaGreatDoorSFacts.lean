/- Walks over the program, part Facts. Conditions: as each theorem says. -/
import Derived.Test.YtfamnpoplgkkcaaGreatDoorProg
import Derived.Test.YtfamnpoplgkkcaaGreatDoorSBd
set_option linter.all false
namespace Go.Rc
open Go Go.Proofs Go.Proofs.Tryz
theorem mixed:prog.follows .mixedOrders=true:=by kernel_rfl
theorem fS:Hi prog 41:=Mr underlying41 rfl rfl rfl rfl (by decide) (by decide) underlying3 underlying9 isAgg3 isAgg9 (by kernel_rfl) (by kernel_rfl)
theorem aN:tr prog 31 3:=⟨⟨_,underlying31⟩,by kernel_rfl⟩
theorem ao:tr prog 41 2:=⟨⟨_,underlying41⟩,by kernel_rfl⟩
theorem dh:tr prog 47 8:=⟨⟨_,underlying47⟩,by kernel_rfl⟩
theorem qD:tr prog 58 4:=⟨⟨_,underlying58⟩,by kernel_rfl⟩
theorem Ce:tr prog 65 3:=⟨⟨_,underlying65⟩,by kernel_rfl⟩
theorem mA:tr prog 88 4:=⟨⟨_,underlying88⟩,by kernel_rfl⟩
theorem k9:tr prog 102 4:=⟨⟨_,underlying102⟩,by kernel_rfl⟩
theorem dT:tr prog 107 7:=⟨⟨_,underlying107⟩,by kernel_rfl⟩
theorem nG:tr prog 126 6:=⟨⟨_,underlying126⟩,by kernel_rfl⟩
theorem iN:tr prog 140 4:=⟨⟨_,underlying140⟩,by kernel_rfl⟩
theorem zw:tr prog 167 4:=⟨⟨_,underlying167⟩,by kernel_rfl⟩
theorem ac9:AP prog 22 3 1 8:=oG (z:=.int .i64 0) underlying22 (by kernel_rfl) (by kernel_rfl) (by decide)
theorem ada:AP prog 27 58 4 48:=oG (z:=.agg #[.bool false,.slice none 0 0,.int .i64 0,.int .i64 0]) underlying27 (by kernel_rfl) (by kernel_rfl) (by decide)
theorem adb:AP prog 28 88 4 48:=oG (z:=.agg #[.int .i64 0,.string ⟨#[]⟩,.string ⟨#[]⟩,.int .i64 0]) underlying28 (by kernel_rfl) (by kernel_rfl) (by decide)
theorem R5:AP prog 29 47 8 96:=oG (z:=.agg #[.int .i64 0,.string ⟨#[]⟩,.string ⟨#[]⟩,.slice none 0 0,.int .i64 0,.int .i64 0,.int .i64 0,.bool false]) underlying29 (by kernel_rfl) (by kernel_rfl) (by decide)
theorem mb:AP prog 34 41 2 24:=oG (z:=.agg #[.int .i64 0,.string ⟨#[]⟩]) underlying34 (by kernel_rfl) (by kernel_rfl) (by decide)
theorem ade:AP prog 54 65 3 40:=oG (z:=.agg #[.int .i64 0,.string ⟨#[]⟩,.string ⟨#[]⟩]) underlying54 (by kernel_rfl) (by kernel_rfl) (by decide)
theorem adf:AP prog 56 102 4 24:=oG (z:=.agg #[.bool false,.bool false,.int .i64 0,.int .i64 0]) underlying56 (by kernel_rfl) (by kernel_rfl) (by decide)
theorem R6:AP prog 77 126 6 88:=oG (z:=.agg #[.int .i64 0,.string ⟨#[]⟩,.bool false,.int .i64 0,.slice none 0 0,.slice none 0 0]) underlying77 (by kernel_rfl) (by kernel_rfl) (by decide)
theorem Cf:AP prog 124 9 1 16:=oG (z:=.string ⟨#[]⟩) underlying124 (by kernel_rfl) (by kernel_rfl) (by decide)
theorem WN:AP prog 164 167 4 48:=oG (z:=.agg #[.int .i64 0,.string ⟨#[]⟩,.int .i64 0,.string ⟨#[]⟩]) underlying164 (by kernel_rfl) (by kernel_rfl) (by decide)
theorem Kp:BS prog 22 3 1 1 [.int .i64 0]:=⟨underlying22,sizeOf3,by decide,by decide,_,zeroValue3,by kernel_rfl⟩
theorem Kq:BS prog 27 58 4 1 [.bool false,.slice none 0 0,.int .i64 0,.int .i64 0]:=⟨underlying27,sizeOf58,by decide,by decide,_,zeroValue58,by kernel_rfl⟩
theorem E1:BS prog 28 88 4 1 [.int .i64 0,.string ⟨#[]⟩,.string ⟨#[]⟩,.int .i64 0]:=⟨underlying28,sizeOf88,by decide,by decide,_,zeroValue88,by kernel_rfl⟩
theorem nH:BS prog 29 47 8 1 [.int .i64 0,.string ⟨#[]⟩,.string ⟨#[]⟩,.slice none 0 0,.int .i64 0,.int .i64 0,.int .i64 0,.bool false]:=⟨underlying29,sizeOf47,by decide,by decide,_,zeroValue47,by kernel_rfl⟩
theorem dt:BS prog 34 41 2 1 [.int .i64 0,.string ⟨#[]⟩]:=⟨underlying34,sizeOf41,by decide,by decide,_,zeroValue41,by kernel_rfl⟩
theorem E4:BS prog 54 65 3 1 [.int .i64 0,.string ⟨#[]⟩,.string ⟨#[]⟩]:=⟨underlying54,sizeOf65,by decide,by decide,_,zeroValue65,by kernel_rfl⟩
theorem Kr:BS prog 56 102 4 1 [.bool false,.bool false,.int .i64 0,.int .i64 0]:=⟨underlying56,sizeOf102,by decide,by decide,_,zeroValue102,by kernel_rfl⟩
theorem rZ:BS prog 77 126 6 1 [.int .i64 0,.string ⟨#[]⟩,.bool false,.int .i64 0,.slice none 0 0,.slice none 0 0]:=⟨underlying77,sizeOf126,by decide,by decide,_,zeroValue126,by kernel_rfl⟩
theorem jq:BS prog 124 9 1 1 [.string ⟨#[]⟩]:=⟨underlying124,sizeOf9,by decide,by decide,_,zeroValue9,by kernel_rfl⟩
theorem GX:BS prog 164 167 4 1 [.int .i64 0,.string ⟨#[]⟩,.int .i64 0,.string ⟨#[]⟩]:=⟨underlying164,sizeOf167,by decide,by decide,_,zeroValue167,by kernel_rfl⟩
theorem Ks:BS prog 124 9 1 10 [.string ⟨#[]⟩,.string ⟨#[]⟩,.string ⟨#[]⟩,.string ⟨#[]⟩,.string ⟨#[]⟩,.string ⟨#[]⟩,.string ⟨#[]⟩,.string ⟨#[]⟩,.string ⟨#[]⟩,.string ⟨#[]⟩]:=⟨underlying124,sizeOf9,by decide,by decide,_,zeroValue9,by kernel_rfl⟩
theorem R7:BS prog 22 3 1 2 [.int .i64 0,.int .i64 0]:=⟨underlying22,sizeOf3,by decide,by decide,_,zeroValue3,by kernel_rfl⟩
theorem R8:BS prog 27 58 4 2 [.bool false,.slice none 0 0,.int .i64 0,.int .i64 0,.bool false,.slice none 0 0,.int .i64 0,.int .i64 0]:=⟨underlying27,sizeOf58,by decide,by decide,_,zeroValue58,by kernel_rfl⟩
theorem R9:BS prog 56 102 4 2 [.bool false,.bool false,.int .i64 0,.int .i64 0,.bool false,.bool false,.int .i64 0,.int .i64 0]:=⟨underlying56,sizeOf102,by decide,by decide,_,zeroValue102,by kernel_rfl⟩
theorem Sa:BS prog 22 3 1 6 [.int .i64 0,.int .i64 0,.int .i64 0,.int .i64 0,.int .i64 0,.int .i64 0]:=⟨underlying22,sizeOf3,by decide,by decide,_,zeroValue3,by kernel_rfl⟩
theorem WQ:BT prog 31 [.int .i64 0,.slice none 0 0,.slice none 0 0] [(0,1),(1,1),(2,1)]:=ju (fs:=[_,_,_]) zeroValue31 rfl underlying31 ⟨rfl,sizeOf3,rfl,sizeOf28,rfl,sizeOf29,trivial⟩
theorem Cg:BT prog 41 [.int .i64 0,.string ⟨#[]⟩] [(0,1),(1,1)]:=ju (fs:=[_,_]) zeroValue41 rfl underlying41 ⟨rfl,sizeOf3,rfl,sizeOf9,trivial⟩
theorem Nt:BT prog 47 [.int .i64 0,.string ⟨#[]⟩,.string ⟨#[]⟩,.slice none 0 0,.int .i64 0,.int .i64 0,.int .i64 0,.bool false] [(0,2),(2,1),(3,1),(4,1),(5,1),(6,1),(7,1)]:=ju (fs:=[_,_,_,_,_,_,_]) zeroValue47 rfl underlying47 ⟨rfl,sizeOf41,rfl,sizeOf9,rfl,sizeOf34,rfl,sizeOf3,rfl,sizeOf3,rfl,sizeOf3,rfl,sizeOf4,trivial⟩
theorem Nu:BT prog 58 [.bool false,.slice none 0 0,.int .i64 0,.int .i64 0] [(0,1),(1,1),(2,1),(3,1)]:=ju (fs:=[_,_,_,_]) zeroValue58 rfl underlying58 ⟨rfl,sizeOf4,rfl,sizeOf56,rfl,sizeOf3,rfl,sizeOf3,trivial⟩
theorem Sb:BT prog 65 [.int .i64 0,.string ⟨#[]⟩,.string ⟨#[]⟩] [(0,2),(2,1)]:=ju (fs:=[_,_]) zeroValue65 rfl underlying65 ⟨rfl,sizeOf41,rfl,sizeOf9,trivial⟩
theorem adg:BT prog 70 [.slice none 0 0,.int .i64 0] [(0,1),(1,1)]:=ju (fs:=[_,_]) zeroValue70 rfl underlying70 ⟨rfl,sizeOf22,rfl,sizeOf3,trivial⟩
theorem adh:BT prog 86 [.slice none 0 0,.int .i64 0,.slice none 0 0,.slice none 0 0,.map none,.pointer none,.slice none 0 0] [(0,1),(1,3),(4,1),(5,1),(6,1)]:=ju (fs:=[_,_,_,_,_]) zeroValue86 rfl underlying86 ⟨rfl,sizeOf27,rfl,sizeOf31,rfl,sizeOf83,rfl,sizeOf84,rfl,sizeOf34,trivial⟩
theorem Nv:BT prog 88 [.int .i64 0,.string ⟨#[]⟩,.string ⟨#[]⟩,.int .i64 0] [(0,2),(2,1),(3,1)]:=ju (fs:=[_,_,_]) zeroValue88 rfl underlying88 ⟨rfl,sizeOf41,rfl,sizeOf9,rfl,sizeOf3,trivial⟩
theorem Ch:BT prog 102 [.bool false,.bool false,.int .i64 0,.int .i64 0] [(0,1),(1,1),(2,1),(3,1)]:=ju (fs:=[_,_,_,_]) zeroValue102 rfl underlying102 ⟨rfl,sizeOf4,rfl,sizeOf4,rfl,sizeOf3,rfl,sizeOf3,trivial⟩
theorem Ph:BT prog 107 [.slice none 0 0,.int .i64 0,.slice none 0 0,.slice none 0 0,.slice none 0 0,.slice none 0 0,.slice none 0 0] [(0,1),(1,3),(4,1),(5,1),(6,1)]:=ju (fs:=[_,_,_,_,_]) zeroValue107 rfl underlying107 ⟨rfl,sizeOf27,rfl,sizeOf31,rfl,sizeOf34,rfl,sizeOf77,rfl,sizeOf34,trivial⟩
theorem GY:BT prog 126 [.int .i64 0,.string ⟨#[]⟩,.bool false,.int .i64 0,.slice none 0 0,.slice none 0 0] [(0,2),(2,1),(3,1),(4,1),(5,1)]:=ju (fs:=[_,_,_,_,_]) zeroValue126 rfl underlying126 ⟨rfl,sizeOf41,rfl,sizeOf4,rfl,sizeOf3,rfl,sizeOf34,rfl,sizeOf124,trivial⟩
theorem WR:BT prog 137 [.slice none 0 0,.int .i64 0,.slice none 0 0,.slice none 0 0,.map none,.map none] [(0,1),(1,3),(4,1),(5,1)]:=ju (fs:=[_,_,_,_]) zeroValue137 rfl underlying137 ⟨rfl,sizeOf27,rfl,sizeOf31,rfl,sizeOf134,rfl,sizeOf135,trivial⟩
theorem mB:BT prog 140 [.bool false,.string ⟨#[]⟩,.int .i64 0,.string ⟨#[]⟩] [(0,1),(1,1),(2,2)]:=ju (fs:=[_,_,_]) zeroValue140 rfl underlying140 ⟨rfl,sizeOf4,rfl,sizeOf9,rfl,sizeOf41,trivial⟩
theorem WS:BT prog 153 [.pointer none,.int .i64 0,.slice none 0 0,.slice none 0 0,.map none,.slice none 0 0,.int .i64 0] [(0,1),(1,3),(4,1),(5,1),(6,1)]:=ju (fs:=[_,_,_,_,_]) zeroValue153 rfl underlying153 ⟨rfl,sizeOf92,rfl,sizeOf31,rfl,sizeOf151,rfl,sizeOf34,rfl,sizeOf36,trivial⟩
theorem WT:BT prog 158 [.slice none 0 0,.int .i64 0,.slice none 0 0,.slice none 0 0,.map none,.map none] [(0,1),(1,3),(4,1),(5,1)]:=ju (fs:=[_,_,_,_]) zeroValue158 rfl underlying158 ⟨rfl,sizeOf27,rfl,sizeOf31,rfl,sizeOf134,rfl,sizeOf151,trivial⟩
theorem Pj:BT prog 167 [.int .i64 0,.string ⟨#[]⟩,.int .i64 0,.string ⟨#[]⟩] [(0,2),(2,2)]:=ju (fs:=[_,_]) zeroValue167 rfl underlying167 ⟨rfl,sizeOf41,rfl,sizeOf41,trivial⟩
theorem GZ:BT prog 432 [.string ⟨#[]⟩,.string ⟨#[]⟩,.nilIface] [(0,1),(1,1),(2,1)]:=ju (fs:=[_,_,_]) zeroValue432 rfl underlying432 ⟨rfl,sizeOf9,rfl,sizeOf9,rfl,sizeOf189,trivial⟩
theorem db:KK prog 41 Key.val:=QF underlying41 fS (Hl underlying41 rfl rfl rfl rfl underlying3 underlying9 isAgg3 isAgg9)
theorem zx:∃ms,prog.underlying 189=some (.interface ms):=⟨_,underlying189⟩
theorem aO:One prog 3:=isAgg3
theorem dA:One prog 4:=isAgg4
theorem e7:One prog 9:=isAgg9
theorem Pk:One prog 22:=isAgg22
theorem jy:One prog 27:=isAgg27
theorem kO:One prog 28:=isAgg28
theorem dF:One prog 29:=isAgg29
theorem dK:One prog 34:=isAgg34
theorem yi:One prog 36:=isAgg36
theorem ku:One prog 56:=isAgg56
theorem Kt:One prog 75:=isAgg75
theorem Ci:One prog 77:=isAgg77
theorem fT:One prog 83:=isAgg83
theorem yj:One prog 84:=isAgg84
theorem Ku:One prog 92:=isAgg92
theorem r5:One prog 124:=isAgg124
theorem gF:One prog 134:=isAgg134
theorem nI:One prog 151:=isAgg151
theorem zy:One prog 189:=isAgg189
theorem E7:xv prog 22 3 1:=⟨underlying22,sizeOf3⟩
theorem iU:xv prog 27 58 4:=⟨underlying27,sizeOf58⟩
theorem tE:xv prog 28 88 4:=⟨underlying28,sizeOf88⟩
theorem iV:xv prog 29 47 8:=⟨underlying29,sizeOf47⟩
theorem ey:xv prog 34 41 2:=⟨underlying34,sizeOf41⟩
theorem HZ:xv prog 54 65 3:=⟨underlying54,sizeOf65⟩
theorem wM:xv prog 56 102 4:=⟨underlying56,sizeOf102⟩
theorem mM:xv prog 77 126 6:=⟨underlying77,sizeOf126⟩
theorem oL:xv prog 124 9 1:=⟨underlying124,sizeOf9⟩
theorem G0:xv prog 164 167 4:=⟨underlying164,sizeOf167⟩
theorem Pm:xv prog 219 5 1:=⟨underlying219,sizeOf5⟩
theorem adi:∀w,(sizeOf 41).run prog w=.ok 2 w:=sizeOf41
theorem adj:∀w,(sizeOf 47).run prog w=.ok 8 w:=sizeOf47
theorem adk:∀w,(sizeOf 88).run prog w=.ok 4 w:=sizeOf88
theorem G1:(prog.info? 3).map (·.size)=some 1:=by kernel_rfl
theorem Pn:(prog.info? 4).map (·.size)=some 1:=by kernel_rfl
theorem adl:(prog.info? 28).map (·.size)=some 1:=by kernel_rfl
theorem adm:(prog.info? 29).map (·.size)=some 1:=by kernel_rfl
theorem dP:(prog.info? 31).map (·.size)=some 3:=by kernel_rfl
theorem Sc:(prog.info? 34).map (·.size)=some 1:=by kernel_rfl
theorem adn:(prog.info? 36).map (·.size)=some 1:=by kernel_rfl
theorem gR:(prog.info? 41).map (·.size)=some 2:=by kernel_rfl
theorem fI:(prog.info? 47).map (·.size)=some 8:=by kernel_rfl
theorem ado:(prog.info? 56).map (·.size)=some 1:=by kernel_rfl
theorem Cj:(prog.info? 58).map (·.size)=some 4:=by kernel_rfl
theorem Kv:(prog.info? 65).map (·.size)=some 3:=by kernel_rfl
theorem adp:(prog.info? 77).map (·.size)=some 1:=by kernel_rfl
theorem Ck:(prog.info? 88).map (·.size)=some 4:=by kernel_rfl
theorem ve:(prog.info? 102).map (·.size)=some 4:=by kernel_rfl
theorem jz:(prog.info? 107).map (·.size)=some 7:=by kernel_rfl
theorem Kw:(prog.info? 124).map (·.size)=some 1:=by kernel_rfl
theorem G2:(prog.info? 126).map (·.size)=some 6:=by kernel_rfl
theorem WV:(prog.info? 134).map (·.size)=some 1:=by kernel_rfl
theorem gB:(prog.info? 140).map (·.size)=some 4:=by kernel_rfl
theorem Kx:(prog.info? 167).map (·.size)=some 4:=by kernel_rfl
theorem adq:prog.underlying 3=some (.int .i64):=underlying3
theorem WW:prog.underlying 4=some (.bool):=underlying4
theorem adr:prog.underlying 5=some (.int .u8):=underlying5
theorem r6:prog.underlying 9=some (.string):=underlying9
theorem Po:prog.underlying 28=some (.slice 88):=underlying28
theorem Pp:prog.underlying 29=some (.slice 47):=underlying29
theorem Pq:prog.underlying 34=some (.slice 41):=underlying34
theorem fU:prog.underlying 83=some (.map 41 120):=underlying83
theorem Sd:prog.underlying 120=some (.pointer 47):=underlying120
theorem dU:prog.underlying 134=some (.map 41 9):=underlying134
theorem Ky:prog.underlying 135=some (.map 41 34):=underlying135
theorem gG:prog.underlying 151=some (.map 41 4):=underlying151
theorem zv4:ZV prog 4 [.bool false]:=⟨_,zeroValue4,rfl⟩
theorem Se:ZV prog 31 [.int .i64 0,.slice none 0 0,.slice none 0 0]:=⟨_,zeroValue31,rfl⟩
theorem ads:ZV prog 34 [.slice none 0 0]:=⟨_,zeroValue34,rfl⟩
theorem E8:ZV prog 41 [.int .i64 0,.string ⟨#[]⟩]:=⟨_,zeroValue41,rfl⟩
theorem nJ:ZV prog 47 [.int .i64 0,.string ⟨#[]⟩,.string ⟨#[]⟩,.slice none 0 0,.int .i64 0,.int .i64 0,.int .i64 0,.bool false]:=⟨_,zeroValue47,rfl⟩
theorem Nw:ZV prog 58 [.bool false,.slice none 0 0,.int .i64 0,.int .i64 0]:=⟨_,zeroValue58,rfl⟩
theorem adt:ZV prog 65 [.int .i64 0,.string ⟨#[]⟩,.string ⟨#[]⟩]:=⟨_,zeroValue65,rfl⟩
theorem Nx:ZV prog 88 [.int .i64 0,.string ⟨#[]⟩,.string ⟨#[]⟩,.int .i64 0]:=⟨_,zeroValue88,rfl⟩
theorem Kz:ZV prog 102 [.bool false,.bool false,.int .i64 0,.int .i64 0]:=⟨_,zeroValue102,rfl⟩
theorem Pr:ZV prog 107 [.slice none 0 0,.int .i64 0,.slice none 0 0,.slice none 0 0,.slice none 0 0,.slice none 0 0,.slice none 0 0]:=⟨_,zeroValue107,rfl⟩
theorem Pu:ZV prog 126 [.int .i64 0,.string ⟨#[]⟩,.bool false,.int .i64 0,.slice none 0 0,.slice none 0 0]:=⟨_,zeroValue126,rfl⟩
theorem WX:ZV prog 134 [.map none]:=⟨_,zeroValue134,rfl⟩
theorem oM:ZV prog 140 [.bool false,.string ⟨#[]⟩,.int .i64 0,.string ⟨#[]⟩]:=⟨_,zeroValue140,rfl⟩
theorem WY:ZV prog 167 [.int .i64 0,.string ⟨#[]⟩,.int .i64 0,.string ⟨#[]⟩]:=⟨_,zeroValue167,rfl⟩
theorem Cl:∀w,(zeroValue 4).run prog w=.ok (.bool false) w:=zeroValue4
theorem mc:∀w,(zeroValue 9).run prog w=.ok (.string ⟨#[]⟩) w:=zeroValue9
theorem Pv:∀w,(zeroValue 34).run prog w=.ok (.slice none 0 0) w:=zeroValue34
theorem ff:∀w,(zeroValue 120).run prog w=.ok (.pointer none) w:=zeroValue120
theorem lh:FA prog 31 0 0:=cx underlying31 rfl sizeOf3 (by decide) rfl
theorem vf:FA prog 31 1 1:=cx underlying31 rfl sizeOf28 (by decide) rfl
theorem r7:FA prog 31 2 2:=cx underlying31 rfl sizeOf29 (by decide) rfl
theorem dG:FA prog 41 0 0:=cx underlying41 rfl sizeOf3 (by decide) rfl
theorem pC:FA prog 41 1 1:=cx underlying41 rfl sizeOf9 (by decide) rfl
theorem pD:FA prog 47 0 0:=cx underlying47 rfl sizeOf41 (by decide) rfl
theorem vg:FA prog 47 1 2:=cx underlying47 rfl sizeOf9 (by decide) rfl
theorem zz:FA prog 47 2 3:=cx underlying47 rfl sizeOf34 (by decide) rfl
theorem vh:FA prog 47 3 4:=cx underlying47 rfl sizeOf3 (by decide) rfl
theorem pE:FA prog 47 4 5:=cx underlying47 rfl sizeOf3 (by decide) rfl
theorem E9:FA prog 47 5 6:=cx underlying47 rfl sizeOf3 (by decide) rfl
theorem Fa:FA prog 47 6 7:=cx underlying47 rfl sizeOf4 (by decide) rfl
theorem kx:FA prog 58 0 0:=cx underlying58 rfl sizeOf4 (by decide) rfl
theorem r8:FA prog 58 1 1:=cx underlying58 rfl sizeOf56 (by decide) rfl
theorem pF:FA prog 58 2 2:=cx underlying58 rfl sizeOf3 (by decide) rfl
theorem lj:FA prog 58 3 3:=cx underlying58 rfl sizeOf3 (by decide) rfl
theorem Sf:FA prog 65 0 0:=cx underlying65 rfl sizeOf41 (by decide) rfl
theorem Sg:FA prog 65 1 2:=cx underlying65 rfl sizeOf9 (by decide) rfl
theorem KA:FA prog 70 0 0:=cx underlying70 rfl sizeOf22 (by decide) rfl
theorem zA:FA prog 70 1 1:=cx underlying70 rfl sizeOf3 (by decide) rfl
theorem Sh:FA prog 86 0 0:=cx underlying86 rfl sizeOf27 (by decide) rfl
theorem Si:FA prog 86 1 1:=cx underlying86 rfl sizeOf31 (by decide) rfl
theorem Sj:FA prog 86 2 4:=cx underlying86 rfl sizeOf83 (by decide) rfl
theorem Sk:FA prog 86 3 5:=cx underlying86 rfl sizeOf84 (by decide) rfl
theorem Sl:FA prog 86 4 6:=cx underlying86 rfl sizeOf34 (by decide) rfl
theorem r9:FA prog 88 0 0:=cx underlying88 rfl sizeOf41 (by decide) rfl
theorem Fb:FA prog 88 1 2:=cx underlying88 rfl sizeOf9 (by decide) rfl
theorem vi:FA prog 88 2 3:=cx underlying88 rfl sizeOf3 (by decide) rfl
theorem tW:FA prog 102 0 0:=cx underlying102 rfl sizeOf4 (by decide) rfl
theorem qE:FA prog 102 1 1:=cx underlying102 rfl sizeOf4 (by decide) rfl
theorem zB:FA prog 102 2 2:=cx underlying102 rfl sizeOf3 (by decide) rfl
theorem qF:FA prog 102 3 3:=cx underlying102 rfl sizeOf3 (by decide) rfl
theorem Ny:FA prog 107 0 0:=cx underlying107 rfl sizeOf27 (by decide) rfl
theorem Nz:FA prog 107 1 1:=cx underlying107 rfl sizeOf31 (by decide) rfl
theorem NB:FA prog 107 2 4:=cx underlying107 rfl sizeOf34 (by decide) rfl
theorem NC:FA prog 107 3 5:=cx underlying107 rfl sizeOf77 (by decide) rfl
theorem ND:FA prog 107 4 6:=cx underlying107 rfl sizeOf34 (by decide) rfl
theorem G3:FA prog 126 0 0:=cx underlying126 rfl sizeOf41 (by decide) rfl
theorem NF:FA prog 126 1 2:=cx underlying126 rfl sizeOf4 (by decide) rfl
theorem NG:FA prog 126 2 3:=cx underlying126 rfl sizeOf3 (by decide) rfl
theorem NH:FA prog 126 3 4:=cx underlying126 rfl sizeOf34 (by decide) rfl
theorem NI:FA prog 126 4 5:=cx underlying126 rfl sizeOf124 (by decide) rfl
theorem NJ:FA prog 137 0 0:=cx underlying137 rfl sizeOf27 (by decide) rfl
theorem NK:FA prog 137 1 1:=cx underlying137 rfl sizeOf31 (by decide) rfl
theorem NL:FA prog 137 2 4:=cx underlying137 rfl sizeOf134 (by decide) rfl
theorem NN:FA prog 140 0 0:=cx underlying140 rfl sizeOf4 (by decide) rfl
theorem NQ:FA prog 140 1 1:=cx underlying140 rfl sizeOf9 (by decide) rfl
theorem NR:FA prog 140 2 2:=cx underlying140 rfl sizeOf41 (by decide) rfl
theorem NS:FA prog 153 0 0:=cx underlying153 rfl sizeOf92 (by decide) rfl
theorem NT:FA prog 153 1 1:=cx underlying153 rfl sizeOf31 (by decide) rfl
theorem NU:FA prog 153 2 4:=cx underlying153 rfl sizeOf151 (by decide) rfl
theorem NV:FA prog 153 3 5:=cx underlying153 rfl sizeOf34 (by decide) rfl
theorem NW:FA prog 153 4 6:=cx underlying153 rfl sizeOf36 (by decide) rfl
theorem NX:FA prog 158 0 0:=cx underlying158 rfl sizeOf27 (by decide) rfl
theorem NY:FA prog 158 1 1:=cx underlying158 rfl sizeOf31 (by decide) rfl
theorem NZ:FA prog 158 2 4:=cx underlying158 rfl sizeOf134 (by decide) rfl
theorem N0:FA prog 158 3 5:=cx underlying158 rfl sizeOf151 (by decide) rfl
theorem N1:FA prog 167 0 0:=cx underlying167 rfl sizeOf41 (by decide) rfl
theorem N2:FA prog 167 1 2:=cx underlying167 rfl sizeOf41 (by decide) rfl
instance:Jl prog 124 9 1 16:=⟨Cf⟩
instance:Jl prog 164 167 4 48:=⟨WN⟩
instance:Jl prog 22 3 1 8:=⟨ac9⟩
instance:Jl prog 27 58 4 48:=⟨ada⟩
instance:Jl prog 28 88 4 48:=⟨adb⟩
instance:Jl prog 29 47 8 96:=⟨R5⟩
instance:Jl prog 34 41 2 24:=⟨mb⟩
instance:Jl prog 54 65 3 40:=⟨ade⟩
instance:Jl prog 56 102 4 24:=⟨adf⟩
instance:Jl prog 77 126 6 88:=⟨R6⟩
instance:UO prog 41 [.int .i64 0,.string ⟨#[]⟩] [(0,1),(1,1)]:=⟨Cg⟩
instance:UO prog 47 [.int .i64 0,.string ⟨#[]⟩,.string ⟨#[]⟩,.slice none 0 0,.int .i64 0,.int .i64 0,.int .i64 0,.bool false] [(0,2),(2,1),(3,1),(4,1),(5,1),(6,1),(7,1)]:=⟨Nt⟩
instance:UO prog 88 [.int .i64 0,.string ⟨#[]⟩,.string ⟨#[]⟩,.int .i64 0] [(0,2),(2,1),(3,1)]:=⟨Nv⟩
instance:iH prog 102 0 0:=⟨tW⟩
instance:iH prog 102 1 1:=⟨qE⟩
instance:iH prog 102 2 2:=⟨zB⟩
instance:iH prog 102 3 3:=⟨qF⟩
instance:iH prog 107 0 0:=⟨Ny⟩
instance:iH prog 107 1 1:=⟨Nz⟩
instance:iH prog 107 2 4:=⟨NB⟩
instance:iH prog 107 3 5:=⟨NC⟩
instance:iH prog 107 4 6:=⟨ND⟩
instance:iH prog 126 0 0:=⟨G3⟩
instance:iH prog 126 1 2:=⟨NF⟩
instance:iH prog 126 2 3:=⟨NG⟩
instance:iH prog 126 3 4:=⟨NH⟩
instance:iH prog 126 4 5:=⟨NI⟩
instance:iH prog 137 0 0:=⟨NJ⟩
instance:iH prog 137 1 1:=⟨NK⟩
instance:iH prog 137 2 4:=⟨NL⟩
instance:iH prog 140 0 0:=⟨NN⟩
instance:iH prog 140 1 1:=⟨NQ⟩
instance:iH prog 140 2 2:=⟨NR⟩
instance:iH prog 153 0 0:=⟨NS⟩
instance:iH prog 153 1 1:=⟨NT⟩
instance:iH prog 153 2 4:=⟨NU⟩
instance:iH prog 153 3 5:=⟨NV⟩
instance:iH prog 153 4 6:=⟨NW⟩
instance:iH prog 158 0 0:=⟨NX⟩
instance:iH prog 158 1 1:=⟨NY⟩
instance:iH prog 158 2 4:=⟨NZ⟩
instance:iH prog 158 3 5:=⟨N0⟩
instance:iH prog 167 0 0:=⟨N1⟩
instance:iH prog 167 1 2:=⟨N2⟩
instance:iH prog 31 0 0:=⟨lh⟩
instance:iH prog 31 1 1:=⟨vf⟩
instance:iH prog 31 2 2:=⟨r7⟩
instance:iH prog 41 0 0:=⟨dG⟩
instance:iH prog 41 1 1:=⟨pC⟩
instance:iH prog 47 0 0:=⟨pD⟩
instance:iH prog 47 1 2:=⟨vg⟩
instance:iH prog 47 2 3:=⟨zz⟩
instance:iH prog 47 3 4:=⟨vh⟩
instance:iH prog 47 4 5:=⟨pE⟩
instance:iH prog 47 5 6:=⟨E9⟩
instance:iH prog 47 6 7:=⟨Fa⟩
instance:iH prog 58 0 0:=⟨kx⟩
instance:iH prog 58 1 1:=⟨r8⟩
instance:iH prog 58 2 2:=⟨pF⟩
instance:iH prog 58 3 3:=⟨lj⟩
instance:iH prog 65 0 0:=⟨Sf⟩
instance:iH prog 65 1 2:=⟨Sg⟩
instance:iH prog 86 0 0:=⟨Sh⟩
instance:iH prog 86 1 1:=⟨Si⟩
instance:iH prog 86 2 4:=⟨Sj⟩
instance:iH prog 86 3 5:=⟨Sk⟩
instance:iH prog 86 4 6:=⟨Sl⟩
instance:iH prog 88 0 0:=⟨r9⟩
instance:iH prog 88 1 2:=⟨Fb⟩
instance:iH prog 88 2 3:=⟨vi⟩
instance:D8 prog 41:=⟨fS⟩
instance:Gn prog 124 9 1:=⟨oL⟩
instance:Gn prog 164 167 4:=⟨G0⟩
instance:Gn prog 219 5 1:=⟨Pm⟩
instance:Gn prog 22 3 1:=⟨E7⟩
instance:Gn prog 27 58 4:=⟨iU⟩
instance:Gn prog 28 88 4:=⟨tE⟩
instance:Gn prog 29 47 8:=⟨iV⟩
instance:Gn prog 34 41 2:=⟨ey⟩
instance:Gn prog 54 65 3:=⟨HZ⟩
instance:Gn prog 56 102 4:=⟨wM⟩
instance:Gn prog 77 126 6:=⟨mM⟩
instance:ID prog 124 1:=⟨Kw⟩
instance:ID prog 134 1:=⟨WV⟩
instance:ID prog 28 1:=⟨adl⟩
instance:ID prog 29 1:=⟨adm⟩
instance:ID prog 3 1:=⟨G1⟩
instance:ID prog 34 1:=⟨Sc⟩
instance:ID prog 36 1:=⟨adn⟩
instance:ID prog 4 1:=⟨Pn⟩
instance:ID prog 56 1:=⟨ado⟩
instance:ID prog 77 1:=⟨adp⟩
instance:mZ prog 120 (.pointer 47):=⟨Sd⟩
instance:mZ prog 28 (.slice 88):=⟨Po⟩
instance:mZ prog 29 (.slice 47):=⟨Pp⟩
instance:mZ prog 34 (.slice 41):=⟨Pq⟩
instance:mZ prog 9 (.string):=⟨r6⟩
instance:D9 prog 102 [.bool false,.bool false,.int .i64 0,.int .i64 0]:=⟨Kz⟩
instance:D9 prog 107 [.slice none 0 0,.int .i64 0,.slice none 0 0,.slice none 0 0,.slice none 0 0,.slice none 0 0,.slice none 0 0]:=⟨Pr⟩
instance:D9 prog 126 [.int .i64 0,.string ⟨#[]⟩,.bool false,.int .i64 0,.slice none 0 0,.slice none 0 0]:=⟨Pu⟩
instance:D9 prog 140 [.bool false,.string ⟨#[]⟩,.int .i64 0,.string ⟨#[]⟩]:=⟨oM⟩
instance:D9 prog 167 [.int .i64 0,.string ⟨#[]⟩,.int .i64 0,.string ⟨#[]⟩]:=⟨WY⟩
instance:D9 prog 31 [.int .i64 0,.slice none 0 0,.slice none 0 0]:=⟨Se⟩
instance:D9 prog 34 [.slice none 0 0]:=⟨ads⟩
instance:D9 prog 4 [.bool false]:=⟨zv4⟩
instance:D9 prog 41 [.int .i64 0,.string ⟨#[]⟩]:=⟨E8⟩
instance:D9 prog 47 [.int .i64 0,.string ⟨#[]⟩,.string ⟨#[]⟩,.slice none 0 0,.int .i64 0,.int .i64 0,.int .i64 0,.bool false]:=⟨nJ⟩
instance:D9 prog 58 [.bool false,.slice none 0 0,.int .i64 0,.int .i64 0]:=⟨Nw⟩
instance:D9 prog 65 [.int .i64 0,.string ⟨#[]⟩,.string ⟨#[]⟩]:=⟨adt⟩
instance:D9 prog 88 [.int .i64 0,.string ⟨#[]⟩,.string ⟨#[]⟩,.int .i64 0]:=⟨Nx⟩
theorem cf6:CF prog 6:=call6
theorem cf7:CF prog 7:=call7
theorem cf8:CF prog 8:=call8
theorem cf9:CF prog 9:=call9
theorem WZ:CF prog 10:=call10
theorem N3:CF prog 11:=call11
theorem N4:CF prog 12:=call12
theorem W0:CF prog 13:=call13
theorem adu:CF prog 14:=call14
theorem ou:CF prog 15:=call15
theorem adw:CF prog 16:=call16
theorem zC:CF prog 17:=call17
theorem KB:CF prog 18:=call18
theorem Sm:CF prog 19:=call19
theorem adx:CF prog 20:=call20
theorem ady:CF prog 21:=call21
theorem N5:CF prog 22:=call22
theorem jA:CF prog 23:=call23
theorem W1:CF prog 24:=call24
theorem H0:CF prog 25:=call25
theorem adz:CF prog 26:=call26
theorem adA:CF prog 27:=call27
theorem adB:CF prog 28:=call28
theorem adC:CF prog 29:=call29
theorem adD:CF prog 30:=call30
theorem adE:CF prog 31:=call31
theorem adF:CF prog 32:=call32
theorem adG:CF prog 33:=call33
theorem adH:CF prog 34:=call34
theorem adI:CF prog 35:=call35
theorem adJ:CF prog 36:=call36
theorem W2:CF prog 37:=call37
theorem KC:CF prog 38:=call38
theorem H3:CF prog 39:=call39
theorem Sn:CF prog 40:=call40
theorem adK:CF prog 41:=call41
theorem adL:CF prog 42:=call42
theorem adM:CF prog 43:=call43
theorem adN:CF prog 44:=call44
theorem adO:CF prog 45:=call45
theorem Sp:CF prog 46:=call46
theorem KD:CF prog 47:=call47
theorem N6:CF prog 48:=call48
theorem adP:CF prog 49:=call49
theorem N7:CF prog 50:=call50
theorem zD:CF prog 51:=call51
theorem adQ:CF prog 52:=call52
theorem W3:CF prog 53:=call53
theorem adR:CF prog 54:=call54
theorem W4:CF prog 55:=call55
theorem adS:CF prog 56:=call56
theorem adT:CF prog 57:=call57
theorem adU:CF prog 58:=call58
theorem adV:CF prog 59:=call59
theorem adW:CF prog 60:=call60
theorem adX:CF prog 61:=call61
theorem adY:CF prog 62:=call62
theorem adZ:CF prog 63:=call63
theorem ad0:CF prog 64:=call64
theorem ad1:CF prog 65:=call65
theorem ad2:CF prog 66:=call66
theorem W5:CF prog 67:=call67
theorem ad3:CF prog 68:=call68
theorem ad4:CF prog 69:=call69
theorem ad5:CF prog 70:=call70
theorem Sq:CF prog 71:=call71
theorem ad6:CF prog 72:=call72
theorem ad7:CF prog 73:=call73
theorem Sr:CF prog 74:=call74
theorem ad8:CF prog 75:=call75
theorem W6:CF prog 77:=call77
theorem KF:CF prog 78:=call78
theorem W7:CF prog 79:=call79
theorem ad9:CF prog 80:=call80
theorem N8:CF prog 81:=call81
theorem W8:CF prog 82:=call82
theorem aea:CF prog 83:=call83
theorem Ss:CF prog 84:=call84
theorem W9:CF prog 85:=call85
theorem aeb:CF prog 86:=call86
theorem Xa:CF prog 87:=call87
theorem Xb:CF prog 88:=call88
theorem aec:CF prog 89:=call89
theorem Xc:CF prog 90:=call90
theorem aed:CF prog 91:=call91
theorem aee:CF prog 93:=call93
theorem aef:CF prog 94:=call94
theorem Su:CF prog 95:=call95
theorem Sv:CF prog 96:=call96
theorem aeg:CF prog 97:=call97
theorem aeh:CF prog 98:=call98
theorem Xd:CF prog 99:=call99
theorem Xe:CF prog 100:=call100
theorem Xf:CF prog 101:=call101
theorem KG:CF prog 102:=call102
theorem Pw:CF prog 103:=call103
theorem Xg:CF prog 104:=call104
theorem Xh:CF prog 105:=call105
theorem Xi:CF prog 106:=call106
theorem Xj:CF prog 107:=call107
theorem Xk:CF prog 108:=call108
theorem KH:CF prog 109:=call109
theorem Xl:CF prog 110:=call110
theorem Xm:CF prog 111:=call111
theorem Xn:CF prog 112:=call112
theorem Xo:CF prog 113:=call113
theorem Xp:CF prog 114:=call114
theorem Xq:CF prog 115:=call115
theorem Xr:CF prog 116:=call116
theorem Xs:CF prog 117:=call117
theorem Xt:CF prog 118:=call118
theorem Px:CF prog 119:=call119
theorem Xu:CF prog 120:=call120
theorem Xv:CF prog 121:=call121
theorem Xw:CF prog 122:=call122
theorem Xx:CF prog 123:=call123
theorem Xy:CF prog 124:=call124
theorem Xz:CF prog 125:=call125
theorem XA:CF prog 126:=call126
theorem XB:CF prog 127:=call127
theorem XC:CF prog 128:=call128
theorem XD:CF prog 129:=call129
theorem Py:CF prog 130:=call130
theorem XE:CF prog 132:=call132
theorem XF:CF prog 133:=call133
theorem Pz:CF prog 134:=call134
theorem XG:CF prog 135:=call135
theorem XH:CF prog 136:=call136
theorem XI:CF prog 139:=call139
theorem PA:CF prog 140:=call140
theorem XJ:CF prog 141:=call141
theorem PC:CF prog 142:=call142
theorem XK:CF prog 143:=call143
theorem XL:CF prog 144:=call144
theorem PD:CF prog 145:=call145
theorem XM:CF prog 146:=call146
theorem XN:CF prog 147:=call147
theorem XO:CF prog 148:=call148
theorem XP:CF prog 149:=call149
theorem PE:CF prog 150:=call150
theorem XQ:CF prog 151:=call151
theorem PF:CF prog 152:=call152
theorem XR:CF prog 153:=call153
theorem XS:CF prog 155:=call155
theorem G4:CF prog 157:=call157
theorem XT:CF prog 158:=call158
theorem XU:CF prog 159:=call159
theorem XV:CF prog 160:=call160
theorem XW:CF prog 161:=call161
theorem XX:CF prog 162:=call162
theorem XY:CF prog 163:=call163
theorem XZ:CF prog 172:=call172
theorem X0:CF prog 173:=call173
theorem X1:CF prog 174:=call174
theorem X2:CF prog 183:=call183
theorem X3:CF prog 184:=call184
theorem PG:CF prog 185:=call185
theorem PH:CF prog 191:=call191
theorem PI:CF prog 192:=call192
theorem KI:CF prog 193:=call193
theorem PJ:CF prog 194:=call194
theorem PK:CF prog 195:=call195
theorem X4:CF prog 196:=call196
theorem PN:CF prog 197:=call197
theorem G5:CF prog 198:=call198
theorem X5:CF prog 199:=call199
theorem X6:CF prog 200:=call200
theorem PO:CF prog 201:=call201
theorem X7:CF prog 202:=call202
theorem X8:CF prog 203:=call203
theorem X9:CF prog 204:=call204
theorem Ya:CF prog 205:=call205
theorem Yb:CF prog 206:=call206
theorem Yc:CF prog 207:=call207
theorem Yd:CF prog 208:=call208
theorem Ye:CF prog 212:=call212
theorem KJ:CF prog 213:=call213
theorem Yf:CF prog 214:=call214
theorem Yg:CF prog 215:=call215
theorem Yh:CF prog 257:=call257
theorem PQ:CF prog 258:=call258
theorem Yi:CF prog 259:=call259
theorem Yj:CF prog 260:=call260
theorem Yk:CF prog 262:=call262
theorem Yl:CF prog 263:=call263
theorem PR:CF prog 281:=call281
theorem Ym:CF prog 282:=call282
theorem Yn:CF prog 360:=call360
instance:gq prog 6:=⟨cf6⟩
instance:gq prog 16:=⟨adw⟩
instance:gq prog 17:=⟨zC⟩
instance:gq prog 20:=⟨adx⟩
instance:gq prog 22:=⟨N5⟩
instance:gq prog 24:=⟨W1⟩
instance:gq prog 25:=⟨H0⟩
instance:gq prog 27:=⟨adA⟩
instance:gq prog 30:=⟨adD⟩
instance:gq prog 38:=⟨KC⟩
instance:gq prog 39:=⟨H3⟩
instance:gq prog 40:=⟨Sn⟩
instance:gq prog 42:=⟨adL⟩
instance:gq prog 43:=⟨adM⟩
instance:gq prog 45:=⟨adO⟩
instance:gq prog 49:=⟨adP⟩
instance:gq prog 50:=⟨N7⟩
instance:gq prog 53:=⟨W3⟩
instance:gq prog 62:=⟨adY⟩
instance:gq prog 63:=⟨adZ⟩
instance:gq prog 64:=⟨ad0⟩
instance:gq prog 66:=⟨ad2⟩
instance:gq prog 70:=⟨ad5⟩
instance:gq prog 77:=⟨W6⟩
instance:gq prog 80:=⟨ad9⟩
instance:gq prog 82:=⟨W8⟩
instance:gq prog 88:=⟨Xb⟩
instance:gq prog 90:=⟨Xc⟩
instance:gq prog 91:=⟨aed⟩
instance:gq prog 104:=⟨Xg⟩
instance:gq prog 105:=⟨Xh⟩
instance:gq prog 106:=⟨Xi⟩
instance:gq prog 107:=⟨Xj⟩
instance:gq prog 109:=⟨KH⟩
instance:gq prog 110:=⟨Xl⟩
instance:gq prog 111:=⟨Xm⟩
instance:gq prog 112:=⟨Xn⟩
instance:gq prog 113:=⟨Xo⟩
instance:gq prog 115:=⟨Xq⟩
instance:gq prog 117:=⟨Xs⟩
instance:gq prog 118:=⟨Xt⟩
instance:gq prog 119:=⟨Px⟩
instance:gq prog 125:=⟨Xz⟩
instance:gq prog 126:=⟨XA⟩
instance:gq prog 127:=⟨XB⟩
instance:gq prog 128:=⟨XC⟩
instance:gq prog 129:=⟨XD⟩
instance:gq prog 135:=⟨XG⟩
instance:gq prog 142:=⟨PC⟩
instance:gq prog 145:=⟨PD⟩
instance:gq prog 148:=⟨XO⟩
instance:gq prog 149:=⟨XP⟩
instance:gq prog 152:=⟨PF⟩
instance:gq prog 155:=⟨XS⟩
instance:gq prog 160:=⟨XV⟩
instance:gq prog 161:=⟨XW⟩
instance:gq prog 163:=⟨XY⟩
instance:gq prog 172:=⟨XZ⟩
instance:gq prog 173:=⟨X0⟩
instance:gq prog 174:=⟨X1⟩
instance:gq prog 195:=⟨PK⟩
instance:gq prog 196:=⟨X4⟩
instance:gq prog 200:=⟨X6⟩
instance:gq prog 202:=⟨X7⟩
instance:gq prog 206:=⟨Yb⟩
instance:gq prog 207:=⟨Yc⟩
instance:gq prog 208:=⟨Yd⟩
instance:gq prog 213:=⟨KJ⟩
instance:gq prog 215:=⟨Yg⟩
instance:gq prog 257:=⟨Yh⟩
instance:gq prog 259:=⟨Yi⟩
instance:gq prog 260:=⟨Yj⟩
instance:gq prog 360:=⟨Yn⟩
end Go.Rc

