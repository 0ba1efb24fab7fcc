/- Walks over the program, part Facts. Conditions: as each theorem says. -/
import Derived.Test.YtfamnpoplgkkcaaGreatDoorProg
import Derived.Test.YtfamnpoplgkkcaaGreatDoorOBd
set_option linter.all false
namespace Go.Rc
open Go Go.Proofs Go.Proofs.Tryz
theorem mixed:prog.follows .mixedOrders=true:=by kernel_rfl
theorem fH:GY prog 41:=LS underlying41 rfl rfl rfl rfl (by decide) (by decide) underlying3 underlying9 isAgg3 isAgg9 (by kernel_rfl) (by kernel_rfl)
theorem aL:tm prog 31 3:=⟨⟨_,underlying31⟩,by kernel_rfl⟩
theorem ao:tm prog 41 2:=⟨⟨_,underlying41⟩,by kernel_rfl⟩
theorem cU:tm prog 47 8:=⟨⟨_,underlying47⟩,by kernel_rfl⟩
theorem sM:tm prog 58 4:=⟨⟨_,underlying58⟩,by kernel_rfl⟩
theorem B2:tm prog 65 3:=⟨⟨_,underlying65⟩,by kernel_rfl⟩
theorem kl:tm prog 88 4:=⟨⟨_,underlying88⟩,by kernel_rfl⟩
theorem kW:tm prog 102 4:=⟨⟨_,underlying102⟩,by kernel_rfl⟩
theorem dQ:tm prog 107 7:=⟨⟨_,underlying107⟩,by kernel_rfl⟩
theorem nC:tm prog 126 6:=⟨⟨_,underlying126⟩,by kernel_rfl⟩
theorem iL:tm prog 140 4:=⟨⟨_,underlying140⟩,by kernel_rfl⟩
theorem zk:tm prog 167 4:=⟨⟨_,underlying167⟩,by kernel_rfl⟩
theorem acK:AP prog 22 3 1 8:=ou (z:=.int .i64 0) underlying22 (by kernel_rfl) (by kernel_rfl) (by decide)
theorem acL:AP prog 27 58 4 48:=ou (z:=.agg #[.bool false,.slice none 0 0,.int .i64 0,.int .i64 0]) underlying27 (by kernel_rfl) (by kernel_rfl) (by decide)
theorem acM:AP prog 28 88 4 48:=ou (z:=.agg #[.int .i64 0,.string ⟨#[]⟩,.string ⟨#[]⟩,.int .i64 0]) underlying28 (by kernel_rfl) (by kernel_rfl) (by decide)
theorem RF:AP prog 29 47 8 96:=ou (z:=.agg #[.int .i64 0,.string ⟨#[]⟩,.string ⟨#[]⟩,.slice none 0 0,.int .i64 0,.int .i64 0,.int .i64 0,.bool false]) underlying29 (by kernel_rfl) (by kernel_rfl) (by decide)
theorem l5:AP prog 34 41 2 24:=ou (z:=.agg #[.int .i64 0,.string ⟨#[]⟩]) underlying34 (by kernel_rfl) (by kernel_rfl) (by decide)
theorem acN:AP prog 54 65 3 40:=ou (z:=.agg #[.int .i64 0,.string ⟨#[]⟩,.string ⟨#[]⟩]) underlying54 (by kernel_rfl) (by kernel_rfl) (by decide)
theorem acO:AP prog 56 102 4 24:=ou (z:=.agg #[.bool false,.bool false,.int .i64 0,.int .i64 0]) underlying56 (by kernel_rfl) (by kernel_rfl) (by decide)
theorem RG:AP prog 77 126 6 88:=ou (z:=.agg #[.int .i64 0,.string ⟨#[]⟩,.bool false,.int .i64 0,.slice none 0 0,.slice none 0 0]) underlying77 (by kernel_rfl) (by kernel_rfl) (by decide)
theorem B3:AP prog 124 9 1 16:=ou (z:=.string ⟨#[]⟩) underlying124 (by kernel_rfl) (by kernel_rfl) (by decide)
theorem Wc:AP prog 164 167 4 48:=ou (z:=.agg #[.int .i64 0,.string ⟨#[]⟩,.int .i64 0,.string ⟨#[]⟩]) underlying164 (by kernel_rfl) (by kernel_rfl) (by decide)
theorem J2:BS prog 22 3 1 1 [.int .i64 0]:=⟨underlying22,sizeOf3,by decide,by decide,_,zeroValue3,by kernel_rfl⟩
theorem J3:BS prog 27 58 4 1 [.bool false,.slice none 0 0,.int .i64 0,.int .i64 0]:=⟨underlying27,sizeOf58,by decide,by decide,_,zeroValue58,by kernel_rfl⟩
theorem EG:BS prog 28 88 4 1 [.int .i64 0,.string ⟨#[]⟩,.string ⟨#[]⟩,.int .i64 0]:=⟨underlying28,sizeOf88,by decide,by decide,_,zeroValue88,by kernel_rfl⟩
theorem nD:BS prog 29 47 8 1 [.int .i64 0,.string ⟨#[]⟩,.string ⟨#[]⟩,.slice none 0 0,.int .i64 0,.int .i64 0,.int .i64 0,.bool false]:=⟨underlying29,sizeOf47,by decide,by decide,_,zeroValue47,by kernel_rfl⟩
theorem dz:BS prog 34 41 2 1 [.int .i64 0,.string ⟨#[]⟩]:=⟨underlying34,sizeOf41,by decide,by decide,_,zeroValue41,by kernel_rfl⟩
theorem EH:BS prog 54 65 3 1 [.int .i64 0,.string ⟨#[]⟩,.string ⟨#[]⟩]:=⟨underlying54,sizeOf65,by decide,by decide,_,zeroValue65,by kernel_rfl⟩
theorem J4:BS prog 56 102 4 1 [.bool false,.bool false,.int .i64 0,.int .i64 0]:=⟨underlying56,sizeOf102,by decide,by decide,_,zeroValue102,by kernel_rfl⟩
theorem rL:BS prog 77 126 6 1 [.int .i64 0,.string ⟨#[]⟩,.bool false,.int .i64 0,.slice none 0 0,.slice none 0 0]:=⟨underlying77,sizeOf126,by decide,by decide,_,zeroValue126,by kernel_rfl⟩
theorem jm:BS prog 124 9 1 1 [.string ⟨#[]⟩]:=⟨underlying124,sizeOf9,by decide,by decide,_,zeroValue9,by kernel_rfl⟩
theorem Gx:BS prog 164 167 4 1 [.int .i64 0,.string ⟨#[]⟩,.int .i64 0,.string ⟨#[]⟩]:=⟨underlying164,sizeOf167,by decide,by decide,_,zeroValue167,by kernel_rfl⟩
theorem J5:BS prog 124 9 1 10 [.string ⟨#[]⟩,.string ⟨#[]⟩,.string ⟨#[]⟩,.string ⟨#[]⟩,.string ⟨#[]⟩,.string ⟨#[]⟩,.string ⟨#[]⟩,.string ⟨#[]⟩,.string ⟨#[]⟩,.string ⟨#[]⟩]:=⟨underlying124,sizeOf9,by decide,by decide,_,zeroValue9,by kernel_rfl⟩
theorem RH:BS prog 22 3 1 2 [.int .i64 0,.int .i64 0]:=⟨underlying22,sizeOf3,by decide,by decide,_,zeroValue3,by kernel_rfl⟩
theorem RJ:BS prog 27 58 4 2 [.bool false,.slice none 0 0,.int .i64 0,.int .i64 0,.bool false,.slice none 0 0,.int .i64 0,.int .i64 0]:=⟨underlying27,sizeOf58,by decide,by decide,_,zeroValue58,by kernel_rfl⟩
theorem RM:BS prog 56 102 4 2 [.bool false,.bool false,.int .i64 0,.int .i64 0,.bool false,.bool false,.int .i64 0,.int .i64 0]:=⟨underlying56,sizeOf102,by decide,by decide,_,zeroValue102,by kernel_rfl⟩
theorem RN:BS prog 22 3 1 6 [.int .i64 0,.int .i64 0,.int .i64 0,.int .i64 0,.int .i64 0,.int .i64 0]:=⟨underlying22,sizeOf3,by decide,by decide,_,zeroValue3,by kernel_rfl⟩
theorem Wd:BT prog 31 [.int .i64 0,.slice none 0 0,.slice none 0 0] [(0,1),(1,1),(2,1)]:=jr (fs:=[_,_,_]) zeroValue31 rfl underlying31 ⟨rfl,sizeOf3,rfl,sizeOf28,rfl,sizeOf29,trivial⟩
theorem B4:BT prog 41 [.int .i64 0,.string ⟨#[]⟩] [(0,1),(1,1)]:=jr (fs:=[_,_]) zeroValue41 rfl underlying41 ⟨rfl,sizeOf3,rfl,sizeOf9,trivial⟩
theorem MP:BT prog 47 [.int .i64 0,.string ⟨#[]⟩,.string ⟨#[]⟩,.slice none 0 0,.int .i64 0,.int .i64 0,.int .i64 0,.bool false] [(0,2),(2,1),(3,1),(4,1),(5,1),(6,1),(7,1)]:=jr (fs:=[_,_,_,_,_,_,_]) zeroValue47 rfl underlying47 ⟨rfl,sizeOf41,rfl,sizeOf9,rfl,sizeOf34,rfl,sizeOf3,rfl,sizeOf3,rfl,sizeOf3,rfl,sizeOf4,trivial⟩
theorem MQ:BT prog 58 [.bool false,.slice none 0 0,.int .i64 0,.int .i64 0] [(0,1),(1,1),(2,1),(3,1)]:=jr (fs:=[_,_,_,_]) zeroValue58 rfl underlying58 ⟨rfl,sizeOf4,rfl,sizeOf56,rfl,sizeOf3,rfl,sizeOf3,trivial⟩
theorem RO:BT prog 65 [.int .i64 0,.string ⟨#[]⟩,.string ⟨#[]⟩] [(0,2),(2,1)]:=jr (fs:=[_,_]) zeroValue65 rfl underlying65 ⟨rfl,sizeOf41,rfl,sizeOf9,trivial⟩
theorem acP:BT prog 70 [.slice none 0 0,.int .i64 0] [(0,1),(1,1)]:=jr (fs:=[_,_]) zeroValue70 rfl underlying70 ⟨rfl,sizeOf22,rfl,sizeOf3,trivial⟩
theorem acQ:BT prog 86 [.slice none 0 0,.int .i64 0,.slice none 0 0,.slice none 0 0,.map none,.pointer none,.slice none 0 0] [(0,1),(1,3),(4,1),(5,1),(6,1)]:=jr (fs:=[_,_,_,_,_]) zeroValue86 rfl underlying86 ⟨rfl,sizeOf27,rfl,sizeOf31,rfl,sizeOf83,rfl,sizeOf84,rfl,sizeOf34,trivial⟩
theorem MR:BT prog 88 [.int .i64 0,.string ⟨#[]⟩,.string ⟨#[]⟩,.int .i64 0] [(0,2),(2,1),(3,1)]:=jr (fs:=[_,_,_]) zeroValue88 rfl underlying88 ⟨rfl,sizeOf41,rfl,sizeOf9,rfl,sizeOf3,trivial⟩
theorem B5:BT prog 102 [.bool false,.bool false,.int .i64 0,.int .i64 0] [(0,1),(1,1),(2,1),(3,1)]:=jr (fs:=[_,_,_,_]) zeroValue102 rfl underlying102 ⟨rfl,sizeOf4,rfl,sizeOf4,rfl,sizeOf3,rfl,sizeOf3,trivial⟩
theorem OP:BT prog 107 [.slice none 0 0,.int .i64 0,.slice none 0 0,.slice none 0 0,.slice none 0 0,.slice none 0 0,.slice none 0 0] [(0,1),(1,3),(4,1),(5,1),(6,1)]:=jr (fs:=[_,_,_,_,_]) zeroValue107 rfl underlying107 ⟨rfl,sizeOf27,rfl,sizeOf31,rfl,sizeOf34,rfl,sizeOf77,rfl,sizeOf34,trivial⟩
theorem Gy:BT prog 126 [.int .i64 0,.string ⟨#[]⟩,.bool false,.int .i64 0,.slice none 0 0,.slice none 0 0] [(0,2),(2,1),(3,1),(4,1),(5,1)]:=jr (fs:=[_,_,_,_,_]) zeroValue126 rfl underlying126 ⟨rfl,sizeOf41,rfl,sizeOf4,rfl,sizeOf3,rfl,sizeOf34,rfl,sizeOf124,trivial⟩
theorem We:BT prog 137 [.slice none 0 0,.int .i64 0,.slice none 0 0,.slice none 0 0,.map none,.map none] [(0,1),(1,3),(4,1),(5,1)]:=jr (fs:=[_,_,_,_]) zeroValue137 rfl underlying137 ⟨rfl,sizeOf27,rfl,sizeOf31,rfl,sizeOf134,rfl,sizeOf135,trivial⟩
theorem mw:BT prog 140 [.bool false,.string ⟨#[]⟩,.int .i64 0,.string ⟨#[]⟩] [(0,1),(1,1),(2,2)]:=jr (fs:=[_,_,_]) zeroValue140 rfl underlying140 ⟨rfl,sizeOf4,rfl,sizeOf9,rfl,sizeOf41,trivial⟩
theorem Wf:BT prog 153 [.pointer none,.int .i64 0,.slice none 0 0,.slice none 0 0,.map none,.slice none 0 0,.int .i64 0] [(0,1),(1,3),(4,1),(5,1),(6,1)]:=jr (fs:=[_,_,_,_,_]) zeroValue153 rfl underlying153 ⟨rfl,sizeOf92,rfl,sizeOf31,rfl,sizeOf151,rfl,sizeOf34,rfl,sizeOf36,trivial⟩
theorem Wg:BT prog 158 [.slice none 0 0,.int .i64 0,.slice none 0 0,.slice none 0 0,.map none,.map none] [(0,1),(1,3),(4,1),(5,1)]:=jr (fs:=[_,_,_,_]) zeroValue158 rfl underlying158 ⟨rfl,sizeOf27,rfl,sizeOf31,rfl,sizeOf134,rfl,sizeOf151,trivial⟩
theorem OQ:BT prog 167 [.int .i64 0,.string ⟨#[]⟩,.int .i64 0,.string ⟨#[]⟩] [(0,2),(2,2)]:=jr (fs:=[_,_]) zeroValue167 rfl underlying167 ⟨rfl,sizeOf41,rfl,sizeOf41,trivial⟩
theorem Gz:BT prog 432 [.string ⟨#[]⟩,.string ⟨#[]⟩,.nilIface] [(0,1),(1,1),(2,1)]:=jr (fs:=[_,_,_]) zeroValue432 rfl underlying432 ⟨rfl,sizeOf9,rfl,sizeOf9,rfl,sizeOf189,trivial⟩
theorem cZ:KK prog 41 Key.val:=Ql underlying41 fH (G1 underlying41 rfl rfl rfl rfl underlying3 underlying9 isAgg3 isAgg9)
theorem zl:∃ms,prog.underlying 189=some (.interface ms):=⟨_,underlying189⟩
theorem aN:One prog 3:=isAgg3
theorem dG:One prog 4:=isAgg4
theorem fh:One prog 9:=isAgg9
theorem OS:One prog 22:=isAgg22
theorem jy:One prog 27:=isAgg27
theorem iX:One prog 28:=isAgg28
theorem dt:One prog 29:=isAgg29
theorem dC:One prog 34:=isAgg34
theorem x5:One prog 36:=isAgg36
theorem kn:One prog 56:=isAgg56
theorem J6:One prog 75:=isAgg75
theorem B6:One prog 77:=isAgg77
theorem fT:One prog 83:=isAgg83
theorem x7:One prog 84:=isAgg84
theorem J7:One prog 92:=isAgg92
theorem rM:One prog 124:=isAgg124
theorem gD:One prog 134:=isAgg134
theorem nE:One prog 151:=isAgg151
theorem zm:One prog 189:=isAgg189
theorem EJ:xi prog 22 3 1:=⟨underlying22,sizeOf3⟩
theorem jh:xi prog 27 58 4:=⟨underlying27,sizeOf58⟩
theorem qu:xi prog 28 88 4:=⟨underlying28,sizeOf88⟩
theorem ij:xi prog 29 47 8:=⟨underlying29,sizeOf47⟩
theorem ek:xi prog 34 41 2:=⟨underlying34,sizeOf41⟩
theorem HE:xi prog 54 65 3:=⟨underlying54,sizeOf65⟩
theorem wC:xi prog 56 102 4:=⟨underlying56,sizeOf102⟩
theorem mE:xi prog 77 126 6:=⟨underlying77,sizeOf126⟩
theorem oC:xi prog 124 9 1:=⟨underlying124,sizeOf9⟩
theorem GA:xi prog 164 167 4:=⟨underlying164,sizeOf167⟩
theorem OT:xi prog 219 5 1:=⟨underlying219,sizeOf5⟩
theorem acR:∀w,(sizeOf 41).run prog w=.ok 2 w:=sizeOf41
theorem acS:∀w,(sizeOf 47).run prog w=.ok 8 w:=sizeOf47
theorem acT:∀w,(sizeOf 88).run prog w=.ok 4 w:=sizeOf88
theorem GB:(prog.info? 3).map (·.size)=some 1:=by kernel_rfl
theorem OU:(prog.info? 4).map (·.size)=some 1:=by kernel_rfl
theorem acU:(prog.info? 28).map (·.size)=some 1:=by kernel_rfl
theorem acV:(prog.info? 29).map (·.size)=some 1:=by kernel_rfl
theorem dR:(prog.info? 31).map (·.size)=some 3:=by kernel_rfl
theorem RP:(prog.info? 34).map (·.size)=some 1:=by kernel_rfl
theorem acW:(prog.info? 36).map (·.size)=some 1:=by kernel_rfl
theorem gQ:(prog.info? 41).map (·.size)=some 2:=by kernel_rfl
theorem fI:(prog.info? 47).map (·.size)=some 8:=by kernel_rfl
theorem acX:(prog.info? 56).map (·.size)=some 1:=by kernel_rfl
theorem EL:(prog.info? 58).map (·.size)=some 4:=by kernel_rfl
theorem J8:(prog.info? 65).map (·.size)=some 3:=by kernel_rfl
theorem acY:(prog.info? 77).map (·.size)=some 1:=by kernel_rfl
theorem zn:(prog.info? 88).map (·.size)=some 4:=by kernel_rfl
theorem u2:(prog.info? 102).map (·.size)=some 4:=by kernel_rfl
theorem jz:(prog.info? 107).map (·.size)=some 7:=by kernel_rfl
theorem J9:(prog.info? 124).map (·.size)=some 1:=by kernel_rfl
theorem GC:(prog.info? 126).map (·.size)=some 6:=by kernel_rfl
theorem Wh:(prog.info? 134).map (·.size)=some 1:=by kernel_rfl
theorem gy:(prog.info? 140).map (·.size)=some 4:=by kernel_rfl
theorem Ka:(prog.info? 167).map (·.size)=some 4:=by kernel_rfl
theorem acZ:prog.underlying 3=some (.int .i64):=underlying3
theorem ac0:prog.underlying 4=some (.bool):=underlying4
theorem ac1:prog.underlying 5=some (.int .u8):=underlying5
theorem rO:prog.underlying 9=some (.string):=underlying9
theorem OV:prog.underlying 28=some (.slice 88):=underlying28
theorem OW:prog.underlying 29=some (.slice 47):=underlying29
theorem OY:prog.underlying 34=some (.slice 41):=underlying34
theorem fU:prog.underlying 83=some (.map 41 120):=underlying83
theorem RQ:prog.underlying 120=some (.pointer 47):=underlying120
theorem dT:prog.underlying 134=some (.map 41 9):=underlying134
theorem Kb:prog.underlying 135=some (.map 41 34):=underlying135
theorem gE:prog.underlying 151=some (.map 41 4):=underlying151
theorem zv4:ZV prog 4 [.bool false]:=⟨_,zeroValue4,rfl⟩
theorem Wi:ZV prog 31 [.int .i64 0,.slice none 0 0,.slice none 0 0]:=⟨_,zeroValue31,rfl⟩
theorem ac2:ZV prog 34 [.slice none 0 0]:=⟨_,zeroValue34,rfl⟩
theorem EM:ZV prog 41 [.int .i64 0,.string ⟨#[]⟩]:=⟨_,zeroValue41,rfl⟩
theorem nF:ZV prog 47 [.int .i64 0,.string ⟨#[]⟩,.string ⟨#[]⟩,.slice none 0 0,.int .i64 0,.int .i64 0,.int .i64 0,.bool false]:=⟨_,zeroValue47,rfl⟩
theorem MS:ZV prog 58 [.bool false,.slice none 0 0,.int .i64 0,.int .i64 0]:=⟨_,zeroValue58,rfl⟩
theorem ac3:ZV prog 65 [.int .i64 0,.string ⟨#[]⟩,.string ⟨#[]⟩]:=⟨_,zeroValue65,rfl⟩
theorem MT:ZV prog 88 [.int .i64 0,.string ⟨#[]⟩,.string ⟨#[]⟩,.int .i64 0]:=⟨_,zeroValue88,rfl⟩
theorem Kc:ZV prog 102 [.bool false,.bool false,.int .i64 0,.int .i64 0]:=⟨_,zeroValue102,rfl⟩
theorem OZ:ZV prog 107 [.slice none 0 0,.int .i64 0,.slice none 0 0,.slice none 0 0,.slice none 0 0,.slice none 0 0,.slice none 0 0]:=⟨_,zeroValue107,rfl⟩
theorem O0:ZV prog 126 [.int .i64 0,.string ⟨#[]⟩,.bool false,.int .i64 0,.slice none 0 0,.slice none 0 0]:=⟨_,zeroValue126,rfl⟩
theorem Wj:ZV prog 134 [.map none]:=⟨_,zeroValue134,rfl⟩
theorem oD:ZV prog 140 [.bool false,.string ⟨#[]⟩,.int .i64 0,.string ⟨#[]⟩]:=⟨_,zeroValue140,rfl⟩
theorem Wk:ZV prog 167 [.int .i64 0,.string ⟨#[]⟩,.int .i64 0,.string ⟨#[]⟩]:=⟨_,zeroValue167,rfl⟩
theorem B7:∀w,(zeroValue 4).run prog w=.ok (.bool false) w:=zeroValue4
theorem l6:∀w,(zeroValue 9).run prog w=.ok (.string ⟨#[]⟩) w:=zeroValue9
theorem O1:∀w,(zeroValue 34).run prog w=.ok (.slice none 0 0) w:=zeroValue34
theorem fi:∀w,(zeroValue 120).run prog w=.ok (.pointer none) w:=zeroValue120
theorem kX:FA prog 31 0 0:=cm underlying31 rfl sizeOf3 (by decide) rfl
theorem u4:FA prog 31 1 1:=cm underlying31 rfl sizeOf28 (by decide) rfl
theorem rP:FA prog 31 2 2:=cm underlying31 rfl sizeOf29 (by decide) rfl
theorem dD:FA prog 41 0 0:=cm underlying41 rfl sizeOf3 (by decide) rfl
theorem pj:FA prog 41 1 1:=cm underlying41 rfl sizeOf9 (by decide) rfl
theorem pn:FA prog 47 0 0:=cm underlying47 rfl sizeOf41 (by decide) rfl
theorem u5:FA prog 47 1 2:=cm underlying47 rfl sizeOf9 (by decide) rfl
theorem zo:FA prog 47 2 3:=cm underlying47 rfl sizeOf34 (by decide) rfl
theorem u6:FA prog 47 3 4:=cm underlying47 rfl sizeOf3 (by decide) rfl
theorem po:FA prog 47 4 5:=cm underlying47 rfl sizeOf3 (by decide) rfl
theorem EN:FA prog 47 5 6:=cm underlying47 rfl sizeOf3 (by decide) rfl
theorem EO:FA prog 47 6 7:=cm underlying47 rfl sizeOf4 (by decide) rfl
theorem ko:FA prog 58 0 0:=cm underlying58 rfl sizeOf4 (by decide) rfl
theorem rQ:FA prog 58 1 1:=cm underlying58 rfl sizeOf56 (by decide) rfl
theorem pq:FA prog 58 2 2:=cm underlying58 rfl sizeOf3 (by decide) rfl
theorem kY:FA prog 58 3 3:=cm underlying58 rfl sizeOf3 (by decide) rfl
theorem RU:FA prog 65 0 0:=cm underlying65 rfl sizeOf41 (by decide) rfl
theorem RV:FA prog 65 1 2:=cm underlying65 rfl sizeOf9 (by decide) rfl
theorem Ke:FA prog 70 0 0:=cm underlying70 rfl sizeOf22 (by decide) rfl
theorem zq:FA prog 70 1 1:=cm underlying70 rfl sizeOf3 (by decide) rfl
theorem RW:FA prog 86 0 0:=cm underlying86 rfl sizeOf27 (by decide) rfl
theorem RX:FA prog 86 1 1:=cm underlying86 rfl sizeOf31 (by decide) rfl
theorem RY:FA prog 86 2 4:=cm underlying86 rfl sizeOf83 (by decide) rfl
theorem RZ:FA prog 86 3 5:=cm underlying86 rfl sizeOf84 (by decide) rfl
theorem R0:FA prog 86 4 6:=cm underlying86 rfl sizeOf34 (by decide) rfl
theorem rR:FA prog 88 0 0:=cm underlying88 rfl sizeOf41 (by decide) rfl
theorem EP:FA prog 88 1 2:=cm underlying88 rfl sizeOf9 (by decide) rfl
theorem u7:FA prog 88 2 3:=cm underlying88 rfl sizeOf3 (by decide) rfl
theorem tQ:FA prog 102 0 0:=cm underlying102 rfl sizeOf4 (by decide) rfl
theorem qv:FA prog 102 1 1:=cm underlying102 rfl sizeOf4 (by decide) rfl
theorem zs:FA prog 102 2 2:=cm underlying102 rfl sizeOf3 (by decide) rfl
theorem qw:FA prog 102 3 3:=cm underlying102 rfl sizeOf3 (by decide) rfl
theorem MU:FA prog 107 0 0:=cm underlying107 rfl sizeOf27 (by decide) rfl
theorem MV:FA prog 107 1 1:=cm underlying107 rfl sizeOf31 (by decide) rfl
theorem MW:FA prog 107 2 4:=cm underlying107 rfl sizeOf34 (by decide) rfl
theorem MX:FA prog 107 3 5:=cm underlying107 rfl sizeOf77 (by decide) rfl
theorem MY:FA prog 107 4 6:=cm underlying107 rfl sizeOf34 (by decide) rfl
theorem GD:FA prog 126 0 0:=cm underlying126 rfl sizeOf41 (by decide) rfl
theorem MZ:FA prog 126 1 2:=cm underlying126 rfl sizeOf4 (by decide) rfl
theorem Na:FA prog 126 2 3:=cm underlying126 rfl sizeOf3 (by decide) rfl
theorem Nb:FA prog 126 3 4:=cm underlying126 rfl sizeOf34 (by decide) rfl
theorem Nc:FA prog 126 4 5:=cm underlying126 rfl sizeOf124 (by decide) rfl
theorem Nd:FA prog 137 0 0:=cm underlying137 rfl sizeOf27 (by decide) rfl
theorem Nf:FA prog 137 1 1:=cm underlying137 rfl sizeOf31 (by decide) rfl
theorem Ng:FA prog 137 2 4:=cm underlying137 rfl sizeOf134 (by decide) rfl
theorem Nh:FA prog 140 0 0:=cm underlying140 rfl sizeOf4 (by decide) rfl
theorem Ni:FA prog 140 1 1:=cm underlying140 rfl sizeOf9 (by decide) rfl
theorem Nj:FA prog 140 2 2:=cm underlying140 rfl sizeOf41 (by decide) rfl
theorem Nk:FA prog 153 0 0:=cm underlying153 rfl sizeOf92 (by decide) rfl
theorem Nl:FA prog 153 1 1:=cm underlying153 rfl sizeOf31 (by decide) rfl
theorem Nn:FA prog 153 2 4:=cm underlying153 rfl sizeOf151 (by decide) rfl
theorem Np:FA prog 153 3 5:=cm underlying153 rfl sizeOf34 (by decide) rfl
theorem Nq:FA prog 153 4 6:=cm underlying153 rfl sizeOf36 (by decide) rfl
theorem Nr:FA prog 158 0 0:=cm underlying158 rfl sizeOf27 (by decide) rfl
theorem Ns:FA prog 158 1 1:=cm underlying158 rfl sizeOf31 (by decide) rfl
theorem Nt:FA prog 158 2 4:=cm underlying158 rfl sizeOf134 (by decide) rfl
theorem Nu:FA prog 158 3 5:=cm underlying158 rfl sizeOf151 (by decide) rfl
theorem Nv:FA prog 167 0 0:=cm underlying167 rfl sizeOf41 (by decide) rfl
theorem Nw:FA prog 167 1 2:=cm underlying167 rfl sizeOf41 (by decide) rfl
instance:I1 prog 124 9 1 16:=⟨B3⟩
instance:I1 prog 164 167 4 48:=⟨Wc⟩
instance:I1 prog 22 3 1 8:=⟨acK⟩
instance:I1 prog 27 58 4 48:=⟨acL⟩
instance:I1 prog 28 88 4 48:=⟨acM⟩
instance:I1 prog 29 47 8 96:=⟨RF⟩
instance:I1 prog 34 41 2 24:=⟨l5⟩
instance:I1 prog 54 65 3 40:=⟨acN⟩
instance:I1 prog 56 102 4 24:=⟨acO⟩
instance:I1 prog 77 126 6 88:=⟨RG⟩
instance:Uq prog 41 [.int .i64 0,.string ⟨#[]⟩] [(0,1),(1,1)]:=⟨B4⟩
instance:Uq prog 47 [.int .i64 0,.string ⟨#[]⟩,.string ⟨#[]⟩,.slice none 0 0,.int .i64 0,.int .i64 0,.int .i64 0,.bool false] [(0,2),(2,1),(3,1),(4,1),(5,1),(6,1),(7,1)]:=⟨MP⟩
instance:Uq prog 88 [.int .i64 0,.string ⟨#[]⟩,.string ⟨#[]⟩,.int .i64 0] [(0,2),(2,1),(3,1)]:=⟨MR⟩
instance:iG prog 102 0 0:=⟨tQ⟩
instance:iG prog 102 1 1:=⟨qv⟩
instance:iG prog 102 2 2:=⟨zs⟩
instance:iG prog 102 3 3:=⟨qw⟩
instance:iG prog 107 0 0:=⟨MU⟩
instance:iG prog 107 1 1:=⟨MV⟩
instance:iG prog 107 2 4:=⟨MW⟩
instance:iG prog 107 3 5:=⟨MX⟩
instance:iG prog 107 4 6:=⟨MY⟩
instance:iG prog 126 0 0:=⟨GD⟩
instance:iG prog 126 1 2:=⟨MZ⟩
instance:iG prog 126 2 3:=⟨Na⟩
instance:iG prog 126 3 4:=⟨Nb⟩
instance:iG prog 126 4 5:=⟨Nc⟩
instance:iG prog 137 0 0:=⟨Nd⟩
instance:iG prog 137 1 1:=⟨Nf⟩
instance:iG prog 137 2 4:=⟨Ng⟩
instance:iG prog 140 0 0:=⟨Nh⟩
instance:iG prog 140 1 1:=⟨Ni⟩
instance:iG prog 140 2 2:=⟨Nj⟩
instance:iG prog 153 0 0:=⟨Nk⟩
instance:iG prog 153 1 1:=⟨Nl⟩
instance:iG prog 153 2 4:=⟨Nn⟩
instance:iG prog 153 3 5:=⟨Np⟩
instance:iG prog 153 4 6:=⟨Nq⟩
instance:iG prog 158 0 0:=⟨Nr⟩
instance:iG prog 158 1 1:=⟨Ns⟩
instance:iG prog 158 2 4:=⟨Nt⟩
instance:iG prog 158 3 5:=⟨Nu⟩
instance:iG prog 167 0 0:=⟨Nv⟩
instance:iG prog 167 1 2:=⟨Nw⟩
instance:iG prog 31 0 0:=⟨kX⟩
instance:iG prog 31 1 1:=⟨u4⟩
instance:iG prog 31 2 2:=⟨rP⟩
instance:iG prog 41 0 0:=⟨dD⟩
instance:iG prog 41 1 1:=⟨pj⟩
instance:iG prog 47 0 0:=⟨pn⟩
instance:iG prog 47 1 2:=⟨u5⟩
instance:iG prog 47 2 3:=⟨zo⟩
instance:iG prog 47 3 4:=⟨u6⟩
instance:iG prog 47 4 5:=⟨po⟩
instance:iG prog 47 5 6:=⟨EN⟩
instance:iG prog 47 6 7:=⟨EO⟩
instance:iG prog 58 0 0:=⟨ko⟩
instance:iG prog 58 1 1:=⟨rQ⟩
instance:iG prog 58 2 2:=⟨pq⟩
instance:iG prog 58 3 3:=⟨kY⟩
instance:iG prog 65 0 0:=⟨RU⟩
instance:iG prog 65 1 2:=⟨RV⟩
instance:iG prog 86 0 0:=⟨RW⟩
instance:iG prog 86 1 1:=⟨RX⟩
instance:iG prog 86 2 4:=⟨RY⟩
instance:iG prog 86 3 5:=⟨RZ⟩
instance:iG prog 86 4 6:=⟨R0⟩
instance:iG prog 88 0 0:=⟨rR⟩
instance:iG prog 88 1 2:=⟨EP⟩
instance:iG prog 88 2 3:=⟨u7⟩
instance:DR prog 41:=⟨fH⟩
instance:F1 prog 124 9 1:=⟨oC⟩
instance:F1 prog 164 167 4:=⟨GA⟩
instance:F1 prog 219 5 1:=⟨OT⟩
instance:F1 prog 22 3 1:=⟨EJ⟩
instance:F1 prog 27 58 4:=⟨jh⟩
instance:F1 prog 28 88 4:=⟨qu⟩
instance:F1 prog 29 47 8:=⟨ij⟩
instance:F1 prog 34 41 2:=⟨ek⟩
instance:F1 prog 54 65 3:=⟨HE⟩
instance:F1 prog 56 102 4:=⟨wC⟩
instance:F1 prog 77 126 6:=⟨mE⟩
instance:Ih prog 124 1:=⟨J9⟩
instance:Ih prog 134 1:=⟨Wh⟩
instance:Ih prog 28 1:=⟨acU⟩
instance:Ih prog 29 1:=⟨acV⟩
instance:Ih prog 3 1:=⟨GB⟩
instance:Ih prog 34 1:=⟨RP⟩
instance:Ih prog 36 1:=⟨acW⟩
instance:Ih prog 4 1:=⟨OU⟩
instance:Ih prog 56 1:=⟨acX⟩
instance:Ih prog 77 1:=⟨acY⟩
instance:mU prog 120 (.pointer 47):=⟨RQ⟩
instance:mU prog 28 (.slice 88):=⟨OV⟩
instance:mU prog 29 (.slice 47):=⟨OW⟩
instance:mU prog 34 (.slice 41):=⟨OY⟩
instance:mU prog 9 (.string):=⟨rO⟩
instance:DS prog 102 [.bool false,.bool false,.int .i64 0,.int .i64 0]:=⟨Kc⟩
instance:DS prog 107 [.slice none 0 0,.int .i64 0,.slice none 0 0,.slice none 0 0,.slice none 0 0,.slice none 0 0,.slice none 0 0]:=⟨OZ⟩
instance:DS prog 126 [.int .i64 0,.string ⟨#[]⟩,.bool false,.int .i64 0,.slice none 0 0,.slice none 0 0]:=⟨O0⟩
instance:DS prog 140 [.bool false,.string ⟨#[]⟩,.int .i64 0,.string ⟨#[]⟩]:=⟨oD⟩
instance:DS prog 167 [.int .i64 0,.string ⟨#[]⟩,.int .i64 0,.string ⟨#[]⟩]:=⟨Wk⟩
instance:DS prog 31 [.int .i64 0,.slice none 0 0,.slice none 0 0]:=⟨Wi⟩
instance:DS prog 34 [.slice none 0 0]:=⟨ac2⟩
instance:DS prog 4 [.bool false]:=⟨zv4⟩
instance:DS prog 41 [.int .i64 0,.string ⟨#[]⟩]:=⟨EM⟩
instance:DS prog 47 [.int .i64 0,.string ⟨#[]⟩,.string ⟨#[]⟩,.slice none 0 0,.int .i64 0,.int .i64 0,.int .i64 0,.bool false]:=⟨nF⟩
instance:DS prog 58 [.bool false,.slice none 0 0,.int .i64 0,.int .i64 0]:=⟨MS⟩
instance:DS prog 65 [.int .i64 0,.string ⟨#[]⟩,.string ⟨#[]⟩]:=⟨ac3⟩
instance:DS prog 88 [.int .i64 0,.string ⟨#[]⟩,.string ⟨#[]⟩,.int .i64 0]:=⟨MT⟩
theorem cf6:CF prog 6:=call6
theorem cf7:CF prog 7:=call7
theorem cf8:CF prog 8:=call8
theorem cf9:CF prog 9:=call9
theorem R1:CF prog 10:=call10
theorem Nx:CF prog 11:=call11
theorem Kf:CF prog 12:=call12
theorem Wl:CF prog 13:=call13
theorem Wm:CF prog 14:=call14
theorem pr:CF prog 15:=call15
theorem ac4:CF prog 16:=call16
theorem zt:CF prog 17:=call17
theorem Ny:CF prog 18:=call18
theorem Wn:CF prog 19:=call19
theorem ac5:CF prog 20:=call20
theorem ac6:CF prog 21:=call21
theorem Nz:CF prog 22:=call22
theorem jA:CF prog 23:=call23
theorem Wo:CF prog 24:=call24
theorem HF:CF prog 25:=call25
theorem ac7:CF prog 26:=call26
theorem ac8:CF prog 27:=call27
theorem ac9:CF prog 28:=call28
theorem ada:CF prog 29:=call29
theorem adb:CF prog 30:=call30
theorem ade:CF prog 31:=call31
theorem adf:CF prog 32:=call32
theorem adg:CF prog 33:=call33
theorem adh:CF prog 34:=call34
theorem adi:CF prog 35:=call35
theorem adj:CF prog 36:=call36
theorem Wp:CF prog 37:=call37
theorem Kg:CF prog 38:=call38
theorem HG:CF prog 39:=call39
theorem R2:CF prog 40:=call40
theorem adk:CF prog 41:=call41
theorem adl:CF prog 42:=call42
theorem adm:CF prog 43:=call43
theorem adn:CF prog 44:=call44
theorem ado:CF prog 45:=call45
theorem R3:CF prog 46:=call46
theorem Kh:CF prog 47:=call47
theorem NB:CF prog 48:=call48
theorem adp:CF prog 49:=call49
theorem NC:CF prog 50:=call50
theorem zv:CF prog 51:=call51
theorem adq:CF prog 52:=call52
theorem Wq:CF prog 53:=call53
theorem adr:CF prog 54:=call54
theorem Wr:CF prog 55:=call55
theorem ads:CF prog 56:=call56
theorem adt:CF prog 57:=call57
theorem adu:CF prog 58:=call58
theorem adw:CF prog 59:=call59
theorem adx:CF prog 60:=call60
theorem ady:CF prog 61:=call61
theorem adz:CF prog 62:=call62
theorem adA:CF prog 63:=call63
theorem adB:CF prog 64:=call64
theorem adC:CF prog 65:=call65
theorem adD:CF prog 66:=call66
theorem Ws:CF prog 67:=call67
theorem adE:CF prog 68:=call68
theorem adF:CF prog 69:=call69
theorem adG:CF prog 70:=call70
theorem R4:CF prog 71:=call71
theorem adH:CF prog 72:=call72
theorem adI:CF prog 73:=call73
theorem R5:CF prog 74:=call74
theorem adJ:CF prog 75:=call75
theorem Wt:CF prog 77:=call77
theorem Ki:CF prog 78:=call78
theorem Wu:CF prog 79:=call79
theorem adK:CF prog 80:=call80
theorem ND:CF prog 81:=call81
theorem Wv:CF prog 82:=call82
theorem adL:CF prog 83:=call83
theorem R6:CF prog 84:=call84
theorem Ww:CF prog 85:=call85
theorem adM:CF prog 86:=call86
theorem Wx:CF prog 87:=call87
theorem Wz:CF prog 88:=call88
theorem adN:CF prog 89:=call89
theorem WA:CF prog 90:=call90
theorem adO:CF prog 91:=call91
theorem adP:CF prog 93:=call93
theorem adQ:CF prog 94:=call94
theorem R7:CF prog 95:=call95
theorem R8:CF prog 96:=call96
theorem adR:CF prog 97:=call97
theorem adS:CF prog 98:=call98
theorem WE:CF prog 99:=call99
theorem WG:CF prog 100:=call100
theorem WJ:CF prog 101:=call101
theorem Kj:CF prog 102:=call102
theorem O2:CF prog 103:=call103
theorem WM:CF prog 104:=call104
theorem WN:CF prog 105:=call105
theorem WQ:CF prog 106:=call106
theorem WR:CF prog 107:=call107
theorem WS:CF prog 108:=call108
theorem Kk:CF prog 109:=call109
theorem WT:CF prog 110:=call110
theorem WV:CF prog 111:=call111
theorem WW:CF prog 112:=call112
theorem WX:CF prog 113:=call113
theorem WY:CF prog 114:=call114
theorem WZ:CF prog 115:=call115
theorem W0:CF prog 116:=call116
theorem W1:CF prog 117:=call117
theorem W2:CF prog 118:=call118
theorem O3:CF prog 119:=call119
theorem W3:CF prog 120:=call120
theorem W4:CF prog 121:=call121
theorem W5:CF prog 122:=call122
theorem W6:CF prog 123:=call123
theorem W7:CF prog 124:=call124
theorem W8:CF prog 125:=call125
theorem W9:CF prog 126:=call126
theorem Xa:CF prog 127:=call127
theorem Xb:CF prog 128:=call128
theorem Xc:CF prog 129:=call129
theorem O4:CF prog 130:=call130
theorem Xd:CF prog 132:=call132
theorem Xe:CF prog 133:=call133
theorem O5:CF prog 134:=call134
theorem Xf:CF prog 135:=call135
theorem Xg:CF prog 136:=call136
theorem Xh:CF prog 139:=call139
theorem O6:CF prog 140:=call140
theorem Xi:CF prog 141:=call141
theorem O7:CF prog 142:=call142
theorem Xj:CF prog 143:=call143
theorem Xk:CF prog 144:=call144
theorem O8:CF prog 145:=call145
theorem Xl:CF prog 146:=call146
theorem Xm:CF prog 147:=call147
theorem Xn:CF prog 148:=call148
theorem Xo:CF prog 149:=call149
theorem O9:CF prog 150:=call150
theorem Xp:CF prog 151:=call151
theorem Pa:CF prog 152:=call152
theorem Xq:CF prog 153:=call153
theorem Xr:CF prog 155:=call155
theorem GF:CF prog 157:=call157
theorem Xs:CF prog 158:=call158
theorem Xt:CF prog 159:=call159
theorem Xu:CF prog 160:=call160
theorem Xv:CF prog 161:=call161
theorem Xw:CF prog 162:=call162
theorem Xx:CF prog 163:=call163
theorem Xy:CF prog 172:=call172
theorem Xz:CF prog 173:=call173
theorem XA:CF prog 174:=call174
theorem XB:CF prog 183:=call183
theorem XC:CF prog 184:=call184
theorem Pb:CF prog 185:=call185
theorem Pc:CF prog 191:=call191
theorem Pd:CF prog 192:=call192
theorem Kl:CF prog 193:=call193
theorem Pe:CF prog 194:=call194
theorem Pf:CF prog 195:=call195
theorem XD:CF prog 196:=call196
theorem Pg:CF prog 197:=call197
theorem GG:CF prog 198:=call198
theorem XE:CF prog 199:=call199
theorem XF:CF prog 200:=call200
theorem Ph:CF prog 201:=call201
theorem XG:CF prog 202:=call202
theorem XH:CF prog 203:=call203
theorem XI:CF prog 204:=call204
theorem XJ:CF prog 205:=call205
theorem XK:CF prog 206:=call206
theorem XL:CF prog 207:=call207
theorem XM:CF prog 208:=call208
theorem XN:CF prog 212:=call212
theorem Km:CF prog 213:=call213
theorem XO:CF prog 214:=call214
theorem XP:CF prog 215:=call215
theorem XQ:CF prog 257:=call257
theorem Pj:CF prog 258:=call258
theorem XR:CF prog 259:=call259
theorem XS:CF prog 260:=call260
theorem XT:CF prog 262:=call262
theorem XU:CF prog 263:=call263
theorem Pk:CF prog 281:=call281
theorem XV:CF prog 282:=call282
theorem XW:CF prog 360:=call360
instance:gp prog 6:=⟨cf6⟩
instance:gp prog 16:=⟨ac4⟩
instance:gp prog 17:=⟨zt⟩
instance:gp prog 20:=⟨ac5⟩
instance:gp prog 22:=⟨Nz⟩
instance:gp prog 24:=⟨Wo⟩
instance:gp prog 25:=⟨HF⟩
instance:gp prog 27:=⟨ac8⟩
instance:gp prog 30:=⟨adb⟩
instance:gp prog 38:=⟨Kg⟩
instance:gp prog 39:=⟨HG⟩
instance:gp prog 40:=⟨R2⟩
instance:gp prog 42:=⟨adl⟩
instance:gp prog 43:=⟨adm⟩
instance:gp prog 45:=⟨ado⟩
instance:gp prog 49:=⟨adp⟩
instance:gp prog 50:=⟨NC⟩
instance:gp prog 53:=⟨Wq⟩
instance:gp prog 62:=⟨adz⟩
instance:gp prog 63:=⟨adA⟩
instance:gp prog 64:=⟨adB⟩
instance:gp prog 66:=⟨adD⟩
instance:gp prog 70:=⟨adG⟩
instance:gp prog 77:=⟨Wt⟩
instance:gp prog 80:=⟨adK⟩
instance:gp prog 82:=⟨Wv⟩
instance:gp prog 88:=⟨Wz⟩
instance:gp prog 90:=⟨WA⟩
instance:gp prog 91:=⟨adO⟩
instance:gp prog 104:=⟨WM⟩
instance:gp prog 105:=⟨WN⟩
instance:gp prog 106:=⟨WQ⟩
instance:gp prog 107:=⟨WR⟩
instance:gp prog 109:=⟨Kk⟩
instance:gp prog 110:=⟨WT⟩
instance:gp prog 111:=⟨WV⟩
instance:gp prog 112:=⟨WW⟩
instance:gp prog 113:=⟨WX⟩
instance:gp prog 115:=⟨WZ⟩
instance:gp prog 117:=⟨W1⟩
instance:gp prog 118:=⟨W2⟩
instance:gp prog 119:=⟨O3⟩
instance:gp prog 125:=⟨W8⟩
instance:gp prog 126:=⟨W9⟩
instance:gp prog 127:=⟨Xa⟩
instance:gp prog 128:=⟨Xb⟩
instance:gp prog 129:=⟨Xc⟩
instance:gp prog 135:=⟨Xf⟩
instance:gp prog 142:=⟨O7⟩
instance:gp prog 145:=⟨O8⟩
instance:gp prog 148:=⟨Xn⟩
instance:gp prog 149:=⟨Xo⟩
instance:gp prog 152:=⟨Pa⟩
instance:gp prog 155:=⟨Xr⟩
instance:gp prog 160:=⟨Xu⟩
instance:gp prog 161:=⟨Xv⟩
instance:gp prog 163:=⟨Xx⟩
instance:gp prog 172:=⟨Xy⟩
instance:gp prog 173:=⟨Xz⟩
instance:gp prog 174:=⟨XA⟩
instance:gp prog 195:=⟨Pf⟩
instance:gp prog 196:=⟨XD⟩
instance:gp prog 200:=⟨XF⟩
instance:gp prog 202:=⟨XG⟩
instance:gp prog 206:=⟨XK⟩
instance:gp prog 207:=⟨XL⟩
instance:gp prog 208:=⟨XM⟩
instance:gp prog 213:=⟨Km⟩
instance:gp prog 215:=⟨XP⟩
instance:gp prog 257:=⟨XQ⟩
instance:gp prog 259:=⟨XR⟩
instance:gp prog 260:=⟨XS⟩
instance:gp prog 360:=⟨XW⟩
end Go.Rc

