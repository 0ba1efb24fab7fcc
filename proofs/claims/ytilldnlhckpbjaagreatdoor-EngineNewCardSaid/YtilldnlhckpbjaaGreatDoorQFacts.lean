/- Walks over the program, part Facts. Conditions: as each theorem says. -/
import Derived.Test.YtilldnlhckpbjaaGreatDoorProg
import Derived.Test.YtilldnlhckpbjaaGreatDoorQBd
set_option linter.all false
namespace Go.Rc
open Go Go.Proofs Go.Proofs.Tryz
theorem mixed:prog.follows .mixedOrders=true:=by kernel_rfl
theorem fP:BE prog 43:=Gc underlying43 rfl rfl rfl rfl (by decide) (by decide) underlying3 underlying9 isAgg3 isAgg9 (by kernel_rfl) (by kernel_rfl)
theorem cc:pW prog 32 3:=⟨⟨_,underlying32⟩,by kernel_rfl⟩
theorem ak:pW prog 43 2:=⟨⟨_,underlying43⟩,by kernel_rfl⟩
theorem fI:pW prog 50 8:=⟨⟨_,underlying50⟩,by kernel_rfl⟩
theorem xI:pW prog 63 3:=⟨⟨_,underlying63⟩,by kernel_rfl⟩
theorem uc:pW prog 71 4:=⟨⟨_,underlying71⟩,by kernel_rfl⟩
theorem l6:pW prog 75 4:=⟨⟨_,underlying75⟩,by kernel_rfl⟩
theorem kc:pW prog 80 4:=⟨⟨_,underlying80⟩,by kernel_rfl⟩
theorem Eo:pW prog 131 6:=⟨⟨_,underlying131⟩,by kernel_rfl⟩
theorem gj:pW prog 142 4:=⟨⟨_,underlying142⟩,by kernel_rfl⟩
theorem Ep:pW prog 148 4:=⟨⟨_,underlying148⟩,by kernel_rfl⟩
theorem Uv:AP prog 22 3 1 8:=lU (z:=.int .i64 0) underlying22 (by kernel_rfl) (by kernel_rfl) (by decide)
theorem Uw:AP prog 27 71 4 48:=lU (z:=.agg #[.bool false,.slice none 0 0,.int .i64 0,.int .i64 0]) underlying27 (by kernel_rfl) (by kernel_rfl) (by decide)
theorem Ux:AP prog 29 80 4 48:=lU (z:=.agg #[.int .i64 0,.string ⟨#[]⟩,.string ⟨#[]⟩,.int .i64 0]) underlying29 (by kernel_rfl) (by kernel_rfl) (by decide)
theorem Uy:AP prog 30 50 8 96:=lU (z:=.agg #[.int .i64 0,.string ⟨#[]⟩,.string ⟨#[]⟩,.slice none 0 0,.int .i64 0,.int .i64 0,.int .i64 0,.bool false]) underlying30 (by kernel_rfl) (by kernel_rfl) (by decide)
theorem Uz:AP prog 36 63 3 40:=lU (z:=.agg #[.int .i64 0,.string ⟨#[]⟩,.string ⟨#[]⟩]) underlying36 (by kernel_rfl) (by kernel_rfl) (by decide)
theorem nG:AP prog 38 43 2 24:=lU (z:=.agg #[.int .i64 0,.string ⟨#[]⟩]) underlying38 (by kernel_rfl) (by kernel_rfl) (by decide)
theorem UA:AP prog 69 75 4 24:=lU (z:=.agg #[.bool false,.bool false,.int .i64 0,.int .i64 0]) underlying69 (by kernel_rfl) (by kernel_rfl) (by decide)
theorem UB:AP prog 87 131 6 88:=lU (z:=.agg #[.int .i64 0,.string ⟨#[]⟩,.bool false,.int .i64 0,.slice none 0 0,.slice none 0 0]) underlying87 (by kernel_rfl) (by kernel_rfl) (by decide)
theorem Er:AP prog 129 9 1 16:=lU (z:=.string ⟨#[]⟩) underlying129 (by kernel_rfl) (by kernel_rfl) (by decide)
theorem O6:AP prog 145 148 4 48:=lU (z:=.agg #[.int .i64 0,.string ⟨#[]⟩,.int .i64 0,.string ⟨#[]⟩]) underlying145 (by kernel_rfl) (by kernel_rfl) (by decide)
theorem Es:BS prog 22 3 1 1 [.int .i64 0]:=⟨underlying22,sizeOf3,by decide,by decide,_,zeroValue3,by kernel_rfl⟩
theorem KZ:BS prog 27 71 4 1 [.bool false,.slice none 0 0,.int .i64 0,.int .i64 0]:=⟨underlying27,sizeOf71,by decide,by decide,_,zeroValue71,by kernel_rfl⟩
theorem zL:BS prog 29 80 4 1 [.int .i64 0,.string ⟨#[]⟩,.string ⟨#[]⟩,.int .i64 0]:=⟨underlying29,sizeOf80,by decide,by decide,_,zeroValue80,by kernel_rfl⟩
theorem Et:BS prog 30 50 8 1 [.int .i64 0,.string ⟨#[]⟩,.string ⟨#[]⟩,.slice none 0 0,.int .i64 0,.int .i64 0,.int .i64 0,.bool false]:=⟨underlying30,sizeOf50,by decide,by decide,_,zeroValue50,by kernel_rfl⟩
theorem zM:BS prog 36 63 3 1 [.int .i64 0,.string ⟨#[]⟩,.string ⟨#[]⟩]:=⟨underlying36,sizeOf63,by decide,by decide,_,zeroValue63,by kernel_rfl⟩
theorem du:BS prog 38 43 2 1 [.int .i64 0,.string ⟨#[]⟩]:=⟨underlying38,sizeOf43,by decide,by decide,_,zeroValue43,by kernel_rfl⟩
theorem Eu:BS prog 69 75 4 1 [.bool false,.bool false,.int .i64 0,.int .i64 0]:=⟨underlying69,sizeOf75,by decide,by decide,_,zeroValue75,by kernel_rfl⟩
theorem K2:BS prog 87 131 6 1 [.int .i64 0,.string ⟨#[]⟩,.bool false,.int .i64 0,.slice none 0 0,.slice none 0 0]:=⟨underlying87,sizeOf131,by decide,by decide,_,zeroValue131,by kernel_rfl⟩
theorem hY:BS prog 129 9 1 1 [.string ⟨#[]⟩]:=⟨underlying129,sizeOf9,by decide,by decide,_,zeroValue9,by kernel_rfl⟩
theorem Hb:BS prog 145 148 4 1 [.int .i64 0,.string ⟨#[]⟩,.int .i64 0,.string ⟨#[]⟩]:=⟨underlying145,sizeOf148,by decide,by decide,_,zeroValue148,by kernel_rfl⟩
theorem Ew:BS prog 129 9 1 10 [.string ⟨#[]⟩,.string ⟨#[]⟩,.string ⟨#[]⟩,.string ⟨#[]⟩,.string ⟨#[]⟩,.string ⟨#[]⟩,.string ⟨#[]⟩,.string ⟨#[]⟩,.string ⟨#[]⟩,.string ⟨#[]⟩]:=⟨underlying129,sizeOf9,by decide,by decide,_,zeroValue9,by kernel_rfl⟩
theorem K3:BS prog 22 3 1 2 [.int .i64 0,.int .i64 0]:=⟨underlying22,sizeOf3,by decide,by decide,_,zeroValue3,by kernel_rfl⟩
theorem K4:BS prog 27 71 4 2 [.bool false,.slice none 0 0,.int .i64 0,.int .i64 0,.bool false,.slice none 0 0,.int .i64 0,.int .i64 0]:=⟨underlying27,sizeOf71,by decide,by decide,_,zeroValue71,by kernel_rfl⟩
theorem K5:BS prog 69 75 4 2 [.bool false,.bool false,.int .i64 0,.int .i64 0,.bool false,.bool false,.int .i64 0,.int .i64 0]:=⟨underlying69,sizeOf75,by decide,by decide,_,zeroValue75,by kernel_rfl⟩
theorem K6:BS prog 22 3 1 6 [.int .i64 0,.int .i64 0,.int .i64 0,.int .i64 0,.int .i64 0,.int .i64 0]:=⟨underlying22,sizeOf3,by decide,by decide,_,zeroValue3,by kernel_rfl⟩
theorem O7:BT prog 32 [.int .i64 0,.slice none 0 0,.slice none 0 0] [(0,1),(1,1),(2,1)]:=hJ (fs:=[_,_,_]) zeroValue32 rfl underlying32 ⟨rfl,sizeOf3,rfl,sizeOf29,rfl,sizeOf30,trivial⟩
theorem xJ:BT prog 43 [.int .i64 0,.string ⟨#[]⟩] [(0,1),(1,1)]:=hJ (fs:=[_,_]) zeroValue43 rfl underlying43 ⟨rfl,sizeOf3,rfl,sizeOf9,trivial⟩
theorem K7:BT prog 50 [.int .i64 0,.string ⟨#[]⟩,.string ⟨#[]⟩,.slice none 0 0,.int .i64 0,.int .i64 0,.int .i64 0,.bool false] [(0,2),(2,1),(3,1),(4,1),(5,1),(6,1),(7,1)]:=hJ (fs:=[_,_,_,_,_,_,_]) zeroValue50 rfl underlying50 ⟨rfl,sizeOf43,rfl,sizeOf9,rfl,sizeOf38,rfl,sizeOf3,rfl,sizeOf3,rfl,sizeOf3,rfl,sizeOf4,trivial⟩
theorem UC:BT prog 56 [.int .i64 0,.int .i64 0,.string ⟨#[]⟩] [(0,1),(1,2)]:=hJ (fs:=[_,_]) zeroValue56 rfl underlying56 ⟨rfl,sizeOf3,rfl,sizeOf43,trivial⟩
theorem K8:BT prog 63 [.int .i64 0,.string ⟨#[]⟩,.string ⟨#[]⟩] [(0,2),(2,1)]:=hJ (fs:=[_,_]) zeroValue63 rfl underlying63 ⟨rfl,sizeOf43,rfl,sizeOf9,trivial⟩
theorem UD:BT prog 67 [.slice none 0 0,.int .i64 0] [(0,1),(1,1)]:=hJ (fs:=[_,_]) zeroValue67 rfl underlying67 ⟨rfl,sizeOf22,rfl,sizeOf3,trivial⟩
theorem Hc:BT prog 71 [.bool false,.slice none 0 0,.int .i64 0,.int .i64 0] [(0,1),(1,1),(2,1),(3,1)]:=hJ (fs:=[_,_,_,_]) zeroValue71 rfl underlying71 ⟨rfl,sizeOf4,rfl,sizeOf69,rfl,sizeOf3,rfl,sizeOf3,trivial⟩
theorem Ex:BT prog 75 [.bool false,.bool false,.int .i64 0,.int .i64 0] [(0,1),(1,1),(2,1),(3,1)]:=hJ (fs:=[_,_,_,_]) zeroValue75 rfl underlying75 ⟨rfl,sizeOf4,rfl,sizeOf4,rfl,sizeOf3,rfl,sizeOf3,trivial⟩
theorem Hd:BT prog 80 [.int .i64 0,.string ⟨#[]⟩,.string ⟨#[]⟩,.int .i64 0] [(0,2),(2,1),(3,1)]:=hJ (fs:=[_,_,_]) zeroValue80 rfl underlying80 ⟨rfl,sizeOf43,rfl,sizeOf9,rfl,sizeOf3,trivial⟩
theorem UE:BT prog 95 [.slice none 0 0,.int .i64 0,.slice none 0 0,.slice none 0 0,.map none,.pointer none,.slice none 0 0] [(0,1),(1,3),(4,1),(5,1),(6,1)]:=hJ (fs:=[_,_,_,_,_]) zeroValue95 rfl underlying95 ⟨rfl,sizeOf27,rfl,sizeOf32,rfl,sizeOf92,rfl,sizeOf93,rfl,sizeOf38,trivial⟩
theorem O8:BT prog 131 [.int .i64 0,.string ⟨#[]⟩,.bool false,.int .i64 0,.slice none 0 0,.slice none 0 0] [(0,2),(2,1),(3,1),(4,1),(5,1)]:=hJ (fs:=[_,_,_,_,_]) zeroValue131 rfl underlying131 ⟨rfl,sizeOf43,rfl,sizeOf4,rfl,sizeOf3,rfl,sizeOf38,rfl,sizeOf129,trivial⟩
theorem O9:BT prog 139 [.slice none 0 0,.int .i64 0,.slice none 0 0,.slice none 0 0,.map none,.map none] [(0,1),(1,3),(4,1),(5,1)]:=hJ (fs:=[_,_,_,_]) zeroValue139 rfl underlying139 ⟨rfl,sizeOf27,rfl,sizeOf32,rfl,sizeOf136,rfl,sizeOf137,trivial⟩
theorem ke:BT prog 142 [.bool false,.string ⟨#[]⟩,.int .i64 0,.string ⟨#[]⟩] [(0,1),(1,1),(2,2)]:=hJ (fs:=[_,_,_]) zeroValue142 rfl underlying142 ⟨rfl,sizeOf4,rfl,sizeOf9,rfl,sizeOf43,trivial⟩
theorem Pa:BT prog 148 [.int .i64 0,.string ⟨#[]⟩,.int .i64 0,.string ⟨#[]⟩] [(0,2),(2,2)]:=hJ (fs:=[_,_]) zeroValue148 rfl underlying148 ⟨rfl,sizeOf43,rfl,sizeOf43,trivial⟩
theorem Pb:BT prog 157 [.slice none 0 0,.int .i64 0,.slice none 0 0,.slice none 0 0,.map none,.map none] [(0,1),(1,3),(4,1),(5,1)]:=hJ (fs:=[_,_,_,_]) zeroValue157 rfl underlying157 ⟨rfl,sizeOf27,rfl,sizeOf32,rfl,sizeOf136,rfl,sizeOf99,trivial⟩
theorem Bp:BT prog 413 [.string ⟨#[]⟩,.string ⟨#[]⟩,.nilIface] [(0,1),(1,1),(2,1)]:=hJ (fs:=[_,_,_]) zeroValue413 rfl underlying413 ⟨rfl,sizeOf9,rfl,sizeOf9,rfl,sizeOf184,trivial⟩
theorem cE:KK prog 43 Key.val:=JI underlying43 fP (BH underlying43 rfl rfl rfl rfl underlying3 underlying9 isAgg3 isAgg9)
theorem u9:∃ms,prog.underlying 184=some (.interface ms):=⟨_,underlying184⟩
theorem aP:One prog 3:=isAgg3
theorem dd:One prog 4:=isAgg4
theorem ff:One prog 9:=isAgg9
theorem IQ:One prog 22:=isAgg22
theorem kf:One prog 27:=isAgg27
theorem i7:One prog 29:=isAgg29
theorem kg:One prog 30:=isAgg30
theorem fG:One prog 38:=isAgg38
theorem ja:One prog 69:=isAgg69
theorem Ey:One prog 85:=isAgg85
theorem ey:One prog 92:=isAgg92
theorem ud:One prog 93:=isAgg93
theorem Ez:One prog 99:=isAgg99
theorem EB:One prog 129:=isAgg129
theorem eZ:One prog 136:=isAgg136
theorem zN:One prog 137:=isAgg137
theorem vb:One prog 184:=isAgg184
theorem zO:tm prog 22 3 1:=⟨underlying22,sizeOf3⟩
theorem gR:tm prog 27 71 4:=⟨underlying27,sizeOf71⟩
theorem pM:tm prog 29 80 4:=⟨underlying29,sizeOf80⟩
theorem lM:tm prog 30 50 8:=⟨underlying30,sizeOf50⟩
theorem Cu:tm prog 36 63 3:=⟨underlying36,sizeOf63⟩
theorem ez:tm prog 38 43 2:=⟨underlying38,sizeOf43⟩
theorem sG:tm prog 69 75 4:=⟨underlying69,sizeOf75⟩
theorem rh:tm prog 87 131 6:=⟨underlying87,sizeOf131⟩
theorem l7:tm prog 129 9 1:=⟨underlying129,sizeOf9⟩
theorem IU:tm prog 145 148 4:=⟨underlying145,sizeOf148⟩
theorem IV:tm prog 211 5 1:=⟨underlying211,sizeOf5⟩
theorem UF:∀w,(sizeOf 43).run prog w=.ok 2 w:=sizeOf43
theorem UG:∀w,(sizeOf 50).run prog w=.ok 8 w:=sizeOf50
theorem UH:∀w,(sizeOf 80).run prog w=.ok 4 w:=sizeOf80
theorem IW:(prog.info? 3).map (·.size)=some 1:=by kernel_rfl
theorem S1:(prog.info? 4).map (·.size)=some 1:=by kernel_rfl
theorem UI:(prog.info? 29).map (·.size)=some 1:=by kernel_rfl
theorem UJ:(prog.info? 30).map (·.size)=some 1:=by kernel_rfl
theorem kW:(prog.info? 32).map (·.size)=some 3:=by kernel_rfl
theorem UK:(prog.info? 33).map (·.size)=some 1:=by kernel_rfl
theorem Pc:(prog.info? 38).map (·.size)=some 1:=by kernel_rfl
theorem gk:(prog.info? 43).map (·.size)=some 2:=by kernel_rfl
theorem mF:(prog.info? 50).map (·.size)=some 8:=by kernel_rfl
theorem EC:(prog.info? 63).map (·.size)=some 3:=by kernel_rfl
theorem UL:(prog.info? 69).map (·.size)=some 1:=by kernel_rfl
theorem Cv:(prog.info? 71).map (·.size)=some 4:=by kernel_rfl
theorem zP:(prog.info? 75).map (·.size)=some 4:=by kernel_rfl
theorem xK:(prog.info? 80).map (·.size)=some 4:=by kernel_rfl
theorem Pd:(prog.info? 129).map (·.size)=some 1:=by kernel_rfl
theorem Pe:(prog.info? 136).map (·.size)=some 1:=by kernel_rfl
theorem fc:(prog.info? 142).map (·.size)=some 4:=by kernel_rfl
theorem Pf:(prog.info? 148).map (·.size)=some 4:=by kernel_rfl
theorem UM:prog.underlying 3=some (.int .i64):=underlying3
theorem UN:prog.underlying 5=some (.int .u8):=underlying5
theorem rj:prog.underlying 9=some (.string):=underlying9
theorem IX:prog.underlying 29=some (.slice 80):=underlying29
theorem IY:prog.underlying 30=some (.slice 50):=underlying30
theorem IZ:prog.underlying 38=some (.slice 43):=underlying38
theorem eA:prog.underlying 92=some (.map 43 125):=underlying92
theorem kh:prog.underlying 99=some (.map 43 4):=underlying99
theorem K9:prog.underlying 125=some (.pointer 50):=underlying125
theorem cZ:prog.underlying 136=some (.map 43 9):=underlying136
theorem rl:prog.underlying 137=some (.map 43 38):=underlying137
theorem zv4:ZV prog 4 [.bool false]:=⟨_,zeroValue4,rfl⟩
theorem Pg:ZV prog 32 [.int .i64 0,.slice none 0 0,.slice none 0 0]:=⟨_,zeroValue32,rfl⟩
theorem UO:ZV prog 38 [.slice none 0 0]:=⟨_,zeroValue38,rfl⟩
theorem ED:ZV prog 43 [.int .i64 0,.string ⟨#[]⟩]:=⟨_,zeroValue43,rfl⟩
theorem EE:ZV prog 50 [.int .i64 0,.string ⟨#[]⟩,.string ⟨#[]⟩,.slice none 0 0,.int .i64 0,.int .i64 0,.int .i64 0,.bool false]:=⟨_,zeroValue50,rfl⟩
theorem UP:ZV prog 56 [.int .i64 0,.int .i64 0,.string ⟨#[]⟩]:=⟨_,zeroValue56,rfl⟩
theorem UQ:ZV prog 63 [.int .i64 0,.string ⟨#[]⟩,.string ⟨#[]⟩]:=⟨_,zeroValue63,rfl⟩
theorem He:ZV prog 71 [.bool false,.slice none 0 0,.int .i64 0,.int .i64 0]:=⟨_,zeroValue71,rfl⟩
theorem La:ZV prog 75 [.bool false,.bool false,.int .i64 0,.int .i64 0]:=⟨_,zeroValue75,rfl⟩
theorem Hf:ZV prog 80 [.int .i64 0,.string ⟨#[]⟩,.string ⟨#[]⟩,.int .i64 0]:=⟨_,zeroValue80,rfl⟩
theorem Ph:ZV prog 136 [.map none]:=⟨_,zeroValue136,rfl⟩
theorem nH:ZV prog 142 [.bool false,.string ⟨#[]⟩,.int .i64 0,.string ⟨#[]⟩]:=⟨_,zeroValue142,rfl⟩
theorem Pj:ZV prog 148 [.int .i64 0,.string ⟨#[]⟩,.int .i64 0,.string ⟨#[]⟩]:=⟨_,zeroValue148,rfl⟩
theorem Hg:∀w,(zeroValue 4).run prog w=.ok (.bool false) w:=zeroValue4
theorem jX:∀w,(zeroValue 9).run prog w=.ok (.string ⟨#[]⟩) w:=zeroValue9
theorem Bq:∀w,(zeroValue 38).run prog w=.ok (.slice none 0 0) w:=zeroValue38
theorem dF:∀w,(zeroValue 125).run prog w=.ok (.pointer none) w:=zeroValue125
theorem oq:FA prog 32 0 0:=bT underlying32 rfl sizeOf3 (by decide) rfl
theorem rp:FA prog 32 1 1:=bT underlying32 rfl sizeOf29 (by decide) rfl
theorem zQ:FA prog 32 2 2:=bT underlying32 rfl sizeOf30 (by decide) rfl
theorem cT:FA prog 43 0 0:=bT underlying43 rfl sizeOf3 (by decide) rfl
theorem ot:FA prog 43 1 1:=bT underlying43 rfl sizeOf9 (by decide) rfl
theorem ou:FA prog 50 0 0:=bT underlying50 rfl sizeOf43 (by decide) rfl
theorem EG:FA prog 50 1 2:=bT underlying50 rfl sizeOf9 (by decide) rfl
theorem zR:FA prog 50 2 3:=bT underlying50 rfl sizeOf38 (by decide) rfl
theorem zS:FA prog 50 3 4:=bT underlying50 rfl sizeOf3 (by decide) rfl
theorem vd:FA prog 50 4 5:=bT underlying50 rfl sizeOf3 (by decide) rfl
theorem zT:FA prog 50 5 6:=bT underlying50 rfl sizeOf3 (by decide) rfl
theorem EH:FA prog 50 6 7:=bT underlying50 rfl sizeOf4 (by decide) rfl
theorem Lb:FA prog 56 0 0:=bT underlying56 rfl sizeOf3 (by decide) rfl
theorem Lc:FA prog 63 0 0:=bT underlying63 rfl sizeOf43 (by decide) rfl
theorem Le:FA prog 63 1 2:=bT underlying63 rfl sizeOf9 (by decide) rfl
theorem EJ:FA prog 67 0 0:=bT underlying67 rfl sizeOf22 (by decide) rfl
theorem ve:FA prog 67 1 1:=bT underlying67 rfl sizeOf3 (by decide) rfl
theorem iF:FA prog 71 0 0:=bT underlying71 rfl sizeOf4 (by decide) rfl
theorem ov:FA prog 71 1 1:=bT underlying71 rfl sizeOf69 (by decide) rfl
theorem mG:FA prog 71 2 2:=bT underlying71 rfl sizeOf3 (by decide) rfl
theorem jg:FA prog 71 3 3:=bT underlying71 rfl sizeOf3 (by decide) rfl
theorem vf:FA prog 75 0 0:=bT underlying75 rfl sizeOf4 (by decide) rfl
theorem rq:FA prog 75 1 1:=bT underlying75 rfl sizeOf4 (by decide) rfl
theorem zU:FA prog 75 2 2:=bT underlying75 rfl sizeOf3 (by decide) rfl
theorem ru:FA prog 75 3 3:=bT underlying75 rfl sizeOf3 (by decide) rfl
theorem ox:FA prog 80 0 0:=bT underlying80 rfl sizeOf43 (by decide) rfl
theorem zV:FA prog 80 1 2:=bT underlying80 rfl sizeOf9 (by decide) rfl
theorem ry:FA prog 80 2 3:=bT underlying80 rfl sizeOf3 (by decide) rfl
theorem Lf:FA prog 95 0 0:=bT underlying95 rfl sizeOf27 (by decide) rfl
theorem Lg:FA prog 95 1 1:=bT underlying95 rfl sizeOf32 (by decide) rfl
theorem Lh:FA prog 95 2 4:=bT underlying95 rfl sizeOf92 (by decide) rfl
theorem Li:FA prog 95 3 5:=bT underlying95 rfl sizeOf93 (by decide) rfl
theorem Lj:FA prog 95 4 6:=bT underlying95 rfl sizeOf38 (by decide) rfl
theorem Hh:FA prog 107 0 0:=bT underlying107 rfl sizeOf97 (by decide) rfl
theorem Hi:FA prog 107 1 1:=bT underlying107 rfl sizeOf32 (by decide) rfl
theorem Hj:FA prog 107 2 4:=bT underlying107 rfl sizeOf99 (by decide) rfl
theorem Hk:FA prog 107 3 5:=bT underlying107 rfl sizeOf38 (by decide) rfl
theorem Hl:FA prog 107 4 6:=bT underlying107 rfl sizeOf33 (by decide) rfl
theorem Hm:FA prog 131 0 0:=bT underlying131 rfl sizeOf43 (by decide) rfl
theorem Hn:FA prog 131 1 2:=bT underlying131 rfl sizeOf4 (by decide) rfl
theorem Ho:FA prog 131 2 3:=bT underlying131 rfl sizeOf3 (by decide) rfl
theorem Hp:FA prog 131 3 4:=bT underlying131 rfl sizeOf38 (by decide) rfl
theorem Hq:FA prog 131 4 5:=bT underlying131 rfl sizeOf129 (by decide) rfl
theorem Hr:FA prog 139 0 0:=bT underlying139 rfl sizeOf27 (by decide) rfl
theorem Hs:FA prog 139 1 1:=bT underlying139 rfl sizeOf32 (by decide) rfl
theorem Ht:FA prog 139 2 4:=bT underlying139 rfl sizeOf136 (by decide) rfl
theorem Hu:FA prog 139 3 5:=bT underlying139 rfl sizeOf137 (by decide) rfl
theorem Hv:FA prog 142 0 0:=bT underlying142 rfl sizeOf4 (by decide) rfl
theorem Hw:FA prog 142 1 1:=bT underlying142 rfl sizeOf9 (by decide) rfl
theorem Hx:FA prog 142 2 2:=bT underlying142 rfl sizeOf43 (by decide) rfl
theorem Hy:FA prog 148 0 0:=bT underlying148 rfl sizeOf43 (by decide) rfl
theorem Hz:FA prog 148 1 2:=bT underlying148 rfl sizeOf43 (by decide) rfl
theorem HA:FA prog 157 0 0:=bT underlying157 rfl sizeOf27 (by decide) rfl
theorem HB:FA prog 157 1 1:=bT underlying157 rfl sizeOf32 (by decide) rfl
theorem HC:FA prog 157 2 4:=bT underlying157 rfl sizeOf136 (by decide) rfl
theorem HD:FA prog 157 3 5:=bT underlying157 rfl sizeOf99 (by decide) rfl
instance:Dm prog 129 9 1 16:=⟨Er⟩
instance:Dm prog 145 148 4 48:=⟨O6⟩
instance:Dm prog 22 3 1 8:=⟨Uv⟩
instance:Dm prog 27 71 4 48:=⟨Uw⟩
instance:Dm prog 29 80 4 48:=⟨Ux⟩
instance:Dm prog 30 50 8 96:=⟨Uy⟩
instance:Dm prog 36 63 3 40:=⟨Uz⟩
instance:Dm prog 38 43 2 24:=⟨nG⟩
instance:Dm prog 69 75 4 24:=⟨UA⟩
instance:Dm prog 87 131 6 88:=⟨UB⟩
instance:JL prog 43 [.int .i64 0,.string ⟨#[]⟩] [(0,1),(1,1)]:=⟨xJ⟩
instance:JL prog 50 [.int .i64 0,.string ⟨#[]⟩,.string ⟨#[]⟩,.slice none 0 0,.int .i64 0,.int .i64 0,.int .i64 0,.bool false] [(0,2),(2,1),(3,1),(4,1),(5,1),(6,1),(7,1)]:=⟨K7⟩
instance:JL prog 56 [.int .i64 0,.int .i64 0,.string ⟨#[]⟩] [(0,1),(1,2)]:=⟨UC⟩
instance:JL prog 80 [.int .i64 0,.string ⟨#[]⟩,.string ⟨#[]⟩,.int .i64 0] [(0,2),(2,1),(3,1)]:=⟨Hd⟩
instance:gq prog 107 0 0:=⟨Hh⟩
instance:gq prog 107 1 1:=⟨Hi⟩
instance:gq prog 107 2 4:=⟨Hj⟩
instance:gq prog 107 3 5:=⟨Hk⟩
instance:gq prog 107 4 6:=⟨Hl⟩
instance:gq prog 131 0 0:=⟨Hm⟩
instance:gq prog 131 1 2:=⟨Hn⟩
instance:gq prog 131 2 3:=⟨Ho⟩
instance:gq prog 131 3 4:=⟨Hp⟩
instance:gq prog 131 4 5:=⟨Hq⟩
instance:gq prog 139 0 0:=⟨Hr⟩
instance:gq prog 139 1 1:=⟨Hs⟩
instance:gq prog 139 2 4:=⟨Ht⟩
instance:gq prog 139 3 5:=⟨Hu⟩
instance:gq prog 142 0 0:=⟨Hv⟩
instance:gq prog 142 1 1:=⟨Hw⟩
instance:gq prog 142 2 2:=⟨Hx⟩
instance:gq prog 148 0 0:=⟨Hy⟩
instance:gq prog 148 1 2:=⟨Hz⟩
instance:gq prog 157 0 0:=⟨HA⟩
instance:gq prog 157 1 1:=⟨HB⟩
instance:gq prog 157 2 4:=⟨HC⟩
instance:gq prog 157 3 5:=⟨HD⟩
instance:gq prog 32 0 0:=⟨oq⟩
instance:gq prog 32 1 1:=⟨rp⟩
instance:gq prog 32 2 2:=⟨zQ⟩
instance:gq prog 43 0 0:=⟨cT⟩
instance:gq prog 43 1 1:=⟨ot⟩
instance:gq prog 50 0 0:=⟨ou⟩
instance:gq prog 50 1 2:=⟨EG⟩
instance:gq prog 50 2 3:=⟨zR⟩
instance:gq prog 50 3 4:=⟨zS⟩
instance:gq prog 50 4 5:=⟨vd⟩
instance:gq prog 50 5 6:=⟨zT⟩
instance:gq prog 50 6 7:=⟨EH⟩
instance:gq prog 56 0 0:=⟨Lb⟩
instance:gq prog 63 0 0:=⟨Lc⟩
instance:gq prog 63 1 2:=⟨Le⟩
instance:gq prog 71 0 0:=⟨iF⟩
instance:gq prog 71 1 1:=⟨ov⟩
instance:gq prog 71 2 2:=⟨mG⟩
instance:gq prog 71 3 3:=⟨jg⟩
instance:gq prog 75 0 0:=⟨vf⟩
instance:gq prog 75 1 1:=⟨rq⟩
instance:gq prog 75 2 2:=⟨zU⟩
instance:gq prog 75 3 3:=⟨ru⟩
instance:gq prog 80 0 0:=⟨ox⟩
instance:gq prog 80 1 2:=⟨zV⟩
instance:gq prog 80 2 3:=⟨ry⟩
instance:gq prog 95 0 0:=⟨Lf⟩
instance:gq prog 95 1 1:=⟨Lg⟩
instance:gq prog 95 2 4:=⟨Lh⟩
instance:gq prog 95 3 5:=⟨Li⟩
instance:gq prog 95 4 6:=⟨Lj⟩
instance:y5 prog 43:=⟨fP⟩
instance:AJ prog 129 9 1:=⟨l7⟩
instance:AJ prog 145 148 4:=⟨IU⟩
instance:AJ prog 211 5 1:=⟨IV⟩
instance:AJ prog 22 3 1:=⟨zO⟩
instance:AJ prog 27 71 4:=⟨gR⟩
instance:AJ prog 29 80 4:=⟨pM⟩
instance:AJ prog 30 50 8:=⟨lM⟩
instance:AJ prog 36 63 3:=⟨Cu⟩
instance:AJ prog 38 43 2:=⟨ez⟩
instance:AJ prog 69 75 4:=⟨sG⟩
instance:AJ prog 87 131 6:=⟨rh⟩
instance:FU prog 136 1:=⟨Pe⟩
instance:FU prog 29 1:=⟨UI⟩
instance:FU prog 3 1:=⟨IW⟩
instance:FU prog 30 1:=⟨UJ⟩
instance:FU prog 33 1:=⟨UK⟩
instance:FU prog 38 1:=⟨Pc⟩
instance:FU prog 4 1:=⟨S1⟩
instance:FU prog 69 1:=⟨UL⟩
instance:kH prog 125 (.pointer 50):=⟨K9⟩
instance:kH prog 29 (.slice 80):=⟨IX⟩
instance:kH prog 30 (.slice 50):=⟨IY⟩
instance:kH prog 38 (.slice 43):=⟨IZ⟩
instance:kH prog 9 (.string):=⟨rj⟩
instance:AK prog 142 [.bool false,.string ⟨#[]⟩,.int .i64 0,.string ⟨#[]⟩]:=⟨nH⟩
instance:AK prog 148 [.int .i64 0,.string ⟨#[]⟩,.int .i64 0,.string ⟨#[]⟩]:=⟨Pj⟩
instance:AK prog 32 [.int .i64 0,.slice none 0 0,.slice none 0 0]:=⟨Pg⟩
instance:AK prog 38 [.slice none 0 0]:=⟨UO⟩
instance:AK prog 4 [.bool false]:=⟨zv4⟩
instance:AK prog 43 [.int .i64 0,.string ⟨#[]⟩]:=⟨ED⟩
instance:AK prog 50 [.int .i64 0,.string ⟨#[]⟩,.string ⟨#[]⟩,.slice none 0 0,.int .i64 0,.int .i64 0,.int .i64 0,.bool false]:=⟨EE⟩
instance:AK prog 56 [.int .i64 0,.int .i64 0,.string ⟨#[]⟩]:=⟨UP⟩
instance:AK prog 63 [.int .i64 0,.string ⟨#[]⟩,.string ⟨#[]⟩]:=⟨UQ⟩
instance:AK prog 71 [.bool false,.slice none 0 0,.int .i64 0,.int .i64 0]:=⟨He⟩
instance:AK prog 75 [.bool false,.bool false,.int .i64 0,.int .i64 0]:=⟨La⟩
instance:AK prog 80 [.int .i64 0,.string ⟨#[]⟩,.string ⟨#[]⟩,.int .i64 0]:=⟨Hf⟩
theorem cf5:CF prog 5:=call5
theorem cf6:CF prog 6:=call6
theorem cf7:CF prog 7:=call7
theorem cf8:CF prog 8:=call8
theorem UR:CF prog 9:=call9
theorem US:CF prog 10:=call10
theorem UT:CF prog 11:=call11
theorem Lk:CF prog 12:=call12
theorem UU:CF prog 13:=call13
theorem HE:CF prog 14:=call14
theorem UW:CF prog 15:=call15
theorem Pk:CF prog 16:=call16
theorem UX:CF prog 17:=call17
theorem UY:CF prog 18:=call18
theorem Pl:CF prog 19:=call19
theorem vg:CF prog 21:=call21
theorem UZ:CF prog 25:=call25
theorem U0:CF prog 26:=call26
theorem HF:CF prog 27:=call27
theorem U1:CF prog 28:=call28
theorem jh:CF prog 29:=call29
theorem Pm:CF prog 30:=call30
theorem Pn:CF prog 31:=call31
theorem Po:CF prog 32:=call32
theorem EL:CF prog 33:=call33
theorem U2:CF prog 34:=call34
theorem Ll:CF prog 35:=call35
theorem U3:CF prog 36:=call36
theorem U4:CF prog 37:=call37
theorem U5:CF prog 38:=call38
theorem U6:CF prog 39:=call39
theorem U7:CF prog 40:=call40
theorem U8:CF prog 41:=call41
theorem U9:CF prog 42:=call42
theorem Va:CF prog 43:=call43
theorem Vb:CF prog 44:=call44
theorem Pp:CF prog 45:=call45
theorem Vc:CF prog 46:=call46
theorem Lm:CF prog 47:=call47
theorem Pq:CF prog 48:=call48
theorem HG:CF prog 49:=call49
theorem Pr:CF prog 50:=call50
theorem HH:CF prog 52:=call52
theorem Vd:CF prog 56:=call56
theorem Ve:CF prog 58:=call58
theorem Vf:CF prog 59:=call59
theorem Vg:CF prog 60:=call60
theorem Vh:CF prog 61:=call61
theorem Vi:CF prog 62:=call62
theorem Vj:CF prog 63:=call63
theorem HI:CF prog 64:=call64
theorem Vk:CF prog 65:=call65
theorem Ps:CF prog 66:=call66
theorem Vl:CF prog 67:=call67
theorem Vm:CF prog 68:=call68
theorem Vn:CF prog 69:=call69
theorem Vo:CF prog 70:=call70
theorem Vp:CF prog 71:=call71
theorem Vq:CF prog 72:=call72
theorem Pu:CF prog 73:=call73
theorem Vr:CF prog 74:=call74
theorem Vs:CF prog 75:=call75
theorem Vt:CF prog 76:=call76
theorem Ln:CF prog 77:=call77
theorem Vu:CF prog 78:=call78
theorem Vv:CF prog 79:=call79
theorem Lo:CF prog 80:=call80
theorem Vw:CF prog 81:=call81
theorem Pv:CF prog 83:=call83
theorem EM:CF prog 84:=call84
theorem Pw:CF prog 85:=call85
theorem Vx:CF prog 86:=call86
theorem Vy:CF prog 87:=call87
theorem Vz:CF prog 88:=call88
theorem Lq:CF prog 89:=call89
theorem VB:CF prog 90:=call90
theorem VC:CF prog 95:=call95
theorem VD:CF prog 96:=call96
theorem VE:CF prog 97:=call97
theorem VF:CF prog 98:=call98
theorem VG:CF prog 99:=call99
theorem EN:CF prog 100:=call100
theorem I0:CF prog 101:=call101
theorem Px:CF prog 102:=call102
theorem Py:CF prog 103:=call103
theorem Pz:CF prog 104:=call104
theorem I1:CF prog 105:=call105
theorem PA:CF prog 107:=call107
theorem PC:CF prog 108:=call108
theorem PD:CF prog 109:=call109
theorem PE:CF prog 110:=call110
theorem PF:CF prog 111:=call111
theorem EO:CF prog 112:=call112
theorem PG:CF prog 113:=call113
theorem PH:CF prog 114:=call114
theorem PI:CF prog 115:=call115
theorem PJ:CF prog 116:=call116
theorem PK:CF prog 117:=call117
theorem PN:CF prog 118:=call118
theorem PO:CF prog 119:=call119
theorem PQ:CF prog 120:=call120
theorem I2:CF prog 121:=call121
theorem PR:CF prog 122:=call122
theorem PT:CF prog 123:=call123
theorem PU:CF prog 124:=call124
theorem PW:CF prog 125:=call125
theorem PX:CF prog 126:=call126
theorem PY:CF prog 127:=call127
theorem PZ:CF prog 128:=call128
theorem P0:CF prog 129:=call129
theorem P1:CF prog 131:=call131
theorem P2:CF prog 132:=call132
theorem P3:CF prog 137:=call137
theorem P4:CF prog 140:=call140
theorem P5:CF prog 142:=call142
theorem P6:CF prog 143:=call143
theorem P7:CF prog 144:=call144
theorem P8:CF prog 145:=call145
theorem P9:CF prog 146:=call146
theorem Qa:CF prog 147:=call147
theorem Qb:CF prog 149:=call149
theorem Qc:CF prog 150:=call150
theorem I3:CF prog 151:=call151
theorem Qd:CF prog 152:=call152
theorem I4:CF prog 153:=call153
theorem Qe:CF prog 154:=call154
theorem Qf:CF prog 156:=call156
theorem Br:CF prog 158:=call158
theorem Qg:CF prog 159:=call159
theorem Qh:CF prog 168:=call168
theorem Qi:CF prog 169:=call169
theorem Qj:CF prog 170:=call170
theorem Qk:CF prog 178:=call178
theorem I5:CF prog 179:=call179
theorem Ql:CF prog 181:=call181
theorem Qm:CF prog 186:=call186
theorem Qn:CF prog 188:=call188
theorem Qo:CF prog 189:=call189
theorem Qp:CF prog 190:=call190
theorem Qq:CF prog 191:=call191
theorem Qr:CF prog 192:=call192
theorem Qs:CF prog 193:=call193
theorem Qt:CF prog 194:=call194
theorem Qu:CF prog 195:=call195
theorem Qv:CF prog 196:=call196
theorem Qw:CF prog 197:=call197
theorem Qx:CF prog 201:=call201
theorem EP:CF prog 202:=call202
theorem Qy:CF prog 245:=call245
theorem Qz:CF prog 246:=call246
theorem I6:CF prog 264:=call264
theorem QA:CF prog 265:=call265
theorem QB:CF prog 343:=call343
instance:fi prog 5:=⟨cf5⟩
instance:fi prog 14:=⟨HE⟩
instance:fi prog 15:=⟨UW⟩
instance:fi prog 21:=⟨vg⟩
instance:fi prog 25:=⟨UZ⟩
instance:fi prog 27:=⟨HF⟩
instance:fi prog 30:=⟨Pm⟩
instance:fi prog 33:=⟨EL⟩
instance:fi prog 34:=⟨U2⟩
instance:fi prog 35:=⟨Ll⟩
instance:fi prog 38:=⟨U5⟩
instance:fi prog 46:=⟨Vc⟩
instance:fi prog 52:=⟨HH⟩
instance:fi prog 56:=⟨Vd⟩
instance:fi prog 58:=⟨Ve⟩
instance:fi prog 59:=⟨Vf⟩
instance:fi prog 66:=⟨Ps⟩
instance:fi prog 68:=⟨Vm⟩
instance:fi prog 69:=⟨Vn⟩
instance:fi prog 70:=⟨Vo⟩
instance:fi prog 72:=⟨Vq⟩
instance:fi prog 76:=⟨Vt⟩
instance:fi prog 83:=⟨Pv⟩
instance:fi prog 86:=⟨Vx⟩
instance:fi prog 87:=⟨Vy⟩
instance:fi prog 88:=⟨Vz⟩
instance:fi prog 89:=⟨Lq⟩
instance:fi prog 96:=⟨VD⟩
instance:fi prog 107:=⟨PA⟩
instance:fi prog 108:=⟨PC⟩
instance:fi prog 109:=⟨PD⟩
instance:fi prog 110:=⟨PE⟩
instance:fi prog 112:=⟨EO⟩
instance:fi prog 113:=⟨PG⟩
instance:fi prog 114:=⟨PH⟩
instance:fi prog 115:=⟨PI⟩
instance:fi prog 116:=⟨PJ⟩
instance:fi prog 118:=⟨PN⟩
instance:fi prog 120:=⟨PQ⟩
instance:fi prog 121:=⟨I2⟩
instance:fi prog 124:=⟨PU⟩
instance:fi prog 125:=⟨PW⟩
instance:fi prog 126:=⟨PX⟩
instance:fi prog 127:=⟨PY⟩
instance:fi prog 128:=⟨PZ⟩
instance:fi prog 132:=⟨P2⟩
instance:fi prog 137:=⟨P3⟩
instance:fi prog 140:=⟨P4⟩
instance:fi prog 144:=⟨P7⟩
instance:fi prog 149:=⟨Qb⟩
instance:fi prog 150:=⟨Qc⟩
instance:fi prog 153:=⟨I4⟩
instance:fi prog 156:=⟨Qf⟩
instance:fi prog 159:=⟨Qg⟩
instance:fi prog 168:=⟨Qh⟩
instance:fi prog 169:=⟨Qi⟩
instance:fi prog 170:=⟨Qj⟩
instance:fi prog 186:=⟨Qm⟩
instance:fi prog 188:=⟨Qn⟩
instance:fi prog 189:=⟨Qo⟩
instance:fi prog 190:=⟨Qp⟩
instance:fi prog 191:=⟨Qq⟩
instance:fi prog 195:=⟨Qu⟩
instance:fi prog 196:=⟨Qv⟩
instance:fi prog 197:=⟨Qw⟩
instance:fi prog 202:=⟨EP⟩
instance:fi prog 343:=⟨QB⟩
end Go.Rc

