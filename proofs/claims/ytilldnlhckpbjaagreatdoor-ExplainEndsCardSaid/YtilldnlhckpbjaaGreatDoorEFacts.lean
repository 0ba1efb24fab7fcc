/- Walks over the program, part Facts. Conditions: as each theorem says. -/
import Derived.Test.YtilldnlhckpbjaaGreatDoorProg
import Derived.Test.YtilldnlhckpbjaaGreatDoorEBd
set_option linter.all false
namespace Go.Rc
open Go Go.Proofs Go.Proofs.Tryz
theorem mixed:prog.follows .mixedOrders=true:=by kernel_rfl
theorem eI:ze prog 43:=GR underlying43 rfl rfl rfl rfl (by decide) (by decide) underlying3 underlying9 isAgg3 isAgg9 (by kernel_rfl) (by kernel_rfl)
theorem bu:qp prog 32 3:=⟨⟨_,underlying32⟩,by kernel_rfl⟩
theorem ak:qp prog 43 2:=⟨⟨_,underlying43⟩,by kernel_rfl⟩
theorem dN:qp prog 50 8:=⟨⟨_,underlying50⟩,by kernel_rfl⟩
theorem py:qp prog 56 3:=⟨⟨_,underlying56⟩,by kernel_rfl⟩
theorem xW:qp prog 63 3:=⟨⟨_,underlying63⟩,by kernel_rfl⟩
theorem uE:qp prog 71 4:=⟨⟨_,underlying71⟩,by kernel_rfl⟩
theorem mh:qp prog 75 4:=⟨⟨_,underlying75⟩,by kernel_rfl⟩
theorem ku:qp prog 80 4:=⟨⟨_,underlying80⟩,by kernel_rfl⟩
theorem gj:qp prog 142 4:=⟨⟨_,underlying142⟩,by kernel_rfl⟩
theorem zZ:qp prog 148 4:=⟨⟨_,underlying148⟩,by kernel_rfl⟩
theorem VN:AP prog 22 3 1 8:=l7 (z:=.int .i64 0) underlying22 (by kernel_rfl) (by kernel_rfl) (by decide)
theorem VO:AP prog 27 71 4 48:=l7 (z:=.agg #[.bool false,.slice none 0 0,.int .i64 0,.int .i64 0]) underlying27 (by kernel_rfl) (by kernel_rfl) (by decide)
theorem VP:AP prog 29 80 4 48:=l7 (z:=.agg #[.int .i64 0,.string ⟨#[]⟩,.string ⟨#[]⟩,.int .i64 0]) underlying29 (by kernel_rfl) (by kernel_rfl) (by decide)
theorem VQ:AP prog 30 50 8 96:=l7 (z:=.agg #[.int .i64 0,.string ⟨#[]⟩,.string ⟨#[]⟩,.slice none 0 0,.int .i64 0,.int .i64 0,.int .i64 0,.bool false]) underlying30 (by kernel_rfl) (by kernel_rfl) (by decide)
theorem VR:AP prog 36 63 3 40:=l7 (z:=.agg #[.int .i64 0,.string ⟨#[]⟩,.string ⟨#[]⟩]) underlying36 (by kernel_rfl) (by kernel_rfl) (by decide)
theorem oK:AP prog 38 43 2 24:=l7 (z:=.agg #[.int .i64 0,.string ⟨#[]⟩]) underlying38 (by kernel_rfl) (by kernel_rfl) (by decide)
theorem VS:AP prog 69 75 4 24:=l7 (z:=.agg #[.bool false,.bool false,.int .i64 0,.int .i64 0]) underlying69 (by kernel_rfl) (by kernel_rfl) (by decide)
theorem VT:AP prog 87 131 6 88:=l7 (z:=.agg #[.int .i64 0,.string ⟨#[]⟩,.bool false,.int .i64 0,.slice none 0 0,.slice none 0 0]) underlying87 (by kernel_rfl) (by kernel_rfl) (by decide)
theorem Jj:AP prog 129 9 1 16:=l7 (z:=.string ⟨#[]⟩) underlying129 (by kernel_rfl) (by kernel_rfl) (by decide)
theorem P1:AP prog 145 148 4 48:=l7 (z:=.agg #[.int .i64 0,.string ⟨#[]⟩,.int .i64 0,.string ⟨#[]⟩]) underlying145 (by kernel_rfl) (by kernel_rfl) (by decide)
theorem Fc:BS prog 22 3 1 1 [.int .i64 0]:=⟨underlying22,sizeOf3,by decide,by decide,_,zeroValue3,by kernel_rfl⟩
theorem LD:BS prog 27 71 4 1 [.bool false,.slice none 0 0,.int .i64 0,.int .i64 0]:=⟨underlying27,sizeOf71,by decide,by decide,_,zeroValue71,by kernel_rfl⟩
theorem Aa:BS prog 29 80 4 1 [.int .i64 0,.string ⟨#[]⟩,.string ⟨#[]⟩,.int .i64 0]:=⟨underlying29,sizeOf80,by decide,by decide,_,zeroValue80,by kernel_rfl⟩
theorem rL:BS prog 30 50 8 1 [.int .i64 0,.string ⟨#[]⟩,.string ⟨#[]⟩,.slice none 0 0,.int .i64 0,.int .i64 0,.int .i64 0,.bool false]:=⟨underlying30,sizeOf50,by decide,by decide,_,zeroValue50,by kernel_rfl⟩
theorem Fe:BS prog 36 63 3 1 [.int .i64 0,.string ⟨#[]⟩,.string ⟨#[]⟩]:=⟨underlying36,sizeOf63,by decide,by decide,_,zeroValue63,by kernel_rfl⟩
theorem cP:BS prog 38 43 2 1 [.int .i64 0,.string ⟨#[]⟩]:=⟨underlying38,sizeOf43,by decide,by decide,_,zeroValue43,by kernel_rfl⟩
theorem Ab:BS prog 69 75 4 1 [.bool false,.bool false,.int .i64 0,.int .i64 0]:=⟨underlying69,sizeOf75,by decide,by decide,_,zeroValue75,by kernel_rfl⟩
theorem ik:BS prog 129 9 1 1 [.string ⟨#[]⟩]:=⟨underlying129,sizeOf9,by decide,by decide,_,zeroValue9,by kernel_rfl⟩
theorem BW:BS prog 145 148 4 1 [.int .i64 0,.string ⟨#[]⟩,.int .i64 0,.string ⟨#[]⟩]:=⟨underlying145,sizeOf148,by decide,by decide,_,zeroValue148,by kernel_rfl⟩
theorem Ff:BS prog 129 9 1 10 [.string ⟨#[]⟩,.string ⟨#[]⟩,.string ⟨#[]⟩,.string ⟨#[]⟩,.string ⟨#[]⟩,.string ⟨#[]⟩,.string ⟨#[]⟩,.string ⟨#[]⟩,.string ⟨#[]⟩,.string ⟨#[]⟩]:=⟨underlying129,sizeOf9,by decide,by decide,_,zeroValue9,by kernel_rfl⟩
theorem LF:BS prog 22 3 1 2 [.int .i64 0,.int .i64 0]:=⟨underlying22,sizeOf3,by decide,by decide,_,zeroValue3,by kernel_rfl⟩
theorem LG:BS prog 27 71 4 2 [.bool false,.slice none 0 0,.int .i64 0,.int .i64 0,.bool false,.slice none 0 0,.int .i64 0,.int .i64 0]:=⟨underlying27,sizeOf71,by decide,by decide,_,zeroValue71,by kernel_rfl⟩
theorem LH:BS prog 38 43 2 3 [.int .i64 0,.string ⟨#[]⟩,.int .i64 0,.string ⟨#[]⟩,.int .i64 0,.string ⟨#[]⟩]:=⟨underlying38,sizeOf43,by decide,by decide,_,zeroValue43,by kernel_rfl⟩
theorem LI:BS prog 22 3 1 6 [.int .i64 0,.int .i64 0,.int .i64 0,.int .i64 0,.int .i64 0,.int .i64 0]:=⟨underlying22,sizeOf3,by decide,by decide,_,zeroValue3,by kernel_rfl⟩
theorem P2:BT prog 32 [.int .i64 0,.slice none 0 0,.slice none 0 0] [(0,1),(1,1),(2,1)]:=hU (fs:=[_,_,_]) zeroValue32 rfl underlying32 ⟨rfl,sizeOf3,rfl,sizeOf29,rfl,sizeOf30,trivial⟩
theorem vy:BT prog 43 [.int .i64 0,.string ⟨#[]⟩] [(0,1),(1,1)]:=hU (fs:=[_,_]) zeroValue43 rfl underlying43 ⟨rfl,sizeOf3,rfl,sizeOf9,trivial⟩
theorem P3:BT prog 50 [.int .i64 0,.string ⟨#[]⟩,.string ⟨#[]⟩,.slice none 0 0,.int .i64 0,.int .i64 0,.int .i64 0,.bool false] [(0,2),(2,1),(3,1),(4,1),(5,1),(6,1),(7,1)]:=hU (fs:=[_,_,_,_,_,_,_]) zeroValue50 rfl underlying50 ⟨rfl,sizeOf43,rfl,sizeOf9,rfl,sizeOf38,rfl,sizeOf3,rfl,sizeOf3,rfl,sizeOf3,rfl,sizeOf4,trivial⟩
theorem CW:BT prog 56 [.int .i64 0,.int .i64 0,.string ⟨#[]⟩] [(0,1),(1,2)]:=hU (fs:=[_,_]) zeroValue56 rfl underlying56 ⟨rfl,sizeOf3,rfl,sizeOf43,trivial⟩
theorem P4:BT prog 63 [.int .i64 0,.string ⟨#[]⟩,.string ⟨#[]⟩] [(0,2),(2,1)]:=hU (fs:=[_,_]) zeroValue63 rfl underlying63 ⟨rfl,sizeOf43,rfl,sizeOf9,trivial⟩
theorem VU:BT prog 67 [.slice none 0 0,.int .i64 0] [(0,1),(1,1)]:=hU (fs:=[_,_]) zeroValue67 rfl underlying67 ⟨rfl,sizeOf22,rfl,sizeOf3,trivial⟩
theorem HH:BT prog 71 [.bool false,.slice none 0 0,.int .i64 0,.int .i64 0] [(0,1),(1,1),(2,1),(3,1)]:=hU (fs:=[_,_,_,_]) zeroValue71 rfl underlying71 ⟨rfl,sizeOf4,rfl,sizeOf69,rfl,sizeOf3,rfl,sizeOf3,trivial⟩
theorem HI:BT prog 75 [.bool false,.bool false,.int .i64 0,.int .i64 0] [(0,1),(1,1),(2,1),(3,1)]:=hU (fs:=[_,_,_,_]) zeroValue75 rfl underlying75 ⟨rfl,sizeOf4,rfl,sizeOf4,rfl,sizeOf3,rfl,sizeOf3,trivial⟩
theorem HJ:BT prog 80 [.int .i64 0,.string ⟨#[]⟩,.string ⟨#[]⟩,.int .i64 0] [(0,2),(2,1),(3,1)]:=hU (fs:=[_,_,_]) zeroValue80 rfl underlying80 ⟨rfl,sizeOf43,rfl,sizeOf9,rfl,sizeOf3,trivial⟩
theorem VV:BT prog 95 [.slice none 0 0,.int .i64 0,.slice none 0 0,.slice none 0 0,.map none,.pointer none,.slice none 0 0] [(0,1),(1,3),(4,1),(5,1),(6,1)]:=hU (fs:=[_,_,_,_,_]) zeroValue95 rfl underlying95 ⟨rfl,sizeOf27,rfl,sizeOf32,rfl,sizeOf92,rfl,sizeOf93,rfl,sizeOf38,trivial⟩
theorem P5:BT prog 107 [.pointer none,.int .i64 0,.slice none 0 0,.slice none 0 0,.map none,.slice none 0 0,.int .i64 0] [(0,1),(1,3),(4,1),(5,1),(6,1)]:=hU (fs:=[_,_,_,_,_]) zeroValue107 rfl underlying107 ⟨rfl,sizeOf97,rfl,sizeOf32,rfl,sizeOf99,rfl,sizeOf38,rfl,sizeOf33,trivial⟩
theorem P6:BT prog 139 [.slice none 0 0,.int .i64 0,.slice none 0 0,.slice none 0 0,.map none,.map none] [(0,1),(1,3),(4,1),(5,1)]:=hU (fs:=[_,_,_,_]) zeroValue139 rfl underlying139 ⟨rfl,sizeOf27,rfl,sizeOf32,rfl,sizeOf136,rfl,sizeOf137,trivial⟩
theorem kx:BT prog 142 [.bool false,.string ⟨#[]⟩,.int .i64 0,.string ⟨#[]⟩] [(0,1),(1,1),(2,2)]:=hU (fs:=[_,_,_]) zeroValue142 rfl underlying142 ⟨rfl,sizeOf4,rfl,sizeOf9,rfl,sizeOf43,trivial⟩
theorem Jk:BT prog 148 [.int .i64 0,.string ⟨#[]⟩,.int .i64 0,.string ⟨#[]⟩] [(0,2),(2,2)]:=hU (fs:=[_,_]) zeroValue148 rfl underlying148 ⟨rfl,sizeOf43,rfl,sizeOf43,trivial⟩
theorem P7:BT prog 157 [.slice none 0 0,.int .i64 0,.slice none 0 0,.slice none 0 0,.map none,.map none] [(0,1),(1,3),(4,1),(5,1)]:=hU (fs:=[_,_,_,_]) zeroValue157 rfl underlying157 ⟨rfl,sizeOf27,rfl,sizeOf32,rfl,sizeOf136,rfl,sizeOf99,trivial⟩
theorem BX:BT prog 413 [.string ⟨#[]⟩,.string ⟨#[]⟩,.nilIface] [(0,1),(1,1),(2,1)]:=hU (fs:=[_,_,_]) zeroValue413 rfl underlying413 ⟨rfl,sizeOf9,rfl,sizeOf9,rfl,sizeOf184,trivial⟩
theorem cB:KK prog 43 Key.val:=Ke underlying43 eI (Ch underlying43 rfl rfl rfl rfl underlying3 underlying9 isAgg3 isAgg9)
theorem vz:∃ms,prog.underlying 184=some (.interface ms):=⟨_,underlying184⟩
theorem aL:One prog 3:=isAgg3
theorem dm:One prog 4:=isAgg4
theorem fq:One prog 9:=isAgg9
theorem Jl:One prog 22:=isAgg22
theorem ky:One prog 27:=isAgg27
theorem jI:One prog 29:=isAgg29
theorem fb:One prog 30:=isAgg30
theorem uF:One prog 33:=isAgg33
theorem gS:One prog 38:=isAgg38
theorem iZ:One prog 69:=isAgg69
theorem Fg:One prog 85:=isAgg85
theorem ib:One prog 92:=isAgg92
theorem xX:One prog 93:=isAgg93
theorem Fh:One prog 97:=isAgg97
theorem pz:One prog 99:=isAgg99
theorem eZ:One prog 136:=isAgg136
theorem Ac:One prog 137:=isAgg137
theorem vA:One prog 184:=isAgg184
theorem Ad:tI prog 22 3 1:=⟨underlying22,sizeOf3⟩
theorem gT:tI prog 27 71 4:=⟨underlying27,sizeOf71⟩
theorem qc:tI prog 29 80 4:=⟨underlying29,sizeOf80⟩
theorem jk:tI prog 30 50 8:=⟨underlying30,sizeOf50⟩
theorem CX:tI prog 36 63 3:=⟨underlying36,sizeOf63⟩
theorem dn:tI prog 38 43 2:=⟨underlying38,sizeOf43⟩
theorem sZ:tI prog 69 75 4:=⟨underlying69,sizeOf75⟩
theorem VW:tI prog 87 131 6:=⟨underlying87,sizeOf131⟩
theorem mi:tI prog 129 9 1:=⟨underlying129,sizeOf9⟩
theorem Fi:tI prog 145 148 4:=⟨underlying145,sizeOf148⟩
theorem Jm:tI prog 211 5 1:=⟨underlying211,sizeOf5⟩
theorem VX:∀w,(sizeOf 43).run prog w=.ok 2 w:=sizeOf43
theorem VY:∀w,(sizeOf 50).run prog w=.ok 8 w:=sizeOf50
theorem VZ:∀w,(sizeOf 80).run prog w=.ok 4 w:=sizeOf80
theorem Of:(prog.info? 3).map (·.size)=some 1:=by kernel_rfl
theorem sz4:(prog.info? 4).map (·.size)=some 1:=by kernel_rfl
theorem V0:(prog.info? 29).map (·.size)=some 1:=by kernel_rfl
theorem V2:(prog.info? 30).map (·.size)=some 1:=by kernel_rfl
theorem jl:(prog.info? 32).map (·.size)=some 3:=by kernel_rfl
theorem V3:(prog.info? 33).map (·.size)=some 1:=by kernel_rfl
theorem V4:(prog.info? 38).map (·.size)=some 1:=by kernel_rfl
theorem fW:(prog.info? 43).map (·.size)=some 2:=by kernel_rfl
theorem gk:(prog.info? 50).map (·.size)=some 8:=by kernel_rfl
theorem vB:(prog.info? 56).map (·.size)=some 3:=by kernel_rfl
theorem Fj:(prog.info? 63).map (·.size)=some 3:=by kernel_rfl
theorem V5:(prog.info? 69).map (·.size)=some 1:=by kernel_rfl
theorem CY:(prog.info? 71).map (·.size)=some 4:=by kernel_rfl
theorem Ae:(prog.info? 75).map (·.size)=some 4:=by kernel_rfl
theorem xY:(prog.info? 80).map (·.size)=some 4:=by kernel_rfl
theorem P8:(prog.info? 136).map (·.size)=some 1:=by kernel_rfl
theorem fc:(prog.info? 142).map (·.size)=some 4:=by kernel_rfl
theorem Jn:(prog.info? 148).map (·.size)=some 4:=by kernel_rfl
theorem V6:prog.underlying 3=some (.int .i64):=underlying3
theorem V7:prog.underlying 4=some (.bool):=underlying4
theorem V8:prog.underlying 5=some (.int .u8):=underlying5
theorem rM:prog.underlying 9=some (.string):=underlying9
theorem Jo:prog.underlying 29=some (.slice 80):=underlying29
theorem Jp:prog.underlying 30=some (.slice 50):=underlying30
theorem Jq:prog.underlying 38=some (.slice 43):=underlying38
theorem ic:prog.underlying 92=some (.map 43 125):=underlying92
theorem fE:prog.underlying 99=some (.map 43 4):=underlying99
theorem LJ:prog.underlying 125=some (.pointer 50):=underlying125
theorem dd:prog.underlying 136=some (.map 43 9):=underlying136
theorem rO:prog.underlying 137=some (.map 43 38):=underlying137
theorem zv4:ZV prog 4 [.bool false]:=⟨_,zeroValue4,rfl⟩
theorem V9:ZV prog 32 [.int .i64 0,.slice none 0 0,.slice none 0 0]:=⟨_,zeroValue32,rfl⟩
theorem Wa:ZV prog 38 [.slice none 0 0]:=⟨_,zeroValue38,rfl⟩
theorem Af:ZV prog 43 [.int .i64 0,.string ⟨#[]⟩]:=⟨_,zeroValue43,rfl⟩
theorem oL:ZV prog 50 [.int .i64 0,.string ⟨#[]⟩,.string ⟨#[]⟩,.slice none 0 0,.int .i64 0,.int .i64 0,.int .i64 0,.bool false]:=⟨_,zeroValue50,rfl⟩
theorem LK:ZV prog 56 [.int .i64 0,.int .i64 0,.string ⟨#[]⟩]:=⟨_,zeroValue56,rfl⟩
theorem Wb:ZV prog 63 [.int .i64 0,.string ⟨#[]⟩,.string ⟨#[]⟩]:=⟨_,zeroValue63,rfl⟩
theorem HK:ZV prog 71 [.bool false,.slice none 0 0,.int .i64 0,.int .i64 0]:=⟨_,zeroValue71,rfl⟩
theorem LL:ZV prog 75 [.bool false,.bool false,.int .i64 0,.int .i64 0]:=⟨_,zeroValue75,rfl⟩
theorem HL:ZV prog 80 [.int .i64 0,.string ⟨#[]⟩,.string ⟨#[]⟩,.int .i64 0]:=⟨_,zeroValue80,rfl⟩
theorem P9:ZV prog 136 [.map none]:=⟨_,zeroValue136,rfl⟩
theorem nV:ZV prog 142 [.bool false,.string ⟨#[]⟩,.int .i64 0,.string ⟨#[]⟩]:=⟨_,zeroValue142,rfl⟩
theorem Qa:ZV prog 148 [.int .i64 0,.string ⟨#[]⟩,.int .i64 0,.string ⟨#[]⟩]:=⟨_,zeroValue148,rfl⟩
theorem vC:∀w,(zeroValue 4).run prog w=.ok (.bool false) w:=zeroValue4
theorem j9:∀w,(zeroValue 9).run prog w=.ok (.string ⟨#[]⟩) w:=zeroValue9
theorem BZ:∀w,(zeroValue 38).run prog w=.ok (.slice none 0 0) w:=zeroValue38
theorem fP:∀w,(zeroValue 125).run prog w=.ok (.pointer none) w:=zeroValue125
theorem ka:FA prog 32 0 0:=bW underlying32 rfl sizeOf3 (by decide) rfl
theorem rP:FA prog 32 1 1:=bW underlying32 rfl sizeOf29 (by decide) rfl
theorem rQ:FA prog 32 2 2:=bW underlying32 rfl sizeOf30 (by decide) rfl
theorem cQ:FA prog 43 0 0:=bW underlying43 rfl sizeOf3 (by decide) rfl
theorem oM:FA prog 43 1 1:=bW underlying43 rfl sizeOf9 (by decide) rfl
theorem oN:FA prog 50 0 0:=bW underlying50 rfl sizeOf43 (by decide) rfl
theorem vD:FA prog 50 1 2:=bW underlying50 rfl sizeOf9 (by decide) rfl
theorem Ag:FA prog 50 2 3:=bW underlying50 rfl sizeOf38 (by decide) rfl
theorem rR:FA prog 50 3 4:=bW underlying50 rfl sizeOf3 (by decide) rfl
theorem oO:FA prog 50 4 5:=bW underlying50 rfl sizeOf3 (by decide) rfl
theorem Ah:FA prog 50 5 6:=bW underlying50 rfl sizeOf3 (by decide) rfl
theorem Ai:FA prog 50 6 7:=bW underlying50 rfl sizeOf4 (by decide) rfl
theorem LM:FA prog 56 0 0:=bW underlying56 rfl sizeOf3 (by decide) rfl
theorem LN:FA prog 63 0 0:=bW underlying63 rfl sizeOf43 (by decide) rfl
theorem LO:FA prog 63 1 2:=bW underlying63 rfl sizeOf9 (by decide) rfl
theorem Fk:FA prog 67 0 0:=bW underlying67 rfl sizeOf22 (by decide) rfl
theorem vE:FA prog 67 1 1:=bW underlying67 rfl sizeOf3 (by decide) rfl
theorem iK:FA prog 71 0 0:=bW underlying71 rfl sizeOf4 (by decide) rfl
theorem oP:FA prog 71 1 1:=bW underlying71 rfl sizeOf69 (by decide) rfl
theorem mX:FA prog 71 2 2:=bW underlying71 rfl sizeOf3 (by decide) rfl
theorem jm:FA prog 71 3 3:=bW underlying71 rfl sizeOf3 (by decide) rfl
theorem vF:FA prog 75 0 0:=bW underlying75 rfl sizeOf4 (by decide) rfl
theorem rS:FA prog 75 1 1:=bW underlying75 rfl sizeOf4 (by decide) rfl
theorem Aj:FA prog 75 2 2:=bW underlying75 rfl sizeOf3 (by decide) rfl
theorem rT:FA prog 75 3 3:=bW underlying75 rfl sizeOf3 (by decide) rfl
theorem oQ:FA prog 80 0 0:=bW underlying80 rfl sizeOf43 (by decide) rfl
theorem Ak:FA prog 80 1 2:=bW underlying80 rfl sizeOf9 (by decide) rfl
theorem rU:FA prog 80 2 3:=bW underlying80 rfl sizeOf3 (by decide) rfl
theorem LP:FA prog 95 0 0:=bW underlying95 rfl sizeOf27 (by decide) rfl
theorem LQ:FA prog 95 1 1:=bW underlying95 rfl sizeOf32 (by decide) rfl
theorem LS:FA prog 95 2 4:=bW underlying95 rfl sizeOf92 (by decide) rfl
theorem LU:FA prog 95 3 5:=bW underlying95 rfl sizeOf93 (by decide) rfl
theorem LV:FA prog 95 4 6:=bW underlying95 rfl sizeOf38 (by decide) rfl
theorem HM:FA prog 107 0 0:=bW underlying107 rfl sizeOf97 (by decide) rfl
theorem HN:FA prog 107 1 1:=bW underlying107 rfl sizeOf32 (by decide) rfl
theorem HO:FA prog 107 2 4:=bW underlying107 rfl sizeOf99 (by decide) rfl
theorem HP:FA prog 107 3 5:=bW underlying107 rfl sizeOf38 (by decide) rfl
theorem HQ:FA prog 107 4 6:=bW underlying107 rfl sizeOf33 (by decide) rfl
theorem HR:FA prog 131 0 0:=bW underlying131 rfl sizeOf43 (by decide) rfl
theorem HS:FA prog 131 1 2:=bW underlying131 rfl sizeOf4 (by decide) rfl
theorem HT:FA prog 131 2 3:=bW underlying131 rfl sizeOf3 (by decide) rfl
theorem HU:FA prog 131 3 4:=bW underlying131 rfl sizeOf38 (by decide) rfl
theorem HV:FA prog 131 4 5:=bW underlying131 rfl sizeOf129 (by decide) rfl
theorem HW:FA prog 139 0 0:=bW underlying139 rfl sizeOf27 (by decide) rfl
theorem HX:FA prog 139 1 1:=bW underlying139 rfl sizeOf32 (by decide) rfl
theorem HY:FA prog 139 2 4:=bW underlying139 rfl sizeOf136 (by decide) rfl
theorem HZ:FA prog 139 3 5:=bW underlying139 rfl sizeOf137 (by decide) rfl
theorem H0:FA prog 142 0 0:=bW underlying142 rfl sizeOf4 (by decide) rfl
theorem H2:FA prog 142 1 1:=bW underlying142 rfl sizeOf9 (by decide) rfl
theorem H3:FA prog 142 2 2:=bW underlying142 rfl sizeOf43 (by decide) rfl
theorem H4:FA prog 148 0 0:=bW underlying148 rfl sizeOf43 (by decide) rfl
theorem H5:FA prog 148 1 2:=bW underlying148 rfl sizeOf43 (by decide) rfl
theorem H6:FA prog 157 0 0:=bW underlying157 rfl sizeOf27 (by decide) rfl
theorem H7:FA prog 157 1 1:=bW underlying157 rfl sizeOf32 (by decide) rfl
theorem H8:FA prog 157 2 4:=bW underlying157 rfl sizeOf136 (by decide) rfl
theorem H9:FA prog 157 3 5:=bW underlying157 rfl sizeOf99 (by decide) rfl
instance:D4 prog 129 9 1 16:=⟨Jj⟩
instance:D4 prog 145 148 4 48:=⟨P1⟩
instance:D4 prog 22 3 1 8:=⟨VN⟩
instance:D4 prog 27 71 4 48:=⟨VO⟩
instance:D4 prog 29 80 4 48:=⟨VP⟩
instance:D4 prog 30 50 8 96:=⟨VQ⟩
instance:D4 prog 36 63 3 40:=⟨VR⟩
instance:D4 prog 38 43 2 24:=⟨oK⟩
instance:D4 prog 69 75 4 24:=⟨VS⟩
instance:D4 prog 87 131 6 88:=⟨VT⟩
instance:Ki prog 43 [.int .i64 0,.string ⟨#[]⟩] [(0,1),(1,1)]:=⟨vy⟩
instance:Ki prog 50 [.int .i64 0,.string ⟨#[]⟩,.string ⟨#[]⟩,.slice none 0 0,.int .i64 0,.int .i64 0,.int .i64 0,.bool false] [(0,2),(2,1),(3,1),(4,1),(5,1),(6,1),(7,1)]:=⟨P3⟩
instance:Ki prog 56 [.int .i64 0,.int .i64 0,.string ⟨#[]⟩] [(0,1),(1,2)]:=⟨CW⟩
instance:Ki prog 80 [.int .i64 0,.string ⟨#[]⟩,.string ⟨#[]⟩,.int .i64 0] [(0,2),(2,1),(3,1)]:=⟨HJ⟩
instance:gu prog 107 0 0:=⟨HM⟩
instance:gu prog 107 1 1:=⟨HN⟩
instance:gu prog 107 2 4:=⟨HO⟩
instance:gu prog 107 3 5:=⟨HP⟩
instance:gu prog 107 4 6:=⟨HQ⟩
instance:gu prog 131 0 0:=⟨HR⟩
instance:gu prog 131 1 2:=⟨HS⟩
instance:gu prog 131 2 3:=⟨HT⟩
instance:gu prog 131 3 4:=⟨HU⟩
instance:gu prog 131 4 5:=⟨HV⟩
instance:gu prog 139 0 0:=⟨HW⟩
instance:gu prog 139 1 1:=⟨HX⟩
instance:gu prog 139 2 4:=⟨HY⟩
instance:gu prog 139 3 5:=⟨HZ⟩
instance:gu prog 142 0 0:=⟨H0⟩
instance:gu prog 142 1 1:=⟨H2⟩
instance:gu prog 142 2 2:=⟨H3⟩
instance:gu prog 148 0 0:=⟨H4⟩
instance:gu prog 148 1 2:=⟨H5⟩
instance:gu prog 157 0 0:=⟨H6⟩
instance:gu prog 157 1 1:=⟨H7⟩
instance:gu prog 157 2 4:=⟨H8⟩
instance:gu prog 157 3 5:=⟨H9⟩
instance:gu prog 32 0 0:=⟨ka⟩
instance:gu prog 32 1 1:=⟨rP⟩
instance:gu prog 32 2 2:=⟨rQ⟩
instance:gu prog 43 0 0:=⟨cQ⟩
instance:gu prog 43 1 1:=⟨oM⟩
instance:gu prog 50 0 0:=⟨oN⟩
instance:gu prog 50 1 2:=⟨vD⟩
instance:gu prog 50 2 3:=⟨Ag⟩
instance:gu prog 50 3 4:=⟨rR⟩
instance:gu prog 50 4 5:=⟨oO⟩
instance:gu prog 50 5 6:=⟨Ah⟩
instance:gu prog 50 6 7:=⟨Ai⟩
instance:gu prog 56 0 0:=⟨LM⟩
instance:gu prog 63 0 0:=⟨LN⟩
instance:gu prog 63 1 2:=⟨LO⟩
instance:gu prog 71 0 0:=⟨iK⟩
instance:gu prog 71 1 1:=⟨oP⟩
instance:gu prog 71 2 2:=⟨mX⟩
instance:gu prog 71 3 3:=⟨jm⟩
instance:gu prog 75 0 0:=⟨vF⟩
instance:gu prog 75 1 1:=⟨rS⟩
instance:gu prog 75 2 2:=⟨Aj⟩
instance:gu prog 75 3 3:=⟨rT⟩
instance:gu prog 80 0 0:=⟨oQ⟩
instance:gu prog 80 1 2:=⟨Ak⟩
instance:gu prog 80 2 3:=⟨rU⟩
instance:gu prog 95 0 0:=⟨LP⟩
instance:gu prog 95 1 1:=⟨LQ⟩
instance:gu prog 95 2 4:=⟨LS⟩
instance:gu prog 95 3 5:=⟨LU⟩
instance:gu prog 95 4 6:=⟨LV⟩
instance:zk prog 43:=⟨eI⟩
instance:Bm prog 129 9 1:=⟨mi⟩
instance:Bm prog 145 148 4:=⟨Fi⟩
instance:Bm prog 211 5 1:=⟨Jm⟩
instance:Bm prog 22 3 1:=⟨Ad⟩
instance:Bm prog 27 71 4:=⟨gT⟩
instance:Bm prog 29 80 4:=⟨qc⟩
instance:Bm prog 30 50 8:=⟨jk⟩
instance:Bm prog 36 63 3:=⟨CX⟩
instance:Bm prog 38 43 2:=⟨dn⟩
instance:Bm prog 69 75 4:=⟨sZ⟩
instance:Bm prog 87 131 6:=⟨VW⟩
instance:Gs prog 136 1:=⟨P8⟩
instance:Gs prog 29 1:=⟨V0⟩
instance:Gs prog 3 1:=⟨Of⟩
instance:Gs prog 30 1:=⟨V2⟩
instance:Gs prog 33 1:=⟨V3⟩
instance:Gs prog 38 1:=⟨V4⟩
instance:Gs prog 4 1:=⟨sz4⟩
instance:Gs prog 69 1:=⟨V5⟩
instance:kR prog 125 (.pointer 50):=⟨LJ⟩
instance:kR prog 29 (.slice 80):=⟨Jo⟩
instance:kR prog 30 (.slice 50):=⟨Jp⟩
instance:kR prog 38 (.slice 43):=⟨Jq⟩
instance:kR prog 9 (.string):=⟨rM⟩
instance:Bn prog 142 [.bool false,.string ⟨#[]⟩,.int .i64 0,.string ⟨#[]⟩]:=⟨nV⟩
instance:Bn prog 148 [.int .i64 0,.string ⟨#[]⟩,.int .i64 0,.string ⟨#[]⟩]:=⟨Qa⟩
instance:Bn prog 32 [.int .i64 0,.slice none 0 0,.slice none 0 0]:=⟨V9⟩
instance:Bn prog 38 [.slice none 0 0]:=⟨Wa⟩
instance:Bn prog 4 [.bool false]:=⟨zv4⟩
instance:Bn prog 43 [.int .i64 0,.string ⟨#[]⟩]:=⟨Af⟩
instance:Bn prog 50 [.int .i64 0,.string ⟨#[]⟩,.string ⟨#[]⟩,.slice none 0 0,.int .i64 0,.int .i64 0,.int .i64 0,.bool false]:=⟨oL⟩
instance:Bn prog 56 [.int .i64 0,.int .i64 0,.string ⟨#[]⟩]:=⟨LK⟩
instance:Bn prog 63 [.int .i64 0,.string ⟨#[]⟩,.string ⟨#[]⟩]:=⟨Wb⟩
instance:Bn prog 71 [.bool false,.slice none 0 0,.int .i64 0,.int .i64 0]:=⟨HK⟩
instance:Bn prog 75 [.bool false,.bool false,.int .i64 0,.int .i64 0]:=⟨LL⟩
instance:Bn prog 80 [.int .i64 0,.string ⟨#[]⟩,.string ⟨#[]⟩,.int .i64 0]:=⟨HL⟩
theorem cf5:CF prog 5:=call5
theorem cf7:CF prog 7:=call7
theorem cf8:CF prog 8:=call8
theorem Wc:CF prog 9:=call9
theorem Qb:CF prog 10:=call10
theorem Wd:CF prog 13:=call13
theorem Fl:CF prog 14:=call14
theorem Qc:CF prog 15:=call15
theorem LW:CF prog 16:=call16
theorem Qd:CF prog 17:=call17
theorem Qe:CF prog 19:=call19
theorem Qf:CF prog 20:=call20
theorem qd:CF prog 21:=call21
theorem Qg:CF prog 22:=call22
theorem Qh:CF prog 23:=call23
theorem Qi:CF prog 24:=call24
theorem We:CF prog 25:=call25
theorem CZ:CF prog 27:=call27
theorem mY:CF prog 29:=call29
theorem Qj:CF prog 30:=call30
theorem Fm:CF prog 31:=call31
theorem LX:CF prog 32:=call32
theorem Fo:CF prog 33:=call33
theorem Qk:CF prog 34:=call34
theorem LY:CF prog 35:=call35
theorem Wf:CF prog 36:=call36
theorem Wg:CF prog 38:=call38
theorem Wh:CF prog 39:=call39
theorem Wi:CF prog 40:=call40
theorem Wj:CF prog 45:=call45
theorem Wk:CF prog 46:=call46
theorem LZ:CF prog 47:=call47
theorem Wl:CF prog 48:=call48
theorem C1:CF prog 49:=call49
theorem Ql:CF prog 50:=call50
theorem Wm:CF prog 51:=call51
theorem Ia:CF prog 52:=call52
theorem Wn:CF prog 53:=call53
theorem L0:CF prog 54:=call54
theorem L4:CF prog 55:=call55
theorem Wo:CF prog 56:=call56
theorem L5:CF prog 57:=call57
theorem Wp:CF prog 58:=call58
theorem Wq:CF prog 59:=call59
theorem Wr:CF prog 61:=call61
theorem Ws:CF prog 62:=call62
theorem Wt:CF prog 63:=call63
theorem Ib:CF prog 64:=call64
theorem Qm:CF prog 65:=call65
theorem Qn:CF prog 66:=call66
theorem Wu:CF prog 67:=call67
theorem Wv:CF prog 68:=call68
theorem Ww:CF prog 69:=call69
theorem Wx:CF prog 70:=call70
theorem Wz:CF prog 71:=call71
theorem WA:CF prog 72:=call72
theorem WE:CF prog 73:=call73
theorem WG:CF prog 74:=call74
theorem WJ:CF prog 75:=call75
theorem WM:CF prog 76:=call76
theorem WN:CF prog 80:=call80
theorem Qo:CF prog 83:=call83
theorem Qp:CF prog 84:=call84
theorem WO:CF prog 85:=call85
theorem WQ:CF prog 86:=call86
theorem Qq:CF prog 87:=call87
theorem WR:CF prog 88:=call88
theorem Ic:CF prog 89:=call89
theorem WS:CF prog 90:=call90
theorem rV:CF prog 92:=call92
theorem WT:CF prog 93:=call93
theorem WV:CF prog 94:=call94
theorem WW:CF prog 95:=call95
theorem WX:CF prog 96:=call96
theorem WY:CF prog 97:=call97
theorem WZ:CF prog 98:=call98
theorem W0:CF prog 99:=call99
theorem Jr:CF prog 100:=call100
theorem Qr:CF prog 101:=call101
theorem B0:CF prog 103:=call103
theorem Qs:CF prog 104:=call104
theorem Js:CF prog 105:=call105
theorem Qt:CF prog 107:=call107
theorem Qu:CF prog 108:=call108
theorem Qv:CF prog 109:=call109
theorem Qw:CF prog 110:=call110
theorem Qx:CF prog 111:=call111
theorem Fp:CF prog 112:=call112
theorem Qy:CF prog 113:=call113
theorem Qz:CF prog 114:=call114
theorem QA:CF prog 115:=call115
theorem QB:CF prog 116:=call116
theorem QC:CF prog 117:=call117
theorem QD:CF prog 118:=call118
theorem QE:CF prog 120:=call120
theorem QF:CF prog 121:=call121
theorem QG:CF prog 124:=call124
theorem QH:CF prog 125:=call125
theorem QI:CF prog 126:=call126
theorem QJ:CF prog 127:=call127
theorem QK:CF prog 128:=call128
theorem QL:CF prog 129:=call129
theorem QM:CF prog 131:=call131
theorem QN:CF prog 132:=call132
theorem QO:CF prog 134:=call134
theorem QP:CF prog 135:=call135
theorem Jt:CF prog 136:=call136
theorem QQ:CF prog 137:=call137
theorem QR:CF prog 138:=call138
theorem QS:CF prog 139:=call139
theorem QT:CF prog 140:=call140
theorem QU:CF prog 141:=call141
theorem QV:CF prog 142:=call142
theorem QW:CF prog 143:=call143
theorem QX:CF prog 144:=call144
theorem QY:CF prog 145:=call145
theorem QZ:CF prog 146:=call146
theorem Q0:CF prog 147:=call147
theorem Q1:CF prog 149:=call149
theorem Q3:CF prog 150:=call150
theorem Ju:CF prog 151:=call151
theorem Q4:CF prog 152:=call152
theorem Jv:CF prog 153:=call153
theorem Q5:CF prog 156:=call156
theorem Fq:CF prog 158:=call158
theorem Q6:CF prog 159:=call159
theorem Q7:CF prog 168:=call168
theorem Q8:CF prog 169:=call169
theorem Q9:CF prog 170:=call170
theorem Ra:CF prog 178:=call178
theorem Jw:CF prog 179:=call179
theorem Rb:CF prog 181:=call181
theorem Re:CF prog 186:=call186
theorem Jx:CF prog 187:=call187
theorem Rf:CF prog 188:=call188
theorem Rg:CF prog 189:=call189
theorem Rh:CF prog 190:=call190
theorem Ri:CF prog 191:=call191
theorem Rj:CF prog 192:=call192
theorem Rk:CF prog 193:=call193
theorem Rl:CF prog 194:=call194
theorem Rm:CF prog 195:=call195
theorem Rn:CF prog 196:=call196
theorem Ro:CF prog 197:=call197
theorem Rp:CF prog 201:=call201
theorem Fs:CF prog 202:=call202
theorem Rq:CF prog 245:=call245
theorem Rr:CF prog 246:=call246
theorem Jy:CF prog 264:=call264
theorem Rt:CF prog 265:=call265
theorem Ru:CF prog 343:=call343
instance:fh prog 5:=⟨cf5⟩
instance:fh prog 14:=⟨Fl⟩
instance:fh prog 15:=⟨Qc⟩
instance:fh prog 21:=⟨qd⟩
instance:fh prog 25:=⟨We⟩
instance:fh prog 27:=⟨CZ⟩
instance:fh prog 30:=⟨Qj⟩
instance:fh prog 33:=⟨Fo⟩
instance:fh prog 34:=⟨Qk⟩
instance:fh prog 35:=⟨LY⟩
instance:fh prog 38:=⟨Wg⟩
instance:fh prog 46:=⟨Wk⟩
instance:fh prog 52:=⟨Ia⟩
instance:fh prog 56:=⟨Wo⟩
instance:fh prog 58:=⟨Wp⟩
instance:fh prog 59:=⟨Wq⟩
instance:fh prog 66:=⟨Qn⟩
instance:fh prog 68:=⟨Wv⟩
instance:fh prog 69:=⟨Ww⟩
instance:fh prog 70:=⟨Wx⟩
instance:fh prog 72:=⟨WA⟩
instance:fh prog 76:=⟨WM⟩
instance:fh prog 83:=⟨Qo⟩
instance:fh prog 86:=⟨WQ⟩
instance:fh prog 87:=⟨Qq⟩
instance:fh prog 88:=⟨WR⟩
instance:fh prog 89:=⟨Ic⟩
instance:fh prog 96:=⟨WX⟩
instance:fh prog 107:=⟨Qt⟩
instance:fh prog 108:=⟨Qu⟩
instance:fh prog 109:=⟨Qv⟩
instance:fh prog 110:=⟨Qw⟩
instance:fh prog 112:=⟨Fp⟩
instance:fh prog 113:=⟨Qy⟩
instance:fh prog 114:=⟨Qz⟩
instance:fh prog 115:=⟨QA⟩
instance:fh prog 116:=⟨QB⟩
instance:fh prog 118:=⟨QD⟩
instance:fh prog 120:=⟨QE⟩
instance:fh prog 121:=⟨QF⟩
instance:fh prog 124:=⟨QG⟩
instance:fh prog 125:=⟨QH⟩
instance:fh prog 126:=⟨QI⟩
instance:fh prog 127:=⟨QJ⟩
instance:fh prog 128:=⟨QK⟩
instance:fh prog 132:=⟨QN⟩
instance:fh prog 137:=⟨QQ⟩
instance:fh prog 140:=⟨QT⟩
instance:fh prog 144:=⟨QX⟩
instance:fh prog 149:=⟨Q1⟩
instance:fh prog 150:=⟨Q3⟩
instance:fh prog 153:=⟨Jv⟩
instance:fh prog 156:=⟨Q5⟩
instance:fh prog 159:=⟨Q6⟩
instance:fh prog 168:=⟨Q7⟩
instance:fh prog 169:=⟨Q8⟩
instance:fh prog 170:=⟨Q9⟩
instance:fh prog 186:=⟨Re⟩
instance:fh prog 188:=⟨Rf⟩
instance:fh prog 189:=⟨Rg⟩
instance:fh prog 190:=⟨Rh⟩
instance:fh prog 191:=⟨Ri⟩
instance:fh prog 195:=⟨Rm⟩
instance:fh prog 196:=⟨Rn⟩
instance:fh prog 197:=⟨Ro⟩
instance:fh prog 202:=⟨Fs⟩
instance:fh prog 343:=⟨Ru⟩
end Go.Rc

