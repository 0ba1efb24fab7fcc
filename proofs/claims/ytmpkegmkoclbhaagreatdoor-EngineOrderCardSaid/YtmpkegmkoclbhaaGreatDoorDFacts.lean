/- Walks over the program, part Facts. Conditions: as each theorem says. -/
import Derived.Test.YtmpkegmkoclbhaaGreatDoorProg
import Derived.Test.YtmpkegmkoclbhaaGreatDoorDBd
set_option linter.all false
namespace Go.Rc
open Go Go.Proofs Go.Proofs.Tryz
theorem mixed:prog.follows .mixedOrders=true:=by kernel_rfl
theorem fI:Hc prog 40:=Mc underlying40 rfl rfl rfl rfl (by decide) (by decide) underlying3 underlying9 isAgg3 isAgg9 (by kernel_rfl) (by kernel_rfl)
theorem aO:tg prog 31 3:=⟨⟨_,underlying31⟩,by kernel_rfl⟩
theorem ao:tg prog 40 2:=⟨⟨_,underlying40⟩,by kernel_rfl⟩
theorem Cb:tg prog 49 3:=⟨⟨_,underlying49⟩,by kernel_rfl⟩
theorem ku:tg prog 78 4:=⟨⟨_,underlying78⟩,by kernel_rfl⟩
theorem oJ:tg prog 81 4:=⟨⟨_,underlying81⟩,by kernel_rfl⟩
theorem sM:tg prog 84 4:=⟨⟨_,underlying84⟩,by kernel_rfl⟩
theorem cV:tg prog 88 8:=⟨⟨_,underlying88⟩,by kernel_rfl⟩
theorem fW:tg prog 95 7:=⟨⟨_,underlying95⟩,by kernel_rfl⟩
theorem nH:tg prog 115 6:=⟨⟨_,underlying115⟩,by kernel_rfl⟩
theorem iR:tg prog 152 4:=⟨⟨_,underlying152⟩,by kernel_rfl⟩
theorem zk:tg prog 160 4:=⟨⟨_,underlying160⟩,by kernel_rfl⟩
theorem acP:AP prog 22 3 1 8:=oD (z:=.int .i64 0) underlying22 (by kernel_rfl) (by kernel_rfl) (by decide)
theorem acQ:AP prog 27 84 4 48:=oD (z:=.agg #[.bool false,.slice none 0 0,.int .i64 0,.int .i64 0]) underlying27 (by kernel_rfl) (by kernel_rfl) (by decide)
theorem acR:AP prog 28 78 4 48:=oD (z:=.agg #[.int .i64 0,.string ⟨#[]⟩,.string ⟨#[]⟩,.int .i64 0]) underlying28 (by kernel_rfl) (by kernel_rfl) (by decide)
theorem RM:AP prog 29 88 8 96:=oD (z:=.agg #[.int .i64 0,.string ⟨#[]⟩,.string ⟨#[]⟩,.slice none 0 0,.int .i64 0,.int .i64 0,.int .i64 0,.bool false]) underlying29 (by kernel_rfl) (by kernel_rfl) (by decide)
theorem lN:AP prog 34 40 2 24:=oD (z:=.agg #[.int .i64 0,.string ⟨#[]⟩]) underlying34 (by kernel_rfl) (by kernel_rfl) (by decide)
theorem acS:AP prog 50 49 3 40:=oD (z:=.agg #[.int .i64 0,.string ⟨#[]⟩,.string ⟨#[]⟩]) underlying50 (by kernel_rfl) (by kernel_rfl) (by decide)
theorem RN:AP prog 65 115 6 88:=oD (z:=.agg #[.int .i64 0,.string ⟨#[]⟩,.bool false,.int .i64 0,.slice none 0 0,.slice none 0 0]) underlying65 (by kernel_rfl) (by kernel_rfl) (by decide)
theorem acT:AP prog 82 81 4 24:=oD (z:=.agg #[.bool false,.bool false,.int .i64 0,.int .i64 0]) underlying82 (by kernel_rfl) (by kernel_rfl) (by decide)
theorem Cc:AP prog 113 9 1 16:=oD (z:=.string ⟨#[]⟩) underlying113 (by kernel_rfl) (by kernel_rfl) (by decide)
theorem Ws:AP prog 157 160 4 48:=oD (z:=.agg #[.int .i64 0,.string ⟨#[]⟩,.int .i64 0,.string ⟨#[]⟩]) underlying157 (by kernel_rfl) (by kernel_rfl) (by decide)
theorem Kl:BS prog 22 3 1 1 [.int .i64 0]:=⟨underlying22,sizeOf3,by decide,by decide,_,zeroValue3,by kernel_rfl⟩
theorem Km:BS prog 27 84 4 1 [.bool false,.slice none 0 0,.int .i64 0,.int .i64 0]:=⟨underlying27,sizeOf84,by decide,by decide,_,zeroValue84,by kernel_rfl⟩
theorem EW:BS prog 28 78 4 1 [.int .i64 0,.string ⟨#[]⟩,.string ⟨#[]⟩,.int .i64 0]:=⟨underlying28,sizeOf78,by decide,by decide,_,zeroValue78,by kernel_rfl⟩
theorem nI:BS prog 29 88 8 1 [.int .i64 0,.string ⟨#[]⟩,.string ⟨#[]⟩,.slice none 0 0,.int .i64 0,.int .i64 0,.int .i64 0,.bool false]:=⟨underlying29,sizeOf88,by decide,by decide,_,zeroValue88,by kernel_rfl⟩
theorem dx:BS prog 34 40 2 1 [.int .i64 0,.string ⟨#[]⟩]:=⟨underlying34,sizeOf40,by decide,by decide,_,zeroValue40,by kernel_rfl⟩
theorem EY:BS prog 50 49 3 1 [.int .i64 0,.string ⟨#[]⟩,.string ⟨#[]⟩]:=⟨underlying50,sizeOf49,by decide,by decide,_,zeroValue49,by kernel_rfl⟩
theorem rM:BS prog 65 115 6 1 [.int .i64 0,.string ⟨#[]⟩,.bool false,.int .i64 0,.slice none 0 0,.slice none 0 0]:=⟨underlying65,sizeOf115,by decide,by decide,_,zeroValue115,by kernel_rfl⟩
theorem Kn:BS prog 82 81 4 1 [.bool false,.bool false,.int .i64 0,.int .i64 0]:=⟨underlying82,sizeOf81,by decide,by decide,_,zeroValue81,by kernel_rfl⟩
theorem js:BS prog 113 9 1 1 [.string ⟨#[]⟩]:=⟨underlying113,sizeOf9,by decide,by decide,_,zeroValue9,by kernel_rfl⟩
theorem GO:BS prog 157 160 4 1 [.int .i64 0,.string ⟨#[]⟩,.int .i64 0,.string ⟨#[]⟩]:=⟨underlying157,sizeOf160,by decide,by decide,_,zeroValue160,by kernel_rfl⟩
theorem Ko:BS prog 113 9 1 10 [.string ⟨#[]⟩,.string ⟨#[]⟩,.string ⟨#[]⟩,.string ⟨#[]⟩,.string ⟨#[]⟩,.string ⟨#[]⟩,.string ⟨#[]⟩,.string ⟨#[]⟩,.string ⟨#[]⟩,.string ⟨#[]⟩]:=⟨underlying113,sizeOf9,by decide,by decide,_,zeroValue9,by kernel_rfl⟩
theorem RO:BS prog 22 3 1 2 [.int .i64 0,.int .i64 0]:=⟨underlying22,sizeOf3,by decide,by decide,_,zeroValue3,by kernel_rfl⟩
theorem RP:BS prog 27 84 4 2 [.bool false,.slice none 0 0,.int .i64 0,.int .i64 0,.bool false,.slice none 0 0,.int .i64 0,.int .i64 0]:=⟨underlying27,sizeOf84,by decide,by decide,_,zeroValue84,by kernel_rfl⟩
theorem RQ:BS prog 82 81 4 2 [.bool false,.bool false,.int .i64 0,.int .i64 0,.bool false,.bool false,.int .i64 0,.int .i64 0]:=⟨underlying82,sizeOf81,by decide,by decide,_,zeroValue81,by kernel_rfl⟩
theorem RU:BS prog 22 3 1 6 [.int .i64 0,.int .i64 0,.int .i64 0,.int .i64 0,.int .i64 0,.int .i64 0]:=⟨underlying22,sizeOf3,by decide,by decide,_,zeroValue3,by kernel_rfl⟩
theorem Wt:BT prog 31 [.int .i64 0,.slice none 0 0,.slice none 0 0] [(0,1),(1,1),(2,1)]:=jx (fs:=[_,_,_]) zeroValue31 rfl underlying31 ⟨rfl,sizeOf3,rfl,sizeOf28,rfl,sizeOf29,trivial⟩
theorem Cd:BT prog 40 [.int .i64 0,.string ⟨#[]⟩] [(0,1),(1,1)]:=jx (fs:=[_,_]) zeroValue40 rfl underlying40 ⟨rfl,sizeOf3,rfl,sizeOf9,trivial⟩
theorem RV:BT prog 49 [.int .i64 0,.string ⟨#[]⟩,.string ⟨#[]⟩] [(0,2),(2,1)]:=jx (fs:=[_,_]) zeroValue49 rfl underlying49 ⟨rfl,sizeOf40,rfl,sizeOf9,trivial⟩
theorem acU:BT prog 55 [.slice none 0 0,.int .i64 0] [(0,1),(1,1)]:=jx (fs:=[_,_]) zeroValue55 rfl underlying55 ⟨rfl,sizeOf22,rfl,sizeOf3,trivial⟩
theorem acV:BT prog 74 [.slice none 0 0,.int .i64 0,.slice none 0 0,.slice none 0 0,.map none,.pointer none,.slice none 0 0] [(0,1),(1,3),(4,1),(5,1),(6,1)]:=jx (fs:=[_,_,_,_,_]) zeroValue74 rfl underlying74 ⟨rfl,sizeOf27,rfl,sizeOf31,rfl,sizeOf71,rfl,sizeOf72,rfl,sizeOf34,trivial⟩
theorem Nh:BT prog 78 [.int .i64 0,.string ⟨#[]⟩,.string ⟨#[]⟩,.int .i64 0] [(0,2),(2,1),(3,1)]:=jx (fs:=[_,_,_]) zeroValue78 rfl underlying78 ⟨rfl,sizeOf40,rfl,sizeOf9,rfl,sizeOf3,trivial⟩
theorem Kp:BT prog 81 [.bool false,.bool false,.int .i64 0,.int .i64 0] [(0,1),(1,1),(2,1),(3,1)]:=jx (fs:=[_,_,_,_]) zeroValue81 rfl underlying81 ⟨rfl,sizeOf4,rfl,sizeOf4,rfl,sizeOf3,rfl,sizeOf3,trivial⟩
theorem Ni:BT prog 84 [.bool false,.slice none 0 0,.int .i64 0,.int .i64 0] [(0,1),(1,1),(2,1),(3,1)]:=jx (fs:=[_,_,_,_]) zeroValue84 rfl underlying84 ⟨rfl,sizeOf4,rfl,sizeOf82,rfl,sizeOf3,rfl,sizeOf3,trivial⟩
theorem Nj:BT prog 88 [.int .i64 0,.string ⟨#[]⟩,.string ⟨#[]⟩,.slice none 0 0,.int .i64 0,.int .i64 0,.int .i64 0,.bool false] [(0,2),(2,1),(3,1),(4,1),(5,1),(6,1),(7,1)]:=jx (fs:=[_,_,_,_,_,_,_]) zeroValue88 rfl underlying88 ⟨rfl,sizeOf40,rfl,sizeOf9,rfl,sizeOf34,rfl,sizeOf3,rfl,sizeOf3,rfl,sizeOf3,rfl,sizeOf4,trivial⟩
theorem Wu:BT prog 95 [.slice none 0 0,.int .i64 0,.slice none 0 0,.slice none 0 0,.slice none 0 0,.slice none 0 0,.slice none 0 0] [(0,1),(1,3),(4,1),(5,1),(6,1)]:=jx (fs:=[_,_,_,_,_]) zeroValue95 rfl underlying95 ⟨rfl,sizeOf27,rfl,sizeOf31,rfl,sizeOf34,rfl,sizeOf65,rfl,sizeOf34,trivial⟩
theorem GP:BT prog 115 [.int .i64 0,.string ⟨#[]⟩,.bool false,.int .i64 0,.slice none 0 0,.slice none 0 0] [(0,2),(2,1),(3,1),(4,1),(5,1)]:=jx (fs:=[_,_,_,_,_]) zeroValue115 rfl underlying115 ⟨rfl,sizeOf40,rfl,sizeOf4,rfl,sizeOf3,rfl,sizeOf34,rfl,sizeOf113,trivial⟩
theorem Wv:BT prog 140 [.pointer none,.int .i64 0,.slice none 0 0,.slice none 0 0,.map none,.slice none 0 0,.int .i64 0] [(0,1),(1,3),(4,1),(5,1),(6,1)]:=jx (fs:=[_,_,_,_,_]) zeroValue140 rfl underlying140 ⟨rfl,sizeOf130,rfl,sizeOf31,rfl,sizeOf138,rfl,sizeOf34,rfl,sizeOf36,trivial⟩
theorem Ww:BT prog 147 [.slice none 0 0,.int .i64 0,.slice none 0 0,.slice none 0 0,.map none,.map none] [(0,1),(1,3),(4,1),(5,1)]:=jx (fs:=[_,_,_,_]) zeroValue147 rfl underlying147 ⟨rfl,sizeOf27,rfl,sizeOf31,rfl,sizeOf145,rfl,sizeOf138,trivial⟩
theorem mB:BT prog 152 [.bool false,.string ⟨#[]⟩,.int .i64 0,.string ⟨#[]⟩] [(0,1),(1,1),(2,2)]:=jx (fs:=[_,_,_]) zeroValue152 rfl underlying152 ⟨rfl,sizeOf4,rfl,sizeOf9,rfl,sizeOf40,trivial⟩
theorem O1:BT prog 160 [.int .i64 0,.string ⟨#[]⟩,.int .i64 0,.string ⟨#[]⟩] [(0,2),(2,2)]:=jx (fs:=[_,_]) zeroValue160 rfl underlying160 ⟨rfl,sizeOf40,rfl,sizeOf40,trivial⟩
theorem Wx:BT prog 176 [.slice none 0 0,.int .i64 0,.slice none 0 0,.slice none 0 0,.map none,.map none] [(0,1),(1,3),(4,1),(5,1)]:=jx (fs:=[_,_,_,_]) zeroValue176 rfl underlying176 ⟨rfl,sizeOf27,rfl,sizeOf31,rfl,sizeOf145,rfl,sizeOf174,trivial⟩
theorem GQ:BT prog 268 [.string ⟨#[]⟩,.string ⟨#[]⟩,.nilIface] [(0,1),(1,1),(2,1)]:=jx (fs:=[_,_,_]) zeroValue268 rfl underlying268 ⟨rfl,sizeOf9,rfl,sizeOf9,rfl,sizeOf184,trivial⟩
theorem cZ:KK prog 40 Key.val:=Qq underlying40 fI (Hf underlying40 rfl rfl rfl rfl underlying3 underlying9 isAgg3 isAgg9)
theorem zl:∃ms,prog.underlying 184=some (.interface ms):=⟨_,underlying184⟩
theorem aP:One prog 3:=isAgg3
theorem dH:One prog 4:=isAgg4
theorem fy:One prog 9:=isAgg9
theorem O2:One prog 22:=isAgg22
theorem jD:One prog 27:=isAgg27
theorem i7:One prog 28:=isAgg28
theorem dD:One prog 29:=isAgg29
theorem dE:One prog 34:=isAgg34
theorem ya:One prog 36:=isAgg36
theorem Kq:One prog 63:=isAgg63
theorem Ce:One prog 65:=isAgg65
theorem fX:One prog 71:=isAgg71
theorem yb:One prog 72:=isAgg72
theorem kx:One prog 82:=isAgg82
theorem rO:One prog 113:=isAgg113
theorem EZ:One prog 130:=isAgg130
theorem nJ:One prog 138:=isAgg138
theorem gK:One prog 145:=isAgg145
theorem zm:One prog 184:=isAgg184
theorem E0:wm prog 22 3 1:=⟨underlying22,sizeOf3⟩
theorem jk:wm prog 27 84 4:=⟨underlying27,sizeOf84⟩
theorem qv:wm prog 28 78 4:=⟨underlying28,sizeOf78⟩
theorem iG:wm prog 29 88 8:=⟨underlying29,sizeOf88⟩
theorem eA:wm prog 34 40 2:=⟨underlying34,sizeOf40⟩
theorem HU:wm prog 50 49 3:=⟨underlying50,sizeOf49⟩
theorem mN:wm prog 65 115 6:=⟨underlying65,sizeOf115⟩
theorem wI:wm prog 82 81 4:=⟨underlying82,sizeOf81⟩
theorem oK:wm prog 113 9 1:=⟨underlying113,sizeOf9⟩
theorem GR:wm prog 157 160 4:=⟨underlying157,sizeOf160⟩
theorem O3:wm prog 211 5 1:=⟨underlying211,sizeOf5⟩
theorem acW:∀w,(sizeOf 40).run prog w=.ok 2 w:=sizeOf40
theorem acX:∀w,(sizeOf 78).run prog w=.ok 4 w:=sizeOf78
theorem acY:∀w,(sizeOf 88).run prog w=.ok 8 w:=sizeOf88
theorem GS:(prog.info? 3).map (·.size)=some 1:=by kernel_rfl
theorem O4:(prog.info? 4).map (·.size)=some 1:=by kernel_rfl
theorem acZ:(prog.info? 28).map (·.size)=some 1:=by kernel_rfl
theorem ac0:(prog.info? 29).map (·.size)=some 1:=by kernel_rfl
theorem dN:(prog.info? 31).map (·.size)=some 3:=by kernel_rfl
theorem RW:(prog.info? 34).map (·.size)=some 1:=by kernel_rfl
theorem ac1:(prog.info? 36).map (·.size)=some 1:=by kernel_rfl
theorem hP:(prog.info? 40).map (·.size)=some 2:=by kernel_rfl
theorem Kr:(prog.info? 49).map (·.size)=some 3:=by kernel_rfl
theorem ac2:(prog.info? 65).map (·.size)=some 1:=by kernel_rfl
theorem zn:(prog.info? 78).map (·.size)=some 4:=by kernel_rfl
theorem E1:(prog.info? 81).map (·.size)=some 4:=by kernel_rfl
theorem ac3:(prog.info? 82).map (·.size)=some 1:=by kernel_rfl
theorem E4:(prog.info? 84).map (·.size)=some 4:=by kernel_rfl
theorem fY:(prog.info? 88).map (·.size)=some 8:=by kernel_rfl
theorem nK:(prog.info? 95).map (·.size)=some 7:=by kernel_rfl
theorem Ks:(prog.info? 113).map (·.size)=some 1:=by kernel_rfl
theorem GU:(prog.info? 115).map (·.size)=some 6:=by kernel_rfl
theorem Wz:(prog.info? 145).map (·.size)=some 1:=by kernel_rfl
theorem gE:(prog.info? 152).map (·.size)=some 4:=by kernel_rfl
theorem Kt:(prog.info? 160).map (·.size)=some 4:=by kernel_rfl
theorem ac4:prog.underlying 3=some (.int .i64):=underlying3
theorem ac5:prog.underlying 4=some (.bool):=underlying4
theorem ac6:prog.underlying 5=some (.int .u8):=underlying5
theorem rP:prog.underlying 9=some (.string):=underlying9
theorem O5:prog.underlying 28=some (.slice 78):=underlying28
theorem O6:prog.underlying 29=some (.slice 88):=underlying29
theorem O7:prog.underlying 34=some (.slice 40):=underlying34
theorem fZ:prog.underlying 71=some (.map 40 109):=underlying71
theorem RX:prog.underlying 109=some (.pointer 88):=underlying109
theorem gL:prog.underlying 138=some (.map 40 4):=underlying138
theorem dY:prog.underlying 145=some (.map 40 9):=underlying145
theorem Ku:prog.underlying 174=some (.map 40 34):=underlying174
theorem zv4:ZV prog 4 [.bool false]:=⟨_,zeroValue4,rfl⟩
theorem RY:ZV prog 31 [.int .i64 0,.slice none 0 0,.slice none 0 0]:=⟨_,zeroValue31,rfl⟩
theorem ac7:ZV prog 34 [.slice none 0 0]:=⟨_,zeroValue34,rfl⟩
theorem E7:ZV prog 40 [.int .i64 0,.string ⟨#[]⟩]:=⟨_,zeroValue40,rfl⟩
theorem ac8:ZV prog 49 [.int .i64 0,.string ⟨#[]⟩,.string ⟨#[]⟩]:=⟨_,zeroValue49,rfl⟩
theorem Nk:ZV prog 78 [.int .i64 0,.string ⟨#[]⟩,.string ⟨#[]⟩,.int .i64 0]:=⟨_,zeroValue78,rfl⟩
theorem RZ:ZV prog 81 [.bool false,.bool false,.int .i64 0,.int .i64 0]:=⟨_,zeroValue81,rfl⟩
theorem Nl:ZV prog 84 [.bool false,.slice none 0 0,.int .i64 0,.int .i64 0]:=⟨_,zeroValue84,rfl⟩
theorem nL:ZV prog 88 [.int .i64 0,.string ⟨#[]⟩,.string ⟨#[]⟩,.slice none 0 0,.int .i64 0,.int .i64 0,.int .i64 0,.bool false]:=⟨_,zeroValue88,rfl⟩
theorem WA:ZV prog 95 [.slice none 0 0,.int .i64 0,.slice none 0 0,.slice none 0 0,.slice none 0 0,.slice none 0 0,.slice none 0 0]:=⟨_,zeroValue95,rfl⟩
theorem O8:ZV prog 115 [.int .i64 0,.string ⟨#[]⟩,.bool false,.int .i64 0,.slice none 0 0,.slice none 0 0]:=⟨_,zeroValue115,rfl⟩
theorem WE:ZV prog 145 [.map none]:=⟨_,zeroValue145,rfl⟩
theorem oL:ZV prog 152 [.bool false,.string ⟨#[]⟩,.int .i64 0,.string ⟨#[]⟩]:=⟨_,zeroValue152,rfl⟩
theorem WG:ZV prog 160 [.int .i64 0,.string ⟨#[]⟩,.int .i64 0,.string ⟨#[]⟩]:=⟨_,zeroValue160,rfl⟩
theorem Cf:∀w,(zeroValue 4).run prog w=.ok (.bool false) w:=zeroValue4
theorem l9:∀w,(zeroValue 9).run prog w=.ok (.string ⟨#[]⟩) w:=zeroValue9
theorem O9:∀w,(zeroValue 34).run prog w=.ok (.slice none 0 0) w:=zeroValue34
theorem fh:∀w,(zeroValue 109).run prog w=.ok (.pointer none) w:=zeroValue109
theorem kY:FA prog 31 0 0:=cw underlying31 rfl sizeOf3 (by decide) rfl
theorem uY:FA prog 31 1 1:=cw underlying31 rfl sizeOf28 (by decide) rfl
theorem rQ:FA prog 31 2 2:=cw underlying31 rfl sizeOf29 (by decide) rfl
theorem dF:FA prog 40 0 0:=cw underlying40 rfl sizeOf3 (by decide) rfl
theorem py:FA prog 40 1 1:=cw underlying40 rfl sizeOf9 (by decide) rfl
theorem R0:FA prog 49 0 0:=cw underlying49 rfl sizeOf40 (by decide) rfl
theorem R1:FA prog 49 1 2:=cw underlying49 rfl sizeOf9 (by decide) rfl
theorem Kv:FA prog 55 0 0:=cw underlying55 rfl sizeOf22 (by decide) rfl
theorem zo:FA prog 55 1 1:=cw underlying55 rfl sizeOf3 (by decide) rfl
theorem R2:FA prog 74 0 0:=cw underlying74 rfl sizeOf27 (by decide) rfl
theorem R3:FA prog 74 1 1:=cw underlying74 rfl sizeOf31 (by decide) rfl
theorem R4:FA prog 74 2 4:=cw underlying74 rfl sizeOf71 (by decide) rfl
theorem R5:FA prog 74 3 5:=cw underlying74 rfl sizeOf72 (by decide) rfl
theorem R6:FA prog 74 4 6:=cw underlying74 rfl sizeOf34 (by decide) rfl
theorem rR:FA prog 78 0 0:=cw underlying78 rfl sizeOf40 (by decide) rfl
theorem E8:FA prog 78 1 2:=cw underlying78 rfl sizeOf9 (by decide) rfl
theorem uZ:FA prog 78 2 3:=cw underlying78 rfl sizeOf3 (by decide) rfl
theorem zq:FA prog 81 0 0:=cw underlying81 rfl sizeOf4 (by decide) rfl
theorem u2:FA prog 81 1 1:=cw underlying81 rfl sizeOf4 (by decide) rfl
theorem E9:FA prog 81 2 2:=cw underlying81 rfl sizeOf3 (by decide) rfl
theorem u4:FA prog 81 3 3:=cw underlying81 rfl sizeOf3 (by decide) rfl
theorem ky:FA prog 84 0 0:=cw underlying84 rfl sizeOf4 (by decide) rfl
theorem rS:FA prog 84 1 1:=cw underlying84 rfl sizeOf82 (by decide) rfl
theorem pz:FA prog 84 2 2:=cw underlying84 rfl sizeOf3 (by decide) rfl
theorem kZ:FA prog 84 3 3:=cw underlying84 rfl sizeOf3 (by decide) rfl
theorem pA:FA prog 88 0 0:=cw underlying88 rfl sizeOf40 (by decide) rfl
theorem u5:FA prog 88 1 2:=cw underlying88 rfl sizeOf9 (by decide) rfl
theorem zs:FA prog 88 2 3:=cw underlying88 rfl sizeOf34 (by decide) rfl
theorem u6:FA prog 88 3 4:=cw underlying88 rfl sizeOf3 (by decide) rfl
theorem pB:FA prog 88 4 5:=cw underlying88 rfl sizeOf3 (by decide) rfl
theorem Fa:FA prog 88 5 6:=cw underlying88 rfl sizeOf3 (by decide) rfl
theorem Fb:FA prog 88 6 7:=cw underlying88 rfl sizeOf4 (by decide) rfl
theorem R7:FA prog 95 0 0:=cw underlying95 rfl sizeOf27 (by decide) rfl
theorem R8:FA prog 95 1 1:=cw underlying95 rfl sizeOf31 (by decide) rfl
theorem R9:FA prog 95 2 4:=cw underlying95 rfl sizeOf34 (by decide) rfl
theorem Sa:FA prog 95 3 5:=cw underlying95 rfl sizeOf65 (by decide) rfl
theorem Sb:FA prog 95 4 6:=cw underlying95 rfl sizeOf34 (by decide) rfl
theorem GV:FA prog 115 0 0:=cw underlying115 rfl sizeOf40 (by decide) rfl
theorem Nn:FA prog 115 1 2:=cw underlying115 rfl sizeOf4 (by decide) rfl
theorem Np:FA prog 115 2 3:=cw underlying115 rfl sizeOf3 (by decide) rfl
theorem Nq:FA prog 115 3 4:=cw underlying115 rfl sizeOf34 (by decide) rfl
theorem Nr:FA prog 115 4 5:=cw underlying115 rfl sizeOf113 (by decide) rfl
theorem Ns:FA prog 140 0 0:=cw underlying140 rfl sizeOf130 (by decide) rfl
theorem Nt:FA prog 140 1 1:=cw underlying140 rfl sizeOf31 (by decide) rfl
theorem Nu:FA prog 140 2 4:=cw underlying140 rfl sizeOf138 (by decide) rfl
theorem Nv:FA prog 140 3 5:=cw underlying140 rfl sizeOf34 (by decide) rfl
theorem Nw:FA prog 140 4 6:=cw underlying140 rfl sizeOf36 (by decide) rfl
theorem Nx:FA prog 147 0 0:=cw underlying147 rfl sizeOf27 (by decide) rfl
theorem Ny:FA prog 147 1 1:=cw underlying147 rfl sizeOf31 (by decide) rfl
theorem Nz:FA prog 147 2 4:=cw underlying147 rfl sizeOf145 (by decide) rfl
theorem NB:FA prog 147 3 5:=cw underlying147 rfl sizeOf138 (by decide) rfl
theorem NC:FA prog 152 0 0:=cw underlying152 rfl sizeOf4 (by decide) rfl
theorem ND:FA prog 152 1 1:=cw underlying152 rfl sizeOf9 (by decide) rfl
theorem NF:FA prog 152 2 2:=cw underlying152 rfl sizeOf40 (by decide) rfl
theorem NG:FA prog 160 0 0:=cw underlying160 rfl sizeOf40 (by decide) rfl
theorem NH:FA prog 160 1 2:=cw underlying160 rfl sizeOf40 (by decide) rfl
theorem NI:FA prog 176 0 0:=cw underlying176 rfl sizeOf27 (by decide) rfl
theorem NJ:FA prog 176 1 1:=cw underlying176 rfl sizeOf31 (by decide) rfl
theorem NK:FA prog 176 2 4:=cw underlying176 rfl sizeOf145 (by decide) rfl
instance:Jf prog 113 9 1 16:=⟨Cc⟩
instance:Jf prog 157 160 4 48:=⟨Ws⟩
instance:Jf prog 22 3 1 8:=⟨acP⟩
instance:Jf prog 27 84 4 48:=⟨acQ⟩
instance:Jf prog 28 78 4 48:=⟨acR⟩
instance:Jf prog 29 88 8 96:=⟨RM⟩
instance:Jf prog 34 40 2 24:=⟨lN⟩
instance:Jf prog 50 49 3 40:=⟨acS⟩
instance:Jf prog 65 115 6 88:=⟨RN⟩
instance:Jf prog 82 81 4 24:=⟨acT⟩
instance:UL prog 40 [.int .i64 0,.string ⟨#[]⟩] [(0,1),(1,1)]:=⟨Cd⟩
instance:UL prog 78 [.int .i64 0,.string ⟨#[]⟩,.string ⟨#[]⟩,.int .i64 0] [(0,2),(2,1),(3,1)]:=⟨Nh⟩
instance:UL prog 88 [.int .i64 0,.string ⟨#[]⟩,.string ⟨#[]⟩,.slice none 0 0,.int .i64 0,.int .i64 0,.int .i64 0,.bool false] [(0,2),(2,1),(3,1),(4,1),(5,1),(6,1),(7,1)]:=⟨Nj⟩
instance:iJ prog 115 0 0:=⟨GV⟩
instance:iJ prog 115 1 2:=⟨Nn⟩
instance:iJ prog 115 2 3:=⟨Np⟩
instance:iJ prog 115 3 4:=⟨Nq⟩
instance:iJ prog 115 4 5:=⟨Nr⟩
instance:iJ prog 140 0 0:=⟨Ns⟩
instance:iJ prog 140 1 1:=⟨Nt⟩
instance:iJ prog 140 2 4:=⟨Nu⟩
instance:iJ prog 140 3 5:=⟨Nv⟩
instance:iJ prog 140 4 6:=⟨Nw⟩
instance:iJ prog 147 0 0:=⟨Nx⟩
instance:iJ prog 147 1 1:=⟨Ny⟩
instance:iJ prog 147 2 4:=⟨Nz⟩
instance:iJ prog 147 3 5:=⟨NB⟩
instance:iJ prog 152 0 0:=⟨NC⟩
instance:iJ prog 152 1 1:=⟨ND⟩
instance:iJ prog 152 2 2:=⟨NF⟩
instance:iJ prog 160 0 0:=⟨NG⟩
instance:iJ prog 160 1 2:=⟨NH⟩
instance:iJ prog 176 0 0:=⟨NI⟩
instance:iJ prog 176 1 1:=⟨NJ⟩
instance:iJ prog 176 2 4:=⟨NK⟩
instance:iJ prog 31 0 0:=⟨kY⟩
instance:iJ prog 31 1 1:=⟨uY⟩
instance:iJ prog 31 2 2:=⟨rQ⟩
instance:iJ prog 40 0 0:=⟨dF⟩
instance:iJ prog 40 1 1:=⟨py⟩
instance:iJ prog 49 0 0:=⟨R0⟩
instance:iJ prog 49 1 2:=⟨R1⟩
instance:iJ prog 74 0 0:=⟨R2⟩
instance:iJ prog 74 1 1:=⟨R3⟩
instance:iJ prog 74 2 4:=⟨R4⟩
instance:iJ prog 74 3 5:=⟨R5⟩
instance:iJ prog 74 4 6:=⟨R6⟩
instance:iJ prog 78 0 0:=⟨rR⟩
instance:iJ prog 78 1 2:=⟨E8⟩
instance:iJ prog 78 2 3:=⟨uZ⟩
instance:iJ prog 81 0 0:=⟨zq⟩
instance:iJ prog 81 1 1:=⟨u2⟩
instance:iJ prog 81 2 2:=⟨E9⟩
instance:iJ prog 81 3 3:=⟨u4⟩
instance:iJ prog 84 0 0:=⟨ky⟩
instance:iJ prog 84 1 1:=⟨rS⟩
instance:iJ prog 84 2 2:=⟨pz⟩
instance:iJ prog 84 3 3:=⟨kZ⟩
instance:iJ prog 88 0 0:=⟨pA⟩
instance:iJ prog 88 1 2:=⟨u5⟩
instance:iJ prog 88 2 3:=⟨zs⟩
instance:iJ prog 88 3 4:=⟨u6⟩
instance:iJ prog 88 4 5:=⟨pB⟩
instance:iJ prog 88 5 6:=⟨Fa⟩
instance:iJ prog 88 6 7:=⟨Fb⟩
instance:iJ prog 95 0 0:=⟨R7⟩
instance:iJ prog 95 1 1:=⟨R8⟩
instance:iJ prog 95 2 4:=⟨R9⟩
instance:iJ prog 95 3 5:=⟨Sa⟩
instance:iJ prog 95 4 6:=⟨Sb⟩
instance:D1 prog 40:=⟨fI⟩
instance:Gh prog 113 9 1:=⟨oK⟩
instance:Gh prog 157 160 4:=⟨GR⟩
instance:Gh prog 211 5 1:=⟨O3⟩
instance:Gh prog 22 3 1:=⟨E0⟩
instance:Gh prog 27 84 4:=⟨jk⟩
instance:Gh prog 28 78 4:=⟨qv⟩
instance:Gh prog 29 88 8:=⟨iG⟩
instance:Gh prog 34 40 2:=⟨eA⟩
instance:Gh prog 50 49 3:=⟨HU⟩
instance:Gh prog 65 115 6:=⟨mN⟩
instance:Gh prog 82 81 4:=⟨wI⟩
instance:IA prog 113 1:=⟨Ks⟩
instance:IA prog 145 1:=⟨Wz⟩
instance:IA prog 28 1:=⟨acZ⟩
instance:IA prog 29 1:=⟨ac0⟩
instance:IA prog 3 1:=⟨GS⟩
instance:IA prog 34 1:=⟨RW⟩
instance:IA prog 36 1:=⟨ac1⟩
instance:IA prog 4 1:=⟨O4⟩
instance:IA prog 65 1:=⟨ac2⟩
instance:IA prog 82 1:=⟨ac3⟩
instance:nb prog 109 (.pointer 88):=⟨RX⟩
instance:nb prog 28 (.slice 78):=⟨O5⟩
instance:nb prog 29 (.slice 88):=⟨O6⟩
instance:nb prog 34 (.slice 40):=⟨O7⟩
instance:nb prog 9 (.string):=⟨rP⟩
instance:D2 prog 115 [.int .i64 0,.string ⟨#[]⟩,.bool false,.int .i64 0,.slice none 0 0,.slice none 0 0]:=⟨O8⟩
instance:D2 prog 152 [.bool false,.string ⟨#[]⟩,.int .i64 0,.string ⟨#[]⟩]:=⟨oL⟩
instance:D2 prog 160 [.int .i64 0,.string ⟨#[]⟩,.int .i64 0,.string ⟨#[]⟩]:=⟨WG⟩
instance:D2 prog 31 [.int .i64 0,.slice none 0 0,.slice none 0 0]:=⟨RY⟩
instance:D2 prog 34 [.slice none 0 0]:=⟨ac7⟩
instance:D2 prog 4 [.bool false]:=⟨zv4⟩
instance:D2 prog 40 [.int .i64 0,.string ⟨#[]⟩]:=⟨E7⟩
instance:D2 prog 49 [.int .i64 0,.string ⟨#[]⟩,.string ⟨#[]⟩]:=⟨ac8⟩
instance:D2 prog 78 [.int .i64 0,.string ⟨#[]⟩,.string ⟨#[]⟩,.int .i64 0]:=⟨Nk⟩
instance:D2 prog 81 [.bool false,.bool false,.int .i64 0,.int .i64 0]:=⟨RZ⟩
instance:D2 prog 84 [.bool false,.slice none 0 0,.int .i64 0,.int .i64 0]:=⟨Nl⟩
instance:D2 prog 88 [.int .i64 0,.string ⟨#[]⟩,.string ⟨#[]⟩,.slice none 0 0,.int .i64 0,.int .i64 0,.int .i64 0,.bool false]:=⟨nL⟩
instance:D2 prog 95 [.slice none 0 0,.int .i64 0,.slice none 0 0,.slice none 0 0,.slice none 0 0,.slice none 0 0,.slice none 0 0]:=⟨WA⟩
theorem cf5:CF prog 5:=call5
theorem cf6:CF prog 6:=call6
theorem cf7:CF prog 7:=call7
theorem cf8:CF prog 8:=call8
theorem cf9:CF prog 9:=call9
theorem NL:CF prog 10:=call10
theorem NN:CF prog 11:=call11
theorem ada:CF prog 12:=call12
theorem adb:CF prog 13:=call13
theorem Sc:CF prog 14:=call14
theorem ade:CF prog 15:=call15
theorem NQ:CF prog 16:=call16
theorem zt:CF prog 17:=call17
theorem adf:CF prog 18:=call18
theorem adg:CF prog 19:=call19
theorem WJ:CF prog 20:=call20
theorem adh:CF prog 21:=call21
theorem jE:CF prog 22:=call22
theorem adi:CF prog 23:=call23
theorem adj:CF prog 24:=call24
theorem adk:CF prog 25:=call25
theorem adl:CF prog 26:=call26
theorem adm:CF prog 27:=call27
theorem adn:CF prog 28:=call28
theorem ado:CF prog 29:=call29
theorem adp:CF prog 30:=call30
theorem WM:CF prog 31:=call31
theorem NR:CF prog 32:=call32
theorem adq:CF prog 33:=call33
theorem Sd:CF prog 34:=call34
theorem zv:CF prog 35:=call35
theorem Se:CF prog 36:=call36
theorem Kw:CF prog 37:=call37
theorem HV:CF prog 38:=call38
theorem WN:CF prog 39:=call39
theorem adr:CF prog 40:=call40
theorem ads:CF prog 41:=call41
theorem adt:CF prog 42:=call42
theorem WQ:CF prog 43:=call43
theorem adu:CF prog 44:=call44
theorem adw:CF prog 45:=call45
theorem adx:CF prog 46:=call46
theorem ady:CF prog 47:=call47
theorem adz:CF prog 48:=call48
theorem adA:CF prog 49:=call49
theorem adB:CF prog 50:=call50
theorem adC:CF prog 51:=call51
theorem adD:CF prog 52:=call52
theorem adE:CF prog 53:=call53
theorem adF:CF prog 54:=call54
theorem adG:CF prog 55:=call55
theorem WR:CF prog 56:=call56
theorem adH:CF prog 57:=call57
theorem adI:CF prog 58:=call58
theorem adJ:CF prog 59:=call59
theorem Sf:CF prog 60:=call60
theorem adK:CF prog 61:=call61
theorem adL:CF prog 62:=call62
theorem Sg:CF prog 63:=call63
theorem adM:CF prog 64:=call64
theorem WS:CF prog 66:=call66
theorem Kx:CF prog 67:=call67
theorem WT:CF prog 68:=call68
theorem adN:CF prog 69:=call69
theorem adO:CF prog 71:=call71
theorem WV:CF prog 72:=call72
theorem adP:CF prog 73:=call73
theorem adQ:CF prog 74:=call74
theorem NS:CF prog 75:=call75
theorem WW:CF prog 76:=call76
theorem Sh:CF prog 77:=call77
theorem WX:CF prog 78:=call78
theorem adR:CF prog 79:=call79
theorem adS:CF prog 80:=call80
theorem Si:CF prog 81:=call81
theorem Sj:CF prog 82:=call82
theorem adT:CF prog 83:=call83
theorem WY:CF prog 84:=call84
theorem adU:CF prog 85:=call85
theorem HW:CF prog 86:=call86
theorem WZ:CF prog 87:=call87
theorem adV:CF prog 88:=call88
theorem adW:CF prog 89:=call89
theorem adX:CF prog 90:=call90
theorem Sk:CF prog 91:=call91
theorem adY:CF prog 92:=call92
theorem adZ:CF prog 93:=call93
theorem ad0:CF prog 94:=call94
theorem ad1:CF prog 95:=call95
theorem ad2:CF prog 96:=call96
theorem Sl:CF prog 97:=call97
theorem ad3:CF prog 98:=call98
theorem ad4:CF prog 99:=call99
theorem W0:CF prog 100:=call100
theorem W1:CF prog 101:=call101
theorem W2:CF prog 102:=call102
theorem W3:CF prog 103:=call103
theorem W4:CF prog 104:=call104
theorem W5:CF prog 105:=call105
theorem W6:CF prog 106:=call106
theorem Pa:CF prog 107:=call107
theorem W7:CF prog 108:=call108
theorem W8:CF prog 109:=call109
theorem W9:CF prog 110:=call110
theorem Xa:CF prog 111:=call111
theorem Xb:CF prog 112:=call112
theorem Xc:CF prog 113:=call113
theorem Xd:CF prog 114:=call114
theorem Xe:CF prog 115:=call115
theorem Xf:CF prog 116:=call116
theorem Xg:CF prog 117:=call117
theorem GW:CF prog 120:=call120
theorem Xh:CF prog 121:=call121
theorem Pb:CF prog 122:=call122
theorem Xi:CF prog 123:=call123
theorem Xj:CF prog 124:=call124
theorem Xk:CF prog 125:=call125
theorem Xl:CF prog 126:=call126
theorem Xm:CF prog 127:=call127
theorem Pc:CF prog 128:=call128
theorem Xn:CF prog 129:=call129
theorem Pd:CF prog 130:=call130
theorem Xo:CF prog 131:=call131
theorem Xp:CF prog 132:=call132
theorem Xq:CF prog 133:=call133
theorem Pe:CF prog 134:=call134
theorem kN:CF prog 135:=call135
theorem Xr:CF prog 136:=call136
theorem Xs:CF prog 137:=call137
theorem Xt:CF prog 138:=call138
theorem Xu:CF prog 139:=call139
theorem Pf:CF prog 140:=call140
theorem Xv:CF prog 141:=call141
theorem Pg:CF prog 142:=call142
theorem Xw:CF prog 143:=call143
theorem Xx:CF prog 145:=call145
theorem GX:CF prog 147:=call147
theorem Xy:CF prog 148:=call148
theorem Xz:CF prog 149:=call149
theorem XA:CF prog 150:=call150
theorem XB:CF prog 151:=call151
theorem XC:CF prog 152:=call152
theorem XD:CF prog 153:=call153
theorem XE:CF prog 162:=call162
theorem XF:CF prog 163:=call163
theorem XG:CF prog 164:=call164
theorem Ph:CF prog 177:=call177
theorem Pj:CF prog 178:=call178
theorem Pk:CF prog 179:=call179
theorem Ky:CF prog 180:=call180
theorem Pm:CF prog 181:=call181
theorem Pn:CF prog 182:=call182
theorem Po:CF prog 183:=call183
theorem XH:CF prog 184:=call184
theorem Pp:CF prog 185:=call185
theorem GY:CF prog 186:=call186
theorem XI:CF prog 187:=call187
theorem XJ:CF prog 188:=call188
theorem Pq:CF prog 189:=call189
theorem XK:CF prog 190:=call190
theorem XL:CF prog 191:=call191
theorem XM:CF prog 192:=call192
theorem XN:CF prog 193:=call193
theorem XO:CF prog 194:=call194
theorem XP:CF prog 195:=call195
theorem XQ:CF prog 196:=call196
theorem XR:CF prog 200:=call200
theorem Kz:CF prog 201:=call201
theorem XS:CF prog 202:=call202
theorem XT:CF prog 203:=call203
theorem XU:CF prog 216:=call216
theorem Pr:CF prog 217:=call217
theorem XV:CF prog 218:=call218
theorem GZ:CF prog 220:=call220
theorem XW:CF prog 221:=call221
theorem XX:CF prog 222:=call222
theorem XY:CF prog 224:=call224
theorem XZ:CF prog 225:=call225
theorem Pu:CF prog 243:=call243
theorem X0:CF prog 244:=call244
theorem X1:CF prog 249:=call249
theorem Pv:CF prog 250:=call250
theorem X2:CF prog 252:=call252
theorem X3:CF prog 254:=call254
theorem X4:CF prog 358:=call358
theorem X5:CF prog 560:=call560
instance:gG prog 5:=⟨cf5⟩
instance:gG prog 11:=⟨NN⟩
instance:gG prog 12:=⟨ada⟩
instance:gG prog 13:=⟨adb⟩
instance:gG prog 17:=⟨zt⟩
instance:gG prog 24:=⟨adj⟩
instance:gG prog 32:=⟨NR⟩
instance:gG prog 33:=⟨adq⟩
instance:gG prog 34:=⟨Sd⟩
instance:gG prog 37:=⟨Kw⟩
instance:gG prog 38:=⟨HV⟩
instance:gG prog 39:=⟨WN⟩
instance:gG prog 40:=⟨adr⟩
instance:gG prog 41:=⟨ads⟩
instance:gG prog 43:=⟨WQ⟩
instance:gG prog 51:=⟨adC⟩
instance:gG prog 52:=⟨adD⟩
instance:gG prog 53:=⟨adE⟩
instance:gG prog 55:=⟨adG⟩
instance:gG prog 59:=⟨adJ⟩
instance:gG prog 66:=⟨WS⟩
instance:gG prog 69:=⟨adN⟩
instance:gG prog 71:=⟨adO⟩
instance:gG prog 72:=⟨WV⟩
instance:gG prog 86:=⟨HW⟩
instance:gG prog 90:=⟨adX⟩
instance:gG prog 92:=⟨adY⟩
instance:gG prog 93:=⟨adZ⟩
instance:gG prog 94:=⟨ad0⟩
instance:gG prog 95:=⟨ad1⟩
instance:gG prog 97:=⟨Sl⟩
instance:gG prog 98:=⟨ad3⟩
instance:gG prog 99:=⟨ad4⟩
instance:gG prog 100:=⟨W0⟩
instance:gG prog 101:=⟨W1⟩
instance:gG prog 103:=⟨W3⟩
instance:gG prog 105:=⟨W5⟩
instance:gG prog 106:=⟨W6⟩
instance:gG prog 107:=⟨Pa⟩
instance:gG prog 113:=⟨Xc⟩
instance:gG prog 114:=⟨Xd⟩
instance:gG prog 115:=⟨Xe⟩
instance:gG prog 116:=⟨Xf⟩
instance:gG prog 117:=⟨Xg⟩
instance:gG prog 130:=⟨Pd⟩
instance:gG prog 134:=⟨Pe⟩
instance:gG prog 138:=⟨Xt⟩
instance:gG prog 139:=⟨Xu⟩
instance:gG prog 142:=⟨Pg⟩
instance:gG prog 145:=⟨Xx⟩
instance:gG prog 150:=⟨XA⟩
instance:gG prog 151:=⟨XB⟩
instance:gG prog 153:=⟨XD⟩
instance:gG prog 162:=⟨XE⟩
instance:gG prog 163:=⟨XF⟩
instance:gG prog 164:=⟨XG⟩
instance:gG prog 181:=⟨Pm⟩
instance:gG prog 183:=⟨Po⟩
instance:gG prog 184:=⟨XH⟩
instance:gG prog 188:=⟨XJ⟩
instance:gG prog 190:=⟨XK⟩
instance:gG prog 194:=⟨XO⟩
instance:gG prog 195:=⟨XP⟩
instance:gG prog 196:=⟨XQ⟩
instance:gG prog 201:=⟨Kz⟩
instance:gG prog 203:=⟨XT⟩
instance:gG prog 216:=⟨XU⟩
instance:gG prog 221:=⟨XW⟩
instance:gG prog 222:=⟨XX⟩
instance:gG prog 254:=⟨X3⟩
instance:gG prog 358:=⟨X4⟩
end Go.Rc

