/- Walks over the program, part Facts. Conditions: as each theorem says. -/
import Derived.Test.YtcongbofepbmeaaGreatDoorProg
import Derived.Test.YtcongbofepbmeaaGreatDoorFBd
set_option linter.all false
namespace Go.Rc
open Go Go.Proofs Go.Proofs.Tryz
theorem mixed:prog.follows .mixedOrders=true:=by kernel_rfl
theorem ft:Ff prog 29:=JN underlying29 rfl rfl rfl rfl (by decide) (by decide) underlying3 underlying9 isAgg3 isAgg9 (by kernel_rfl) (by kernel_rfl)
theorem aJ:rS prog 25 3:=⟨⟨_,underlying25⟩,by kernel_rfl⟩
theorem ak:rS prog 29 2:=⟨⟨_,underlying29⟩,by kernel_rfl⟩
theorem dA:rS prog 34 8:=⟨⟨_,underlying34⟩,by kernel_rfl⟩
theorem nY:rS prog 37 4:=⟨⟨_,underlying37⟩,by kernel_rfl⟩
theorem iT:rS prog 55 4:=⟨⟨_,underlying55⟩,by kernel_rfl⟩
theorem l6:rS prog 77 4:=⟨⟨_,underlying77⟩,by kernel_rfl⟩
theorem AJ:rS prog 87 3:=⟨⟨_,underlying87⟩,by kernel_rfl⟩
theorem lj:rS prog 90 4:=⟨⟨_,underlying90⟩,by kernel_rfl⟩
theorem fj:rS prog 95 7:=⟨⟨_,underlying95⟩,by kernel_rfl⟩
theorem qm:rS prog 145 6:=⟨⟨_,underlying145⟩,by kernel_rfl⟩
theorem H0:rS prog 403 4:=⟨⟨_,underlying403⟩,by kernel_rfl⟩
theorem Yu:AP prog 22 90 4 48:=nS (z:=.agg #[.int .i64 0,.string ⟨#[]⟩,.string ⟨#[]⟩,.int .i64 0]) underlying22 (by kernel_rfl) (by kernel_rfl) (by decide)
theorem OH:AP prog 23 34 8 96:=nS (z:=.agg #[.int .i64 0,.string ⟨#[]⟩,.string ⟨#[]⟩,.slice none 0 0,.int .i64 0,.int .i64 0,.int .i64 0,.bool false]) underlying23 (by kernel_rfl) (by kernel_rfl) (by decide)
theorem Yv:AP prog 26 37 4 48:=nS (z:=.agg #[.bool false,.slice none 0 0,.int .i64 0,.int .i64 0]) underlying26 (by kernel_rfl) (by kernel_rfl) (by decide)
theorem Yw:AP prog 27 3 1 8:=nS (z:=.int .i64 0) underlying27 (by kernel_rfl) (by kernel_rfl) (by decide)
theorem mP:AP prog 32 29 2 24:=nS (z:=.agg #[.int .i64 0,.string ⟨#[]⟩]) underlying32 (by kernel_rfl) (by kernel_rfl) (by decide)
theorem Yx:AP prog 35 77 4 24:=nS (z:=.agg #[.bool false,.bool false,.int .i64 0,.int .i64 0]) underlying35 (by kernel_rfl) (by kernel_rfl) (by decide)
theorem Yy:AP prog 64 87 3 40:=nS (z:=.agg #[.int .i64 0,.string ⟨#[]⟩,.string ⟨#[]⟩]) underlying64 (by kernel_rfl) (by kernel_rfl) (by decide)
theorem H2:AP prog 79 9 1 16:=nS (z:=.string ⟨#[]⟩) underlying79 (by kernel_rfl) (by kernel_rfl) (by decide)
theorem OI:AP prog 93 145 6 88:=nS (z:=.agg #[.int .i64 0,.string ⟨#[]⟩,.bool false,.int .i64 0,.slice none 0 0,.slice none 0 0]) underlying93 (by kernel_rfl) (by kernel_rfl) (by decide)
theorem S1:AP prog 392 403 4 48:=nS (z:=.agg #[.int .i64 0,.string ⟨#[]⟩,.int .i64 0,.string ⟨#[]⟩]) underlying392 (by kernel_rfl) (by kernel_rfl) (by decide)
theorem Dc:BS prog 22 90 4 1 [.int .i64 0,.string ⟨#[]⟩,.string ⟨#[]⟩,.int .i64 0]:=⟨underlying22,sizeOf90,by decide,by decide,_,zeroValue90,by kernel_rfl⟩
theorem oF:BS prog 23 34 8 1 [.int .i64 0,.string ⟨#[]⟩,.string ⟨#[]⟩,.slice none 0 0,.int .i64 0,.int .i64 0,.int .i64 0,.bool false]:=⟨underlying23,sizeOf34,by decide,by decide,_,zeroValue34,by kernel_rfl⟩
theorem H3:BS prog 26 37 4 1 [.bool false,.slice none 0 0,.int .i64 0,.int .i64 0]:=⟨underlying26,sizeOf37,by decide,by decide,_,zeroValue37,by kernel_rfl⟩
theorem H4:BS prog 27 3 1 1 [.int .i64 0]:=⟨underlying27,sizeOf3,by decide,by decide,_,zeroValue3,by kernel_rfl⟩
theorem dU:BS prog 32 29 2 1 [.int .i64 0,.string ⟨#[]⟩]:=⟨underlying32,sizeOf29,by decide,by decide,_,zeroValue29,by kernel_rfl⟩
theorem Dd:BS prog 35 77 4 1 [.bool false,.bool false,.int .i64 0,.int .i64 0]:=⟨underlying35,sizeOf77,by decide,by decide,_,zeroValue77,by kernel_rfl⟩
theorem OJ:BS prog 64 87 3 1 [.int .i64 0,.string ⟨#[]⟩,.string ⟨#[]⟩]:=⟨underlying64,sizeOf87,by decide,by decide,_,zeroValue87,by kernel_rfl⟩
theorem kH:BS prog 79 9 1 1 [.string ⟨#[]⟩]:=⟨underlying79,sizeOf9,by decide,by decide,_,zeroValue9,by kernel_rfl⟩
theorem ud:BS prog 93 145 6 1 [.int .i64 0,.string ⟨#[]⟩,.bool false,.int .i64 0,.slice none 0 0,.slice none 0 0]:=⟨underlying93,sizeOf145,by decide,by decide,_,zeroValue145,by kernel_rfl⟩
theorem Kx:BS prog 392 403 4 1 [.int .i64 0,.string ⟨#[]⟩,.int .i64 0,.string ⟨#[]⟩]:=⟨underlying392,sizeOf403,by decide,by decide,_,zeroValue403,by kernel_rfl⟩
theorem Ky:BS prog 79 9 1 10 [.string ⟨#[]⟩,.string ⟨#[]⟩,.string ⟨#[]⟩,.string ⟨#[]⟩,.string ⟨#[]⟩,.string ⟨#[]⟩,.string ⟨#[]⟩,.string ⟨#[]⟩,.string ⟨#[]⟩,.string ⟨#[]⟩]:=⟨underlying79,sizeOf9,by decide,by decide,_,zeroValue9,by kernel_rfl⟩
theorem OK:BS prog 26 37 4 2 [.bool false,.slice none 0 0,.int .i64 0,.int .i64 0,.bool false,.slice none 0 0,.int .i64 0,.int .i64 0]:=⟨underlying26,sizeOf37,by decide,by decide,_,zeroValue37,by kernel_rfl⟩
theorem OM:BS prog 27 3 1 2 [.int .i64 0,.int .i64 0]:=⟨underlying27,sizeOf3,by decide,by decide,_,zeroValue3,by kernel_rfl⟩
theorem OO:BS prog 32 29 2 4 [.int .i64 0,.string ⟨#[]⟩,.int .i64 0,.string ⟨#[]⟩,.int .i64 0,.string ⟨#[]⟩,.int .i64 0,.string ⟨#[]⟩]:=⟨underlying32,sizeOf29,by decide,by decide,_,zeroValue29,by kernel_rfl⟩
theorem OP:BS prog 27 3 1 6 [.int .i64 0,.int .i64 0,.int .i64 0,.int .i64 0,.int .i64 0,.int .i64 0]:=⟨underlying27,sizeOf3,by decide,by decide,_,zeroValue3,by kernel_rfl⟩
theorem Kz:BT prog 25 [.int .i64 0,.slice none 0 0,.slice none 0 0] [(0,1),(1,1),(2,1)]:=je (fs:=[_,_,_]) zeroValue25 rfl underlying25 ⟨rfl,sizeOf3,rfl,sizeOf22,rfl,sizeOf23,trivial⟩
theorem yk:BT prog 29 [.int .i64 0,.string ⟨#[]⟩] [(0,1),(1,1)]:=je (fs:=[_,_]) zeroValue29 rfl underlying29 ⟨rfl,sizeOf3,rfl,sizeOf9,trivial⟩
theorem S2:BT prog 34 [.int .i64 0,.string ⟨#[]⟩,.string ⟨#[]⟩,.slice none 0 0,.int .i64 0,.int .i64 0,.int .i64 0,.bool false] [(0,2),(2,1),(3,1),(4,1),(5,1),(6,1),(7,1)]:=je (fs:=[_,_,_,_,_,_,_]) zeroValue34 rfl underlying34 ⟨rfl,sizeOf29,rfl,sizeOf9,rfl,sizeOf32,rfl,sizeOf3,rfl,sizeOf3,rfl,sizeOf3,rfl,sizeOf4,trivial⟩
theorem KA:BT prog 37 [.bool false,.slice none 0 0,.int .i64 0,.int .i64 0] [(0,1),(1,1),(2,1),(3,1)]:=je (fs:=[_,_,_,_]) zeroValue37 rfl underlying37 ⟨rfl,sizeOf4,rfl,sizeOf35,rfl,sizeOf3,rfl,sizeOf3,trivial⟩
theorem pq:BT prog 55 [.bool false,.string ⟨#[]⟩,.int .i64 0,.string ⟨#[]⟩] [(0,1),(1,1),(2,2)]:=je (fs:=[_,_,_]) zeroValue55 rfl underlying55 ⟨rfl,sizeOf4,rfl,sizeOf9,rfl,sizeOf29,trivial⟩
theorem Yz:BT prog 60 [.slice none 0 0,.int .i64 0] [(0,1),(1,1)]:=je (fs:=[_,_]) zeroValue60 rfl underlying60 ⟨rfl,sizeOf27,rfl,sizeOf3,trivial⟩
theorem KB:BT prog 77 [.bool false,.bool false,.int .i64 0,.int .i64 0] [(0,1),(1,1),(2,1),(3,1)]:=je (fs:=[_,_,_,_]) zeroValue77 rfl underlying77 ⟨rfl,sizeOf4,rfl,sizeOf4,rfl,sizeOf3,rfl,sizeOf3,trivial⟩
theorem YA:BT prog 87 [.int .i64 0,.string ⟨#[]⟩,.string ⟨#[]⟩] [(0,2),(2,1)]:=je (fs:=[_,_]) zeroValue87 rfl underlying87 ⟨rfl,sizeOf29,rfl,sizeOf9,trivial⟩
theorem KC:BT prog 90 [.int .i64 0,.string ⟨#[]⟩,.string ⟨#[]⟩,.int .i64 0] [(0,2),(2,1),(3,1)]:=je (fs:=[_,_,_]) zeroValue90 rfl underlying90 ⟨rfl,sizeOf29,rfl,sizeOf9,rfl,sizeOf3,trivial⟩
theorem S3:BT prog 95 [.slice none 0 0,.int .i64 0,.slice none 0 0,.slice none 0 0,.slice none 0 0,.slice none 0 0,.slice none 0 0] [(0,1),(1,3),(4,1),(5,1),(6,1)]:=je (fs:=[_,_,_,_,_]) zeroValue95 rfl underlying95 ⟨rfl,sizeOf26,rfl,sizeOf25,rfl,sizeOf32,rfl,sizeOf93,rfl,sizeOf32,trivial⟩
theorem S4:BT prog 109 [.slice none 0 0,.int .i64 0,.slice none 0 0,.slice none 0 0,.map none,.map none] [(0,1),(1,3),(4,1),(5,1)]:=je (fs:=[_,_,_,_]) zeroValue109 rfl underlying109 ⟨rfl,sizeOf26,rfl,sizeOf25,rfl,sizeOf107,rfl,sizeOf73,trivial⟩
theorem S5:BT prog 116 [.slice none 0 0,.int .i64 0,.slice none 0 0,.slice none 0 0,.map none,.map none] [(0,1),(1,3),(4,1),(5,1)]:=je (fs:=[_,_,_,_]) zeroValue116 rfl underlying116 ⟨rfl,sizeOf26,rfl,sizeOf25,rfl,sizeOf107,rfl,sizeOf114,trivial⟩
theorem H5:BT prog 145 [.int .i64 0,.string ⟨#[]⟩,.bool false,.int .i64 0,.slice none 0 0,.slice none 0 0] [(0,2),(2,1),(3,1),(4,1),(5,1)]:=je (fs:=[_,_,_,_,_]) zeroValue145 rfl underlying145 ⟨rfl,sizeOf29,rfl,sizeOf4,rfl,sizeOf3,rfl,sizeOf32,rfl,sizeOf79,trivial⟩
theorem S6:BT prog 151 [.pointer none,.int .i64 0,.slice none 0 0,.slice none 0 0,.map none,.slice none 0 0,.int .i64 0] [(0,1),(1,3),(4,1),(5,1),(6,1)]:=je (fs:=[_,_,_,_,_]) zeroValue151 rfl underlying151 ⟨rfl,sizeOf70,rfl,sizeOf25,rfl,sizeOf73,rfl,sizeOf32,rfl,sizeOf46,trivial⟩
theorem S7:BT prog 403 [.int .i64 0,.string ⟨#[]⟩,.int .i64 0,.string ⟨#[]⟩] [(0,2),(2,2)]:=je (fs:=[_,_]) zeroValue403 rfl underlying403 ⟨rfl,sizeOf29,rfl,sizeOf29,trivial⟩
theorem EJ:BT prog 664 [.string ⟨#[]⟩,.string ⟨#[]⟩,.nilIface] [(0,1),(1,1),(2,1)]:=je (fs:=[_,_,_]) zeroValue664 rfl underlying664 ⟨rfl,sizeOf9,rfl,sizeOf9,rfl,sizeOf167,trivial⟩
theorem ec:KK prog 29 Key.val:=Nz underlying29 ft (Fk underlying29 rfl rfl rfl rfl underlying3 underlying9 isAgg3 isAgg9)
theorem ue:∃ms,prog.underlying 167=some (.interface ms):=⟨_,underlying167⟩
theorem aK:One prog 3:=isAgg3
theorem dM:One prog 4:=isAgg4
theorem eY:One prog 9:=isAgg9
theorem ji:One prog 22:=isAgg22
theorem dL:One prog 23:=isAgg23
theorem jT:One prog 26:=isAgg26
theorem Mj:One prog 27:=isAgg27
theorem eZ:One prog 32:=isAgg32
theorem ig:One prog 35:=isAgg35
theorem xt:One prog 46:=isAgg46
theorem EL:One prog 68:=isAgg68
theorem H6:One prog 70:=isAgg70
theorem rA:One prog 73:=isAgg73
theorem EM:One prog 79:=isAgg79
theorem AK:One prog 93:=isAgg93
theorem fG:One prog 107:=isAgg107
theorem De:One prog 114:=isAgg114
theorem yl:One prog 167:=isAgg167
theorem pr:wG prog 22 90 4:=⟨underlying22,sizeOf90⟩
theorem iy:wG prog 23 34 8:=⟨underlying23,sizeOf34⟩
theorem gZ:wG prog 26 37 4:=⟨underlying26,sizeOf37⟩
theorem Df:wG prog 27 3 1:=⟨underlying27,sizeOf3⟩
theorem eI:wG prog 32 29 2:=⟨underlying32,sizeOf29⟩
theorem uf:wG prog 35 77 4:=⟨underlying35,sizeOf77⟩
theorem Gb:wG prog 64 87 3:=⟨underlying64,sizeOf87⟩
theorem vL:wG prog 79 9 1:=⟨underlying79,sizeOf9⟩
theorem AL:wG prog 93 145 6:=⟨underlying93,sizeOf145⟩
theorem Mk:wG prog 156 5 1:=⟨underlying156,sizeOf5⟩
theorem H7:wG prog 392 403 4:=⟨underlying392,sizeOf403⟩
theorem YB:∀w,(sizeOf 29).run prog w=.ok 2 w:=sizeOf29
theorem Jr:(prog.info? 3).map (·.size)=some 1:=by kernel_rfl
theorem S8:(prog.info? 4).map (·.size)=some 1:=by kernel_rfl
theorem YC:(prog.info? 22).map (·.size)=some 1:=by kernel_rfl
theorem YD:(prog.info? 23).map (·.size)=some 1:=by kernel_rfl
theorem eJ:(prog.info? 25).map (·.size)=some 3:=by kernel_rfl
theorem gR:(prog.info? 29).map (·.size)=some 2:=by kernel_rfl
theorem S9:(prog.info? 32).map (·.size)=some 1:=by kernel_rfl
theorem gp:(prog.info? 34).map (·.size)=some 8:=by kernel_rfl
theorem YE:(prog.info? 35).map (·.size)=some 1:=by kernel_rfl
theorem ym:(prog.info? 37).map (·.size)=some 4:=by kernel_rfl
theorem YF:(prog.info? 46).map (·.size)=some 1:=by kernel_rfl
theorem hY:(prog.info? 55).map (·.size)=some 4:=by kernel_rfl
theorem AM:(prog.info? 77).map (·.size)=some 4:=by kernel_rfl
theorem Ta:(prog.info? 79).map (·.size)=some 1:=by kernel_rfl
theorem H8:(prog.info? 87).map (·.size)=some 3:=by kernel_rfl
theorem yn:(prog.info? 90).map (·.size)=some 4:=by kernel_rfl
theorem YG:(prog.info? 93).map (·.size)=some 1:=by kernel_rfl
theorem mQ:(prog.info? 95).map (·.size)=some 7:=by kernel_rfl
theorem Tb:(prog.info? 107).map (·.size)=some 1:=by kernel_rfl
theorem EN:(prog.info? 145).map (·.size)=some 6:=by kernel_rfl
theorem Ml:(prog.info? 403).map (·.size)=some 4:=by kernel_rfl
theorem YH:prog.underlying 3=some (.int .i64):=underlying3
theorem YI:prog.underlying 5=some (.int .u8):=underlying5
theorem qn:prog.underlying 9=some (.string):=underlying9
theorem Mm:prog.underlying 32=some (.slice 29):=underlying32
theorem gA:prog.underlying 73=some (.map 29 4):=underlying73
theorem dJ:prog.underlying 107=some (.map 29 9):=underlying107
theorem Dg:prog.underlying 114=some (.map 29 32):=underlying114
theorem zv4:ZV prog 4 [.bool false]:=⟨_,zeroValue4,rfl⟩
theorem YJ:ZV prog 25 [.int .i64 0,.slice none 0 0,.slice none 0 0]:=⟨_,zeroValue25,rfl⟩
theorem Dh:ZV prog 29 [.int .i64 0,.string ⟨#[]⟩]:=⟨_,zeroValue29,rfl⟩
theorem YK:ZV prog 32 [.slice none 0 0]:=⟨_,zeroValue32,rfl⟩
theorem oG:ZV prog 34 [.int .i64 0,.string ⟨#[]⟩,.string ⟨#[]⟩,.slice none 0 0,.int .i64 0,.int .i64 0,.int .i64 0,.bool false]:=⟨_,zeroValue34,rfl⟩
theorem KD:ZV prog 37 [.bool false,.slice none 0 0,.int .i64 0,.int .i64 0]:=⟨_,zeroValue37,rfl⟩
theorem vM:ZV prog 55 [.bool false,.string ⟨#[]⟩,.int .i64 0,.string ⟨#[]⟩]:=⟨_,zeroValue55,rfl⟩
theorem OQ:ZV prog 77 [.bool false,.bool false,.int .i64 0,.int .i64 0]:=⟨_,zeroValue77,rfl⟩
theorem YL:ZV prog 87 [.int .i64 0,.string ⟨#[]⟩,.string ⟨#[]⟩]:=⟨_,zeroValue87,rfl⟩
theorem KF:ZV prog 90 [.int .i64 0,.string ⟨#[]⟩,.string ⟨#[]⟩,.int .i64 0]:=⟨_,zeroValue90,rfl⟩
theorem Tc:ZV prog 95 [.slice none 0 0,.int .i64 0,.slice none 0 0,.slice none 0 0,.slice none 0 0,.slice none 0 0,.slice none 0 0]:=⟨_,zeroValue95,rfl⟩
theorem Td:ZV prog 107 [.map none]:=⟨_,zeroValue107,rfl⟩
theorem Mn:ZV prog 145 [.int .i64 0,.string ⟨#[]⟩,.bool false,.int .i64 0,.slice none 0 0,.slice none 0 0]:=⟨_,zeroValue145,rfl⟩
theorem Te:ZV prog 403 [.int .i64 0,.string ⟨#[]⟩,.int .i64 0,.string ⟨#[]⟩]:=⟨_,zeroValue403,rfl⟩
theorem yo:∀w,(zeroValue 4).run prog w=.ok (.bool false) w:=zeroValue4
theorem lO:∀w,(zeroValue 9).run prog w=.ok (.string ⟨#[]⟩) w:=zeroValue9
theorem Mo:∀w,(zeroValue 32).run prog w=.ok (.slice none 0 0) w:=zeroValue32
theorem kI:FA prog 25 0 0:=bX underlying25 rfl sizeOf3 (by decide) rfl
theorem ug:FA prog 25 1 1:=bX underlying25 rfl sizeOf22 (by decide) rfl
theorem qo:FA prog 25 2 2:=bX underlying25 rfl sizeOf23 (by decide) rfl
theorem du:FA prog 29 0 0:=bX underlying29 rfl sizeOf3 (by decide) rfl
theorem oH:FA prog 29 1 1:=bX underlying29 rfl sizeOf9 (by decide) rfl
theorem oI:FA prog 34 0 0:=bX underlying34 rfl sizeOf29 (by decide) rfl
theorem uh:FA prog 34 1 2:=bX underlying34 rfl sizeOf9 (by decide) rfl
theorem yp:FA prog 34 2 3:=bX underlying34 rfl sizeOf32 (by decide) rfl
theorem ui:FA prog 34 3 4:=bX underlying34 rfl sizeOf3 (by decide) rfl
theorem oJ:FA prog 34 4 5:=bX underlying34 rfl sizeOf3 (by decide) rfl
theorem Di:FA prog 34 5 6:=bX underlying34 rfl sizeOf3 (by decide) rfl
theorem Dj:FA prog 34 6 7:=bX underlying34 rfl sizeOf4 (by decide) rfl
theorem jU:FA prog 37 0 0:=bX underlying37 rfl sizeOf4 (by decide) rfl
theorem qp:FA prog 37 1 1:=bX underlying37 rfl sizeOf35 (by decide) rfl
theorem oK:FA prog 37 2 2:=bX underlying37 rfl sizeOf3 (by decide) rfl
theorem kJ:FA prog 37 3 3:=bX underlying37 rfl sizeOf3 (by decide) rfl
theorem OS:FA prog 55 0 0:=bX underlying55 rfl sizeOf4 (by decide) rfl
theorem OT:FA prog 55 1 1:=bX underlying55 rfl sizeOf9 (by decide) rfl
theorem OU:FA prog 55 2 2:=bX underlying55 rfl sizeOf29 (by decide) rfl
theorem H9:FA prog 60 0 0:=bX underlying60 rfl sizeOf27 (by decide) rfl
theorem yq:FA prog 60 1 1:=bX underlying60 rfl sizeOf3 (by decide) rfl
theorem yr:FA prog 77 0 0:=bX underlying77 rfl sizeOf4 (by decide) rfl
theorem uj:FA prog 77 1 1:=bX underlying77 rfl sizeOf4 (by decide) rfl
theorem Dk:FA prog 77 2 2:=bX underlying77 rfl sizeOf3 (by decide) rfl
theorem uk:FA prog 77 3 3:=bX underlying77 rfl sizeOf3 (by decide) rfl
theorem OV:FA prog 87 0 0:=bX underlying87 rfl sizeOf29 (by decide) rfl
theorem OW:FA prog 87 1 2:=bX underlying87 rfl sizeOf9 (by decide) rfl
theorem qq:FA prog 90 0 0:=bX underlying90 rfl sizeOf29 (by decide) rfl
theorem Dl:FA prog 90 1 2:=bX underlying90 rfl sizeOf9 (by decide) rfl
theorem um:FA prog 90 2 3:=bX underlying90 rfl sizeOf3 (by decide) rfl
theorem OY:FA prog 95 0 0:=bX underlying95 rfl sizeOf26 (by decide) rfl
theorem OZ:FA prog 95 1 1:=bX underlying95 rfl sizeOf25 (by decide) rfl
theorem O0:FA prog 95 2 4:=bX underlying95 rfl sizeOf32 (by decide) rfl
theorem O1:FA prog 95 3 5:=bX underlying95 rfl sizeOf93 (by decide) rfl
theorem O2:FA prog 95 4 6:=bX underlying95 rfl sizeOf32 (by decide) rfl
theorem KG:FA prog 109 0 0:=bX underlying109 rfl sizeOf26 (by decide) rfl
theorem KH:FA prog 109 1 1:=bX underlying109 rfl sizeOf25 (by decide) rfl
theorem KI:FA prog 109 2 4:=bX underlying109 rfl sizeOf107 (by decide) rfl
theorem KJ:FA prog 109 3 5:=bX underlying109 rfl sizeOf73 (by decide) rfl
theorem KL:FA prog 116 0 0:=bX underlying116 rfl sizeOf26 (by decide) rfl
theorem KN:FA prog 116 1 1:=bX underlying116 rfl sizeOf25 (by decide) rfl
theorem KO:FA prog 116 2 4:=bX underlying116 rfl sizeOf107 (by decide) rfl
theorem KP:FA prog 116 3 5:=bX underlying116 rfl sizeOf114 (by decide) rfl
theorem EO:FA prog 145 0 0:=bX underlying145 rfl sizeOf29 (by decide) rfl
theorem KQ:FA prog 145 1 2:=bX underlying145 rfl sizeOf4 (by decide) rfl
theorem KR:FA prog 145 2 3:=bX underlying145 rfl sizeOf3 (by decide) rfl
theorem KS:FA prog 145 3 4:=bX underlying145 rfl sizeOf32 (by decide) rfl
theorem KT:FA prog 145 4 5:=bX underlying145 rfl sizeOf79 (by decide) rfl
theorem KU:FA prog 151 0 0:=bX underlying151 rfl sizeOf70 (by decide) rfl
theorem KW:FA prog 151 1 1:=bX underlying151 rfl sizeOf25 (by decide) rfl
theorem KX:FA prog 151 2 4:=bX underlying151 rfl sizeOf73 (by decide) rfl
theorem KY:FA prog 151 3 5:=bX underlying151 rfl sizeOf32 (by decide) rfl
theorem KZ:FA prog 151 4 6:=bX underlying151 rfl sizeOf46 (by decide) rfl
theorem K2:FA prog 403 0 0:=bX underlying403 rfl sizeOf29 (by decide) rfl
theorem K3:FA prog 403 1 2:=bX underlying403 rfl sizeOf29 (by decide) rfl
instance:Hl prog 22 90 4 48:=⟨Yu⟩
instance:Hl prog 23 34 8 96:=⟨OH⟩
instance:Hl prog 26 37 4 48:=⟨Yv⟩
instance:Hl prog 27 3 1 8:=⟨Yw⟩
instance:Hl prog 32 29 2 24:=⟨mP⟩
instance:Hl prog 35 77 4 24:=⟨Yx⟩
instance:Hl prog 392 403 4 48:=⟨S1⟩
instance:Hl prog 64 87 3 40:=⟨Yy⟩
instance:Hl prog 79 9 1 16:=⟨H2⟩
instance:Hl prog 93 145 6 88:=⟨OI⟩
instance:Q9 prog 29 [.int .i64 0,.string ⟨#[]⟩] [(0,1),(1,1)]:=⟨yk⟩
instance:Q9 prog 34 [.int .i64 0,.string ⟨#[]⟩,.string ⟨#[]⟩,.slice none 0 0,.int .i64 0,.int .i64 0,.int .i64 0,.bool false] [(0,2),(2,1),(3,1),(4,1),(5,1),(6,1),(7,1)]:=⟨S2⟩
instance:Q9 prog 90 [.int .i64 0,.string ⟨#[]⟩,.string ⟨#[]⟩,.int .i64 0] [(0,2),(2,1),(3,1)]:=⟨KC⟩
instance:ic prog 109 0 0:=⟨KG⟩
instance:ic prog 109 1 1:=⟨KH⟩
instance:ic prog 109 2 4:=⟨KI⟩
instance:ic prog 109 3 5:=⟨KJ⟩
instance:ic prog 116 0 0:=⟨KL⟩
instance:ic prog 116 1 1:=⟨KN⟩
instance:ic prog 116 2 4:=⟨KO⟩
instance:ic prog 116 3 5:=⟨KP⟩
instance:ic prog 145 0 0:=⟨EO⟩
instance:ic prog 145 1 2:=⟨KQ⟩
instance:ic prog 145 2 3:=⟨KR⟩
instance:ic prog 145 3 4:=⟨KS⟩
instance:ic prog 145 4 5:=⟨KT⟩
instance:ic prog 151 0 0:=⟨KU⟩
instance:ic prog 151 1 1:=⟨KW⟩
instance:ic prog 151 2 4:=⟨KX⟩
instance:ic prog 151 3 5:=⟨KY⟩
instance:ic prog 151 4 6:=⟨KZ⟩
instance:ic prog 25 0 0:=⟨kI⟩
instance:ic prog 25 1 1:=⟨ug⟩
instance:ic prog 25 2 2:=⟨qo⟩
instance:ic prog 29 0 0:=⟨du⟩
instance:ic prog 29 1 1:=⟨oH⟩
instance:ic prog 34 0 0:=⟨oI⟩
instance:ic prog 34 1 2:=⟨uh⟩
instance:ic prog 34 2 3:=⟨yp⟩
instance:ic prog 34 3 4:=⟨ui⟩
instance:ic prog 34 4 5:=⟨oJ⟩
instance:ic prog 34 5 6:=⟨Di⟩
instance:ic prog 34 6 7:=⟨Dj⟩
instance:ic prog 37 0 0:=⟨jU⟩
instance:ic prog 37 1 1:=⟨qp⟩
instance:ic prog 37 2 2:=⟨oK⟩
instance:ic prog 37 3 3:=⟨kJ⟩
instance:ic prog 403 0 0:=⟨K2⟩
instance:ic prog 403 1 2:=⟨K3⟩
instance:ic prog 55 0 0:=⟨OS⟩
instance:ic prog 55 1 1:=⟨OT⟩
instance:ic prog 55 2 2:=⟨OU⟩
instance:ic prog 77 0 0:=⟨yr⟩
instance:ic prog 77 1 1:=⟨uj⟩
instance:ic prog 77 2 2:=⟨Dk⟩
instance:ic prog 77 3 3:=⟨uk⟩
instance:ic prog 87 0 0:=⟨OV⟩
instance:ic prog 87 1 2:=⟨OW⟩
instance:ic prog 90 0 0:=⟨qq⟩
instance:ic prog 90 1 2:=⟨Dl⟩
instance:ic prog 90 2 3:=⟨um⟩
instance:ic prog 95 0 0:=⟨OY⟩
instance:ic prog 95 1 1:=⟨OZ⟩
instance:ic prog 95 2 4:=⟨O0⟩
instance:ic prog 95 3 5:=⟨O1⟩
instance:ic prog 95 4 6:=⟨O2⟩
instance:D7 prog 156 5 1:=⟨Mk⟩
instance:D7 prog 22 90 4:=⟨pr⟩
instance:D7 prog 23 34 8:=⟨iy⟩
instance:D7 prog 26 37 4:=⟨gZ⟩
instance:D7 prog 27 3 1:=⟨Df⟩
instance:D7 prog 32 29 2:=⟨eI⟩
instance:D7 prog 35 77 4:=⟨uf⟩
instance:D7 prog 392 403 4:=⟨H7⟩
instance:D7 prog 64 87 3:=⟨Gb⟩
instance:D7 prog 79 9 1:=⟨vL⟩
instance:D7 prog 93 145 6:=⟨AL⟩
instance:GK prog 107 1:=⟨Tb⟩
instance:GK prog 22 1:=⟨YC⟩
instance:GK prog 23 1:=⟨YD⟩
instance:GK prog 3 1:=⟨Jr⟩
instance:GK prog 32 1:=⟨S9⟩
instance:GK prog 35 1:=⟨YE⟩
instance:GK prog 4 1:=⟨S8⟩
instance:GK prog 46 1:=⟨YF⟩
instance:GK prog 79 1:=⟨Ta⟩
instance:GK prog 93 1:=⟨YG⟩
instance:oV prog 32 (.slice 29):=⟨Mm⟩
instance:oV prog 9 (.string):=⟨qn⟩
instance:Cn prog 145 [.int .i64 0,.string ⟨#[]⟩,.bool false,.int .i64 0,.slice none 0 0,.slice none 0 0]:=⟨Mn⟩
instance:Cn prog 25 [.int .i64 0,.slice none 0 0,.slice none 0 0]:=⟨YJ⟩
instance:Cn prog 29 [.int .i64 0,.string ⟨#[]⟩]:=⟨Dh⟩
instance:Cn prog 32 [.slice none 0 0]:=⟨YK⟩
instance:Cn prog 34 [.int .i64 0,.string ⟨#[]⟩,.string ⟨#[]⟩,.slice none 0 0,.int .i64 0,.int .i64 0,.int .i64 0,.bool false]:=⟨oG⟩
instance:Cn prog 37 [.bool false,.slice none 0 0,.int .i64 0,.int .i64 0]:=⟨KD⟩
instance:Cn prog 4 [.bool false]:=⟨zv4⟩
instance:Cn prog 403 [.int .i64 0,.string ⟨#[]⟩,.int .i64 0,.string ⟨#[]⟩]:=⟨Te⟩
instance:Cn prog 55 [.bool false,.string ⟨#[]⟩,.int .i64 0,.string ⟨#[]⟩]:=⟨vM⟩
instance:Cn prog 77 [.bool false,.bool false,.int .i64 0,.int .i64 0]:=⟨OQ⟩
instance:Cn prog 87 [.int .i64 0,.string ⟨#[]⟩,.string ⟨#[]⟩]:=⟨YL⟩
instance:Cn prog 90 [.int .i64 0,.string ⟨#[]⟩,.string ⟨#[]⟩,.int .i64 0]:=⟨KF⟩
instance:Cn prog 95 [.slice none 0 0,.int .i64 0,.slice none 0 0,.slice none 0 0,.slice none 0 0,.slice none 0 0,.slice none 0 0]:=⟨Tc⟩
theorem cf4:CF prog 4:=call4
theorem W2:CF prog 5:=call5
theorem cf6:CF prog 6:=call6
theorem cf7:CF prog 7:=call7
theorem Rh:CF prog 8:=call8
theorem O3:CF prog 9:=call9
theorem Ia:CF prog 10:=call10
theorem K5:CF prog 11:=call11
theorem O4:CF prog 12:=call12
theorem YM:CF prog 13:=call13
theorem YN:CF prog 14:=call14
theorem YO:CF prog 15:=call15
theorem Tf:CF prog 16:=call16
theorem YP:CF prog 17:=call17
theorem YQ:CF prog 18:=call18
theorem O5:CF prog 19:=call19
theorem YR:CF prog 20:=call20
theorem O6:CF prog 21:=call21
theorem YS:CF prog 22:=call22
theorem Tg:CF prog 23:=call23
theorem YT:CF prog 24:=call24
theorem YU:CF prog 25:=call25
theorem Th:CF prog 26:=call26
theorem Ti:CF prog 27:=call27
theorem YV:CF prog 28:=call28
theorem YW:CF prog 30:=call30
theorem Ib:CF prog 31:=call31
theorem K6:CF prog 32:=call32
theorem YX:CF prog 33:=call33
theorem Ic:CF prog 34:=call34
theorem Gc:CF prog 35:=call35
theorem O7:CF prog 36:=call36
theorem Tj:CF prog 37:=call37
theorem Tk:CF prog 38:=call38
theorem O8:CF prog 39:=call39
theorem YY:CF prog 40:=call40
theorem Gd:CF prog 42:=call42
theorem YZ:CF prog 43:=call43
theorem Tl:CF prog 44:=call44
theorem Y0:CF prog 45:=call45
theorem Y1:CF prog 46:=call46
theorem Y2:CF prog 47:=call47
theorem Y3:CF prog 49:=call49
theorem Ge:CF prog 50:=call50
theorem iU:CF prog 52:=call52
theorem Tm:CF prog 53:=call53
theorem yt:CF prog 54:=call54
theorem K7:CF prog 55:=call55
theorem Ie:CF prog 56:=call56
theorem Tn:CF prog 57:=call57
theorem O9:CF prog 58:=call58
theorem Y4:CF prog 59:=call59
theorem Y5:CF prog 60:=call60
theorem To:CF prog 61:=call61
theorem Y6:CF prog 62:=call62
theorem Y7:CF prog 63:=call63
theorem Y8:CF prog 64:=call64
theorem Y9:CF prog 65:=call65
theorem Tp:CF prog 67:=call67
theorem Tq:CF prog 68:=call68
theorem Za:CF prog 69:=call69
theorem Zc:CF prog 70:=call70
theorem Zd:CF prog 71:=call71
theorem K8:CF prog 72:=call72
theorem Tr:CF prog 73:=call73
theorem Ze:CF prog 74:=call74
theorem Zg:CF prog 75:=call75
theorem Zh:CF prog 76:=call76
theorem Ts:CF prog 77:=call77
theorem Zi:CF prog 78:=call78
theorem Tt:CF prog 79:=call79
theorem Zj:CF prog 80:=call80
theorem Zk:CF prog 81:=call81
theorem Zl:CF prog 82:=call82
theorem Zm:CF prog 83:=call83
theorem Zn:CF prog 84:=call84
theorem Zo:CF prog 85:=call85
theorem Zp:CF prog 86:=call86
theorem K9:CF prog 90:=call90
theorem Zq:CF prog 91:=call91
theorem Tu:CF prog 92:=call92
theorem Zr:CF prog 94:=call94
theorem Zs:CF prog 95:=call95
theorem Tv:CF prog 96:=call96
theorem Tw:CF prog 97:=call97
theorem Zt:CF prog 98:=call98
theorem Pa:CF prog 99:=call99
theorem Ig:CF prog 100:=call100
theorem Tx:CF prog 101:=call101
theorem Ty:CF prog 102:=call102
theorem Tz:CF prog 103:=call103
theorem Mp:CF prog 104:=call104
theorem TA:CF prog 105:=call105
theorem TB:CF prog 106:=call106
theorem TD:CF prog 107:=call107
theorem Ih:CF prog 108:=call108
theorem TE:CF prog 113:=call113
theorem TF:CF prog 114:=call114
theorem TG:CF prog 115:=call115
theorem TH:CF prog 116:=call116
theorem Mq:CF prog 117:=call117
theorem TJ:CF prog 118:=call118
theorem TL:CF prog 119:=call119
theorem TM:CF prog 120:=call120
theorem TN:CF prog 121:=call121
theorem TP:CF prog 122:=call122
theorem TQ:CF prog 123:=call123
theorem TS:CF prog 124:=call124
theorem Ii:CF prog 125:=call125
theorem Ij:CF prog 126:=call126
theorem Mr:CF prog 142:=call142
theorem EP:CF prog 172:=call172
theorem TT:CF prog 173:=call173
theorem TU:CF prog 175:=call175
theorem Ms:CF prog 176:=call176
theorem TV:CF prog 177:=call177
theorem Mt:CF prog 178:=call178
theorem TW:CF prog 179:=call179
theorem TX:CF prog 180:=call180
theorem Mu:CF prog 181:=call181
theorem kl:CF prog 182:=call182
theorem TY:CF prog 183:=call183
theorem TZ:CF prog 184:=call184
theorem T0:CF prog 186:=call186
theorem T1:CF prog 190:=call190
theorem T2:CF prog 191:=call191
theorem Mv:CF prog 192:=call192
theorem T3:CF prog 193:=call193
theorem T4:CF prog 194:=call194
theorem T5:CF prog 195:=call195
theorem T6:CF prog 204:=call204
theorem T7:CF prog 205:=call205
theorem T8:CF prog 206:=call206
theorem Mw:CF prog 352:=call352
theorem Mx:CF prog 353:=call353
theorem Ik:CF prog 354:=call354
theorem My:CF prog 355:=call355
theorem Mz:CF prog 356:=call356
theorem T9:CF prog 357:=call357
theorem MA:CF prog 358:=call358
theorem ET:CF prog 359:=call359
theorem Ua:CF prog 360:=call360
theorem Ub:CF prog 361:=call361
theorem MB:CF prog 362:=call362
theorem Uc:CF prog 365:=call365
theorem MC:CF prog 366:=call366
theorem Ud:CF prog 367:=call367
theorem Ue:CF prog 374:=call374
theorem Uf:CF prog 375:=call375
theorem Ug:CF prog 575:=call575
theorem MD:CF prog 576:=call576
theorem Uh:CF prog 577:=call577
theorem Ui:CF prog 578:=call578
theorem ME:CF prog 579:=call579
theorem Uj:CF prog 582:=call582
instance:fI prog 4:=⟨cf4⟩
instance:fI prog 8:=⟨Rh⟩
instance:fI prog 9:=⟨O3⟩
instance:fI prog 10:=⟨Ia⟩
instance:fI prog 11:=⟨K5⟩
instance:fI prog 18:=⟨YQ⟩
instance:fI prog 19:=⟨O5⟩
instance:fI prog 20:=⟨YR⟩
instance:fI prog 21:=⟨O6⟩
instance:fI prog 22:=⟨YS⟩
instance:fI prog 23:=⟨Tg⟩
instance:fI prog 30:=⟨YW⟩
instance:fI prog 33:=⟨YX⟩
instance:fI prog 40:=⟨YY⟩
instance:fI prog 42:=⟨Gd⟩
instance:fI prog 45:=⟨Y0⟩
instance:fI prog 46:=⟨Y1⟩
instance:fI prog 47:=⟨Y2⟩
instance:fI prog 50:=⟨Ge⟩
instance:fI prog 53:=⟨Tm⟩
instance:fI prog 56:=⟨Ie⟩
instance:fI prog 57:=⟨Tn⟩
instance:fI prog 58:=⟨O9⟩
instance:fI prog 67:=⟨Tp⟩
instance:fI prog 68:=⟨Tq⟩
instance:fI prog 69:=⟨Za⟩
instance:fI prog 70:=⟨Zc⟩
instance:fI prog 72:=⟨K8⟩
instance:fI prog 73:=⟨Tr⟩
instance:fI prog 77:=⟨Ts⟩
instance:fI prog 78:=⟨Zi⟩
instance:fI prog 79:=⟨Tt⟩
instance:fI prog 80:=⟨Zj⟩
instance:fI prog 82:=⟨Zl⟩
instance:fI prog 83:=⟨Zm⟩
instance:fI prog 84:=⟨Zn⟩
instance:fI prog 85:=⟨Zo⟩
instance:fI prog 86:=⟨Zp⟩
instance:fI prog 97:=⟨Tw⟩
instance:fI prog 107:=⟨TD⟩
instance:fI prog 113:=⟨TE⟩
instance:fI prog 114:=⟨TF⟩
instance:fI prog 115:=⟨TG⟩
instance:fI prog 116:=⟨TH⟩
instance:fI prog 118:=⟨TJ⟩
instance:fI prog 121:=⟨TN⟩
instance:fI prog 122:=⟨TP⟩
instance:fI prog 123:=⟨TQ⟩
instance:fI prog 124:=⟨TS⟩
instance:fI prog 125:=⟨Ii⟩
instance:fI prog 126:=⟨Ij⟩
instance:fI prog 178:=⟨Mt⟩
instance:fI prog 181:=⟨Mu⟩
instance:fI prog 186:=⟨T0⟩
instance:fI prog 190:=⟨T1⟩
instance:fI prog 191:=⟨T2⟩
instance:fI prog 195:=⟨T5⟩
instance:fI prog 204:=⟨T6⟩
instance:fI prog 356:=⟨Mz⟩
instance:fI prog 357:=⟨T9⟩
instance:fI prog 361:=⟨Ub⟩
instance:fI prog 365:=⟨Uc⟩
instance:fI prog 367:=⟨Ud⟩
instance:fI prog 575:=⟨Ug⟩
instance:fI prog 577:=⟨Uh⟩
instance:fI prog 578:=⟨Ui⟩
instance:fI prog 579:=⟨ME⟩
instance:fI prog 582:=⟨Uj⟩
end Go.Rc

