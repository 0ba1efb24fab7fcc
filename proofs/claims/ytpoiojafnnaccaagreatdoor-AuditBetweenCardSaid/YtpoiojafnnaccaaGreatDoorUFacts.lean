/- Walks over the program, part Facts. Conditions: as each theorem says. -/
import Derived.Test.YtpoiojafnnaccaaGreatDoorProg
import Derived.Test.YtpoiojafnnaccaaGreatDoorUBd
set_option linter.all false
namespace Go.Rc
open Go Go.Proofs Go.Proofs.Tryz
theorem mixed:prog.follows .mixedOrders=true:=by kernel_rfl
theorem gB:MJ prog 58:=Sj underlying58 rfl rfl rfl rfl (by decide) (by decide) underlying3 underlying9 isAgg3 isAgg9 (by kernel_rfl) (by kernel_rfl)
theorem aN:wD prog 31 3:=⟨⟨_,underlying31⟩,by kernel_rfl⟩
theorem iE:wD prog 45 7:=⟨⟨_,underlying45⟩,by kernel_rfl⟩
theorem av:wD prog 58 2:=⟨⟨_,underlying58⟩,by kernel_rfl⟩
theorem dm:wD prog 60 8:=⟨⟨_,underlying60⟩,by kernel_rfl⟩
theorem yl:wD prog 69 4:=⟨⟨_,underlying69⟩,by kernel_rfl⟩
theorem HV:wD prog 79 3:=⟨⟨_,underlying79⟩,by kernel_rfl⟩
theorem qJ:wD prog 83 4:=⟨⟨_,underlying83⟩,by kernel_rfl⟩
theorem D9:wD prog 96 6:=⟨⟨_,underlying96⟩,by kernel_rfl⟩
theorem uq:wD prog 111 3:=⟨⟨_,underlying111⟩,by kernel_rfl⟩
theorem nD:wD prog 123 5:=⟨⟨_,underlying123⟩,by kernel_rfl⟩
theorem oG:wD prog 129 4:=⟨⟨_,underlying129⟩,by kernel_rfl⟩
theorem Fl:wD prog 160 4:=⟨⟨_,underlying160⟩,by kernel_rfl⟩
theorem kW:wD prog 174 4:=⟨⟨_,underlying174⟩,by kernel_rfl⟩
theorem aja:AP prog 22 3 1 8:=ry (z:=.int .i64 0) underlying22 (by kernel_rfl) (by kernel_rfl) (by decide)
theorem ajb:AP prog 27 69 4 48:=ry (z:=.agg #[.bool false,.slice none 0 0,.int .i64 0,.int .i64 0]) underlying27 (by kernel_rfl) (by kernel_rfl) (by decide)
theorem ajc:AP prog 28 83 4 48:=ry (z:=.agg #[.int .i64 0,.string ⟨#[]⟩,.string ⟨#[]⟩,.int .i64 0]) underlying28 (by kernel_rfl) (by kernel_rfl) (by decide)
theorem Ya:AP prog 29 60 8 96:=ry (z:=.agg #[.int .i64 0,.string ⟨#[]⟩,.string ⟨#[]⟩,.slice none 0 0,.int .i64 0,.int .i64 0,.int .i64 0,.bool false]) underlying29 (by kernel_rfl) (by kernel_rfl) (by decide)
theorem ajd:AP prog 37 79 3 40:=ry (z:=.agg #[.int .i64 0,.string ⟨#[]⟩,.string ⟨#[]⟩]) underlying37 (by kernel_rfl) (by kernel_rfl) (by decide)
theorem aje:AP prog 39 41 1 24:=ry (z:=.slice none 0 0) underlying39 (by kernel_rfl) (by kernel_rfl) (by decide)
theorem tg:AP prog 41 58 2 24:=ry (z:=.agg #[.int .i64 0,.string ⟨#[]⟩]) underlying41 (by kernel_rfl) (by kernel_rfl) (by decide)
theorem Yb:AP prog 43 96 6 88:=ry (z:=.agg #[.int .i64 0,.string ⟨#[]⟩,.bool false,.int .i64 0,.slice none 0 0,.slice none 0 0]) underlying43 (by kernel_rfl) (by kernel_rfl) (by decide)
theorem ajf:AP prog 67 129 4 24:=ry (z:=.agg #[.bool false,.bool false,.int .i64 0,.int .i64 0]) underlying67 (by kernel_rfl) (by kernel_rfl) (by decide)
theorem Ti:AP prog 94 9 1 16:=ry (z:=.string ⟨#[]⟩) underlying94 (by kernel_rfl) (by kernel_rfl) (by decide)
theorem ac9:AP prog 156 160 4 48:=ry (z:=.agg #[.int .i64 0,.string ⟨#[]⟩,.int .i64 0,.string ⟨#[]⟩]) underlying156 (by kernel_rfl) (by kernel_rfl) (by decide)
theorem Ks:BS prog 22 3 1 1 [.int .i64 0]:=⟨underlying22,sizeOf3,by decide,by decide,_,zeroValue3,by kernel_rfl⟩
theorem Kt:BS prog 27 69 4 1 [.bool false,.slice none 0 0,.int .i64 0,.int .i64 0]:=⟨underlying27,sizeOf69,by decide,by decide,_,zeroValue69,by kernel_rfl⟩
theorem Ku:BS prog 28 83 4 1 [.int .i64 0,.string ⟨#[]⟩,.string ⟨#[]⟩,.int .i64 0]:=⟨underlying28,sizeOf83,by decide,by decide,_,zeroValue83,by kernel_rfl⟩
theorem ur:BS prog 29 60 8 1 [.int .i64 0,.string ⟨#[]⟩,.string ⟨#[]⟩,.slice none 0 0,.int .i64 0,.int .i64 0,.int .i64 0,.bool false]:=⟨underlying29,sizeOf60,by decide,by decide,_,zeroValue60,by kernel_rfl⟩
theorem Yc:BS prog 37 79 3 1 [.int .i64 0,.string ⟨#[]⟩,.string ⟨#[]⟩]:=⟨underlying37,sizeOf79,by decide,by decide,_,zeroValue79,by kernel_rfl⟩
theorem Yd:BS prog 39 41 1 1 [.slice none 0 0]:=⟨underlying39,sizeOf41,by decide,by decide,_,zeroValue41,by kernel_rfl⟩
theorem fK:BS prog 41 58 2 1 [.int .i64 0,.string ⟨#[]⟩]:=⟨underlying41,sizeOf58,by decide,by decide,_,zeroValue58,by kernel_rfl⟩
theorem AV:BS prog 43 96 6 1 [.int .i64 0,.string ⟨#[]⟩,.bool false,.int .i64 0,.slice none 0 0,.slice none 0 0]:=⟨underlying43,sizeOf96,by decide,by decide,_,zeroValue96,by kernel_rfl⟩
theorem Ye:BS prog 67 129 4 1 [.bool false,.bool false,.int .i64 0,.int .i64 0]:=⟨underlying67,sizeOf129,by decide,by decide,_,zeroValue129,by kernel_rfl⟩
theorem qj:BS prog 94 9 1 1 [.string ⟨#[]⟩]:=⟨underlying94,sizeOf9,by decide,by decide,_,zeroValue9,by kernel_rfl⟩
theorem Mh:BS prog 156 160 4 1 [.int .i64 0,.string ⟨#[]⟩,.int .i64 0,.string ⟨#[]⟩]:=⟨underlying156,sizeOf160,by decide,by decide,_,zeroValue160,by kernel_rfl⟩
theorem Tj:BS prog 94 9 1 10 [.string ⟨#[]⟩,.string ⟨#[]⟩,.string ⟨#[]⟩,.string ⟨#[]⟩,.string ⟨#[]⟩,.string ⟨#[]⟩,.string ⟨#[]⟩,.string ⟨#[]⟩,.string ⟨#[]⟩,.string ⟨#[]⟩]:=⟨underlying94,sizeOf9,by decide,by decide,_,zeroValue9,by kernel_rfl⟩
theorem Yf:BS prog 22 3 1 2 [.int .i64 0,.int .i64 0]:=⟨underlying22,sizeOf3,by decide,by decide,_,zeroValue3,by kernel_rfl⟩
theorem Yg:BS prog 39 41 1 2 [.slice none 0 0,.slice none 0 0]:=⟨underlying39,sizeOf41,by decide,by decide,_,zeroValue41,by kernel_rfl⟩
theorem Yh:BS prog 22 3 1 6 [.int .i64 0,.int .i64 0,.int .i64 0,.int .i64 0,.int .i64 0,.int .i64 0]:=⟨underlying22,sizeOf3,by decide,by decide,_,zeroValue3,by kernel_rfl⟩
theorem Yi:BT prog 31 [.int .i64 0,.slice none 0 0,.slice none 0 0] [(0,1),(1,1),(2,1)]:=kS (fs:=[_,_,_]) zeroValue31 rfl underlying31 ⟨rfl,sizeOf3,rfl,sizeOf28,rfl,sizeOf29,trivial⟩
theorem ada:BT prog 45 [.slice none 0 0,.int .i64 0,.slice none 0 0,.slice none 0 0,.slice none 0 0,.slice none 0 0,.slice none 0 0] [(0,1),(1,3),(4,1),(5,1),(6,1)]:=kS (fs:=[_,_,_,_,_]) zeroValue45 rfl underlying45 ⟨rfl,sizeOf27,rfl,sizeOf31,rfl,sizeOf41,rfl,sizeOf43,rfl,sizeOf41,trivial⟩
theorem HW:BT prog 58 [.int .i64 0,.string ⟨#[]⟩] [(0,1),(1,1)]:=kS (fs:=[_,_]) zeroValue58 rfl underlying58 ⟨rfl,sizeOf3,rfl,sizeOf9,trivial⟩
theorem adb:BT prog 60 [.int .i64 0,.string ⟨#[]⟩,.string ⟨#[]⟩,.slice none 0 0,.int .i64 0,.int .i64 0,.int .i64 0,.bool false] [(0,2),(2,1),(3,1),(4,1),(5,1),(6,1),(7,1)]:=kS (fs:=[_,_,_,_,_,_,_]) zeroValue60 rfl underlying60 ⟨rfl,sizeOf58,rfl,sizeOf9,rfl,sizeOf41,rfl,sizeOf3,rfl,sizeOf3,rfl,sizeOf3,rfl,sizeOf4,trivial⟩
theorem Yj:BT prog 69 [.bool false,.slice none 0 0,.int .i64 0,.int .i64 0] [(0,1),(1,1),(2,1),(3,1)]:=kS (fs:=[_,_,_,_]) zeroValue69 rfl underlying69 ⟨rfl,sizeOf4,rfl,sizeOf67,rfl,sizeOf3,rfl,sizeOf3,trivial⟩
theorem ajg:BT prog 74 [.slice none 0 0,.int .i64 0] [(0,1),(1,1)]:=kS (fs:=[_,_]) zeroValue74 rfl underlying74 ⟨rfl,sizeOf22,rfl,sizeOf3,trivial⟩
theorem ajh:BT prog 79 [.int .i64 0,.string ⟨#[]⟩,.string ⟨#[]⟩] [(0,2),(2,1)]:=kS (fs:=[_,_]) zeroValue79 rfl underlying79 ⟨rfl,sizeOf58,rfl,sizeOf9,trivial⟩
theorem Tk:BT prog 83 [.int .i64 0,.string ⟨#[]⟩,.string ⟨#[]⟩,.int .i64 0] [(0,2),(2,1),(3,1)]:=kS (fs:=[_,_,_]) zeroValue83 rfl underlying83 ⟨rfl,sizeOf58,rfl,sizeOf9,rfl,sizeOf3,trivial⟩
theorem Yk:BT prog 96 [.int .i64 0,.string ⟨#[]⟩,.bool false,.int .i64 0,.slice none 0 0,.slice none 0 0] [(0,2),(2,1),(3,1),(4,1),(5,1)]:=kS (fs:=[_,_,_,_,_]) zeroValue96 rfl underlying96 ⟨rfl,sizeOf58,rfl,sizeOf4,rfl,sizeOf3,rfl,sizeOf41,rfl,sizeOf94,trivial⟩
theorem ade:BT prog 101 [.pointer none,.int .i64 0,.slice none 0 0,.slice none 0 0,.map none,.slice none 0 0,.int .i64 0] [(0,1),(1,3),(4,1),(5,1),(6,1)]:=kS (fs:=[_,_,_,_,_]) zeroValue101 rfl underlying101 ⟨rfl,sizeOf90,rfl,sizeOf31,rfl,sizeOf99,rfl,sizeOf41,rfl,sizeOf34,trivial⟩
theorem HX:BT prog 111 [.int .i64 0,.int .i64 0,.string ⟨#[]⟩] [(0,1),(1,2)]:=kS (fs:=[_,_]) zeroValue111 rfl underlying111 ⟨rfl,sizeOf3,rfl,sizeOf58,trivial⟩
theorem adf:BT prog 123 [.int .i64 0,.slice none 0 0,.slice none 0 0,.pointer none,.pointer none] [(0,3),(3,1),(4,1)]:=kS (fs:=[_,_,_]) zeroValue123 rfl underlying123 ⟨rfl,sizeOf31,rfl,sizeOf120,rfl,sizeOf108,trivial⟩
theorem Vj:BT prog 129 [.bool false,.bool false,.int .i64 0,.int .i64 0] [(0,1),(1,1),(2,1),(3,1)]:=kS (fs:=[_,_,_,_]) zeroValue129 rfl underlying129 ⟨rfl,sizeOf4,rfl,sizeOf4,rfl,sizeOf3,rfl,sizeOf3,trivial⟩
theorem adg:BT prog 144 [.slice none 0 0,.int .i64 0,.slice none 0 0,.slice none 0 0,.map none,.map none] [(0,1),(1,3),(4,1),(5,1)]:=kS (fs:=[_,_,_,_]) zeroValue144 rfl underlying144 ⟨rfl,sizeOf27,rfl,sizeOf31,rfl,sizeOf141,rfl,sizeOf142,trivial⟩
theorem Vk:BT prog 154 [.slice none 0 0,.int .i64 0,.slice none 0 0,.slice none 0 0,.map none,.pointer none,.slice none 0 0] [(0,1),(1,3),(4,1),(5,1),(6,1)]:=kS (fs:=[_,_,_,_,_]) zeroValue154 rfl underlying154 ⟨rfl,sizeOf27,rfl,sizeOf31,rfl,sizeOf152,rfl,sizeOf120,rfl,sizeOf41,trivial⟩
theorem Vl:BT prog 160 [.int .i64 0,.string ⟨#[]⟩,.int .i64 0,.string ⟨#[]⟩] [(0,2),(2,2)]:=kS (fs:=[_,_]) zeroValue160 rfl underlying160 ⟨rfl,sizeOf58,rfl,sizeOf58,trivial⟩
theorem adh:BT prog 166 [.slice none 0 0,.int .i64 0,.slice none 0 0,.slice none 0 0,.map none,.map none] [(0,1),(1,3),(4,1),(5,1)]:=kS (fs:=[_,_,_,_]) zeroValue166 rfl underlying166 ⟨rfl,sizeOf27,rfl,sizeOf31,rfl,sizeOf141,rfl,sizeOf99,trivial⟩
theorem qK:BT prog 174 [.bool false,.string ⟨#[]⟩,.int .i64 0,.string ⟨#[]⟩] [(0,1),(1,1),(2,2)]:=kS (fs:=[_,_,_]) zeroValue174 rfl underlying174 ⟨rfl,sizeOf4,rfl,sizeOf9,rfl,sizeOf58,trivial⟩
theorem Mi:BT prog 408 [.string ⟨#[]⟩,.string ⟨#[]⟩,.nilIface] [(0,1),(1,1),(2,1)]:=kS (fs:=[_,_,_]) zeroValue408 rfl underlying408 ⟨rfl,sizeOf9,rfl,sizeOf9,rfl,sizeOf203,trivial⟩
theorem eF:KK prog 58 Key.val:=WS underlying58 gB (ML underlying58 rfl rfl rfl rfl underlying3 underlying9 isAgg3 isAgg9)
theorem Fm:∃ms,prog.underlying 203=some (.interface ms):=⟨_,underlying203⟩
theorem aX:One prog 3:=isAgg3
theorem fG:One prog 4:=isAgg4
theorem iq:One prog 9:=isAgg9
theorem Vm:One prog 22:=isAgg22
theorem nE:One prog 27:=isAgg27
theorem pw:One prog 28:=isAgg28
theorem ez:One prog 29:=isAgg29
theorem Ea:One prog 34:=isAgg34
theorem fE:One prog 41:=isAgg41
theorem HY:One prog 43:=isAgg43
theorem nF:One prog 67:=isAgg67
theorem P7:One prog 90:=isAgg90
theorem Mj:One prog 94:=isAgg94
theorem ym:One prog 99:=isAgg99
theorem Fo:One prog 108:=isAgg108
theorem uu:One prog 120:=isAgg120
theorem Yl:One prog 124:=isAgg124
theorem jj:One prog 141:=isAgg141
theorem iP:One prog 152:=isAgg152
theorem Fp:One prog 203:=isAgg203
theorem Kv:Ck prog 22 3 1:=⟨underlying22,sizeOf3⟩
theorem lO:Ck prog 27 69 4:=⟨underlying27,sizeOf69⟩
theorem yR:Ck prog 28 83 4:=⟨underlying28,sizeOf83⟩
theorem iF:Ck prog 29 60 8:=⟨underlying29,sizeOf60⟩
theorem ND:Ck prog 37 79 3:=⟨underlying37,sizeOf79⟩
theorem adi:Ck prog 39 41 1:=⟨underlying39,sizeOf41⟩
theorem fL:Ck prog 41 58 2:=⟨underlying41,sizeOf58⟩
theorem HZ:Ck prog 43 96 6:=⟨underlying43,sizeOf96⟩
theorem CI:Ck prog 67 129 4:=⟨underlying67,sizeOf129⟩
theorem CJ:Ck prog 94 9 1:=⟨underlying94,sizeOf9⟩
theorem Mk:Ck prog 156 160 4:=⟨underlying156,sizeOf160⟩
theorem Vn:Ck prog 211 5 1:=⟨underlying211,sizeOf5⟩
theorem aji:∀w,(sizeOf 58).run prog w=.ok 2 w:=sizeOf58
theorem ajj:∀w,(sizeOf 60).run prog w=.ok 8 w:=sizeOf60
theorem ajk:∀w,(sizeOf 83).run prog w=.ok 4 w:=sizeOf83
theorem Vo:∀w,(sizeOf 124).run prog w=.ok 1 w:=sizeOf124
theorem RW:(prog.info? 3).map (·.size)=some 1:=by kernel_rfl
theorem sz4:(prog.info? 4).map (·.size)=some 1:=by kernel_rfl
theorem sz9:(prog.info? 9).map (·.size)=some 1:=by kernel_rfl
theorem ajl:(prog.info? 28).map (·.size)=some 1:=by kernel_rfl
theorem ajm:(prog.info? 29).map (·.size)=some 1:=by kernel_rfl
theorem gg:(prog.info? 31).map (·.size)=some 3:=by kernel_rfl
theorem ajn:(prog.info? 34).map (·.size)=some 1:=by kernel_rfl
theorem adk:(prog.info? 41).map (·.size)=some 1:=by kernel_rfl
theorem ajo:(prog.info? 43).map (·.size)=some 1:=by kernel_rfl
theorem rY:(prog.info? 45).map (·.size)=some 7:=by kernel_rfl
theorem jH:(prog.info? 58).map (·.size)=some 2:=by kernel_rfl
theorem gC:(prog.info? 60).map (·.size)=some 8:=by kernel_rfl
theorem ajp:(prog.info? 67).map (·.size)=some 1:=by kernel_rfl
theorem Kw:(prog.info? 69).map (·.size)=some 4:=by kernel_rfl
theorem P8:(prog.info? 79).map (·.size)=some 3:=by kernel_rfl
theorem H0:(prog.info? 83).map (·.size)=some 4:=by kernel_rfl
theorem adl:(prog.info? 94).map (·.size)=some 1:=by kernel_rfl
theorem Tl:(prog.info? 96).map (·.size)=some 6:=by kernel_rfl
theorem AW:(prog.info? 111).map (·.size)=some 3:=by kernel_rfl
theorem adm:(prog.info? 123).map (·.size)=some 5:=by kernel_rfl
theorem AX:(prog.info? 129).map (·.size)=some 4:=by kernel_rfl
theorem adn:(prog.info? 141).map (·.size)=some 1:=by kernel_rfl
theorem P9:(prog.info? 160).map (·.size)=some 4:=by kernel_rfl
theorem jk:(prog.info? 174).map (·.size)=some 4:=by kernel_rfl
theorem ajq:prog.underlying 3=some (.int .i64):=underlying3
theorem ajr:prog.underlying 5=some (.int .u8):=underlying5
theorem xo:prog.underlying 9=some (.string):=underlying9
theorem Vp:prog.underlying 28=some (.slice 83):=underlying28
theorem Qa:prog.underlying 29=some (.slice 60):=underlying29
theorem Vq:prog.underlying 41=some (.slice 58):=underlying41
theorem ku:prog.underlying 99=some (.map 58 4):=underlying99
theorem Qb:prog.underlying 125=some (.array 5 124):=underlying125
theorem fD:prog.underlying 141=some (.map 58 9):=underlying141
theorem Qc:prog.underlying 142=some (.map 58 41):=underlying142
theorem iQ:prog.underlying 152=some (.map 58 155):=underlying152
theorem Ym:prog.underlying 155=some (.pointer 60):=underlying155
theorem zv4:ZV prog 4 [.bool false]:=⟨_,zeroValue4,rfl⟩
theorem ado:ZV prog 31 [.int .i64 0,.slice none 0 0,.slice none 0 0]:=⟨_,zeroValue31,rfl⟩
theorem ajs:ZV prog 41 [.slice none 0 0]:=⟨_,zeroValue41,rfl⟩
theorem adp:ZV prog 45 [.slice none 0 0,.int .i64 0,.slice none 0 0,.slice none 0 0,.slice none 0 0,.slice none 0 0,.slice none 0 0]:=⟨_,zeroValue45,rfl⟩
theorem Kx:ZV prog 58 [.int .i64 0,.string ⟨#[]⟩]:=⟨_,zeroValue58,rfl⟩
theorem uv:ZV prog 60 [.int .i64 0,.string ⟨#[]⟩,.string ⟨#[]⟩,.slice none 0 0,.int .i64 0,.int .i64 0,.int .i64 0,.bool false]:=⟨_,zeroValue60,rfl⟩
theorem Tm:ZV prog 69 [.bool false,.slice none 0 0,.int .i64 0,.int .i64 0]:=⟨_,zeroValue69,rfl⟩
theorem ajt:ZV prog 79 [.int .i64 0,.string ⟨#[]⟩,.string ⟨#[]⟩]:=⟨_,zeroValue79,rfl⟩
theorem Tn:ZV prog 83 [.int .i64 0,.string ⟨#[]⟩,.string ⟨#[]⟩,.int .i64 0]:=⟨_,zeroValue83,rfl⟩
theorem adq:ZV prog 96 [.int .i64 0,.string ⟨#[]⟩,.bool false,.int .i64 0,.slice none 0 0,.slice none 0 0]:=⟨_,zeroValue96,rfl⟩
theorem adr:ZV prog 111 [.int .i64 0,.int .i64 0,.string ⟨#[]⟩]:=⟨_,zeroValue111,rfl⟩
theorem ads:ZV prog 123 [.int .i64 0,.slice none 0 0,.slice none 0 0,.pointer none,.pointer none]:=⟨_,zeroValue123,rfl⟩
theorem Qd:ZV prog 129 [.bool false,.bool false,.int .i64 0,.int .i64 0]:=⟨_,zeroValue129,rfl⟩
theorem adt:ZV prog 141 [.map none]:=⟨_,zeroValue141,rfl⟩
theorem adu:ZV prog 160 [.int .i64 0,.string ⟨#[]⟩,.int .i64 0,.string ⟨#[]⟩]:=⟨_,zeroValue160,rfl⟩
theorem vI:ZV prog 174 [.bool false,.string ⟨#[]⟩,.int .i64 0,.string ⟨#[]⟩]:=⟨_,zeroValue174,rfl⟩
theorem Fq:∀w,(zeroValue 4).run prog w=.ok (.bool false) w:=zeroValue4
theorem qk:∀w,(zeroValue 9).run prog w=.ok (.string ⟨#[]⟩) w:=zeroValue9
theorem Vr:∀w,(zeroValue 41).run prog w=.ok (.slice none 0 0) w:=zeroValue41
theorem adw:∀w,(zeroValue 60).run prog w=.ok (.agg #[.int .i64 0,.string ⟨#[]⟩,.string ⟨#[]⟩,.slice none 0 0,.int .i64 0,.int .i64 0,.int .i64 0,.bool false]) w:=zeroValue60
theorem Yn:∀w,(zeroValue 125).run prog w=.ok (.agg #[.nilFunc,.nilFunc,.nilFunc,.nilFunc,.nilFunc]) w:=zeroValue125
theorem jx:∀w,(zeroValue 155).run prog w=.ok (.pointer none) w:=zeroValue155
theorem oH:FA prog 31 0 0:=dn underlying31 rfl sizeOf3 (by decide) rfl
theorem AY:FA prog 31 1 1:=dn underlying31 rfl sizeOf28 (by decide) rfl
theorem xp:FA prog 31 2 2:=dn underlying31 rfl sizeOf29 (by decide) rfl
theorem Yo:FA prog 45 0 0:=dn underlying45 rfl sizeOf27 (by decide) rfl
theorem Yp:FA prog 45 1 1:=dn underlying45 rfl sizeOf31 (by decide) rfl
theorem Yq:FA prog 45 2 4:=dn underlying45 rfl sizeOf41 (by decide) rfl
theorem Yr:FA prog 45 3 5:=dn underlying45 rfl sizeOf43 (by decide) rfl
theorem Ys:FA prog 45 4 6:=dn underlying45 rfl sizeOf41 (by decide) rfl
theorem fh:FA prog 58 0 0:=dn underlying58 rfl sizeOf3 (by decide) rfl
theorem uw:FA prog 58 1 1:=dn underlying58 rfl sizeOf9 (by decide) rfl
theorem ux:FA prog 60 0 0:=dn underlying60 rfl sizeOf58 (by decide) rfl
theorem AZ:FA prog 60 1 2:=dn underlying60 rfl sizeOf9 (by decide) rfl
theorem Fs:FA prog 60 2 3:=dn underlying60 rfl sizeOf41 (by decide) rfl
theorem Ba:FA prog 60 3 4:=dn underlying60 rfl sizeOf3 (by decide) rfl
theorem uy:FA prog 60 4 5:=dn underlying60 rfl sizeOf3 (by decide) rfl
theorem Ky:FA prog 60 5 6:=dn underlying60 rfl sizeOf3 (by decide) rfl
theorem Kz:FA prog 60 6 7:=dn underlying60 rfl sizeOf4 (by decide) rfl
theorem nG:FA prog 69 0 0:=dn underlying69 rfl sizeOf4 (by decide) rfl
theorem xt:FA prog 69 1 1:=dn underlying69 rfl sizeOf67 (by decide) rfl
theorem uz:FA prog 69 2 2:=dn underlying69 rfl sizeOf3 (by decide) rfl
theorem oI:FA prog 69 3 3:=dn underlying69 rfl sizeOf3 (by decide) rfl
theorem Qe:FA prog 74 0 0:=dn underlying74 rfl sizeOf22 (by decide) rfl
theorem Ft:FA prog 74 1 1:=dn underlying74 rfl sizeOf3 (by decide) rfl
theorem Yt:FA prog 79 0 0:=dn underlying79 rfl sizeOf58 (by decide) rfl
theorem Yu:FA prog 79 1 2:=dn underlying79 rfl sizeOf9 (by decide) rfl
theorem xu:FA prog 83 0 0:=dn underlying83 rfl sizeOf58 (by decide) rfl
theorem KA:FA prog 83 1 2:=dn underlying83 rfl sizeOf9 (by decide) rfl
theorem Bb:FA prog 83 2 3:=dn underlying83 rfl sizeOf3 (by decide) rfl
theorem Qf:FA prog 96 0 0:=dn underlying96 rfl sizeOf58 (by decide) rfl
theorem Yv:FA prog 96 1 2:=dn underlying96 rfl sizeOf4 (by decide) rfl
theorem Yw:FA prog 96 2 3:=dn underlying96 rfl sizeOf3 (by decide) rfl
theorem Yx:FA prog 96 3 4:=dn underlying96 rfl sizeOf41 (by decide) rfl
theorem Yy:FA prog 96 4 5:=dn underlying96 rfl sizeOf94 (by decide) rfl
theorem To:FA prog 101 0 0:=dn underlying101 rfl sizeOf90 (by decide) rfl
theorem Tp:FA prog 101 1 1:=dn underlying101 rfl sizeOf31 (by decide) rfl
theorem Tq:FA prog 101 2 4:=dn underlying101 rfl sizeOf99 (by decide) rfl
theorem Tr:FA prog 101 3 5:=dn underlying101 rfl sizeOf41 (by decide) rfl
theorem Ts:FA prog 101 4 6:=dn underlying101 rfl sizeOf34 (by decide) rfl
theorem Tt:FA prog 123 0 0:=dn underlying123 rfl sizeOf31 (by decide) rfl
theorem Tu:FA prog 123 1 3:=dn underlying123 rfl sizeOf120 (by decide) rfl
theorem Tv:FA prog 123 2 4:=dn underlying123 rfl sizeOf108 (by decide) rfl
theorem zo:FA prog 129 0 0:=dn underlying129 rfl sizeOf4 (by decide) rfl
theorem vJ:FA prog 129 1 1:=dn underlying129 rfl sizeOf4 (by decide) rfl
theorem Fu:FA prog 129 2 2:=dn underlying129 rfl sizeOf3 (by decide) rfl
theorem vK:FA prog 129 3 3:=dn underlying129 rfl sizeOf3 (by decide) rfl
theorem Tw:FA prog 144 0 0:=dn underlying144 rfl sizeOf27 (by decide) rfl
theorem Tx:FA prog 144 1 1:=dn underlying144 rfl sizeOf31 (by decide) rfl
theorem Ty:FA prog 144 2 4:=dn underlying144 rfl sizeOf141 (by decide) rfl
theorem Tz:FA prog 154 1 1:=dn underlying154 rfl sizeOf31 (by decide) rfl
theorem TA:FA prog 154 2 4:=dn underlying154 rfl sizeOf152 (by decide) rfl
theorem TB:FA prog 154 3 5:=dn underlying154 rfl sizeOf120 (by decide) rfl
theorem TC:FA prog 160 0 0:=dn underlying160 rfl sizeOf58 (by decide) rfl
theorem TD:FA prog 160 1 2:=dn underlying160 rfl sizeOf58 (by decide) rfl
theorem TE:FA prog 166 0 0:=dn underlying166 rfl sizeOf27 (by decide) rfl
theorem TF:FA prog 166 1 1:=dn underlying166 rfl sizeOf31 (by decide) rfl
theorem TG:FA prog 166 2 4:=dn underlying166 rfl sizeOf141 (by decide) rfl
theorem TH:FA prog 166 3 5:=dn underlying166 rfl sizeOf99 (by decide) rfl
theorem TJ:FA prog 174 0 0:=dn underlying174 rfl sizeOf4 (by decide) rfl
theorem TL:FA prog 174 1 1:=dn underlying174 rfl sizeOf9 (by decide) rfl
theorem TM:FA prog 174 2 2:=dn underlying174 rfl sizeOf58 (by decide) rfl
instance:Od prog 156 160 4 48:=⟨ac9⟩
instance:Od prog 22 3 1 8:=⟨aja⟩
instance:Od prog 27 69 4 48:=⟨ajb⟩
instance:Od prog 28 83 4 48:=⟨ajc⟩
instance:Od prog 29 60 8 96:=⟨Ya⟩
instance:Od prog 37 79 3 40:=⟨ajd⟩
instance:Od prog 39 41 1 24:=⟨aje⟩
instance:Od prog 41 58 2 24:=⟨tg⟩
instance:Od prog 43 96 6 88:=⟨Yb⟩
instance:Od prog 67 129 4 24:=⟨ajf⟩
instance:Od prog 94 9 1 16:=⟨Ti⟩
instance:WW prog 111 [.int .i64 0,.int .i64 0,.string ⟨#[]⟩] [(0,1),(1,2)]:=⟨HX⟩
instance:WW prog 58 [.int .i64 0,.string ⟨#[]⟩] [(0,1),(1,1)]:=⟨HW⟩
instance:WW prog 60 [.int .i64 0,.string ⟨#[]⟩,.string ⟨#[]⟩,.slice none 0 0,.int .i64 0,.int .i64 0,.int .i64 0,.bool false] [(0,2),(2,1),(3,1),(4,1),(5,1),(6,1),(7,1)]:=⟨adb⟩
instance:WW prog 83 [.int .i64 0,.string ⟨#[]⟩,.string ⟨#[]⟩,.int .i64 0] [(0,2),(2,1),(3,1)]:=⟨Tk⟩
instance:kA prog 101 0 0:=⟨To⟩
instance:kA prog 101 1 1:=⟨Tp⟩
instance:kA prog 101 2 4:=⟨Tq⟩
instance:kA prog 101 3 5:=⟨Tr⟩
instance:kA prog 101 4 6:=⟨Ts⟩
instance:kA prog 123 0 0:=⟨Tt⟩
instance:kA prog 123 1 3:=⟨Tu⟩
instance:kA prog 123 2 4:=⟨Tv⟩
instance:kA prog 129 0 0:=⟨zo⟩
instance:kA prog 129 1 1:=⟨vJ⟩
instance:kA prog 129 2 2:=⟨Fu⟩
instance:kA prog 129 3 3:=⟨vK⟩
instance:kA prog 144 0 0:=⟨Tw⟩
instance:kA prog 144 1 1:=⟨Tx⟩
instance:kA prog 144 2 4:=⟨Ty⟩
instance:kA prog 154 1 1:=⟨Tz⟩
instance:kA prog 154 2 4:=⟨TA⟩
instance:kA prog 154 3 5:=⟨TB⟩
instance:kA prog 160 0 0:=⟨TC⟩
instance:kA prog 160 1 2:=⟨TD⟩
instance:kA prog 166 0 0:=⟨TE⟩
instance:kA prog 166 1 1:=⟨TF⟩
instance:kA prog 166 2 4:=⟨TG⟩
instance:kA prog 166 3 5:=⟨TH⟩
instance:kA prog 174 0 0:=⟨TJ⟩
instance:kA prog 174 1 1:=⟨TL⟩
instance:kA prog 174 2 2:=⟨TM⟩
instance:kA prog 31 0 0:=⟨oH⟩
instance:kA prog 31 1 1:=⟨AY⟩
instance:kA prog 31 2 2:=⟨xp⟩
instance:kA prog 45 0 0:=⟨Yo⟩
instance:kA prog 45 1 1:=⟨Yp⟩
instance:kA prog 45 2 4:=⟨Yq⟩
instance:kA prog 45 3 5:=⟨Yr⟩
instance:kA prog 45 4 6:=⟨Ys⟩
instance:kA prog 58 0 0:=⟨fh⟩
instance:kA prog 58 1 1:=⟨uw⟩
instance:kA prog 60 0 0:=⟨ux⟩
instance:kA prog 60 1 2:=⟨AZ⟩
instance:kA prog 60 2 3:=⟨Fs⟩
instance:kA prog 60 3 4:=⟨Ba⟩
instance:kA prog 60 4 5:=⟨uy⟩
instance:kA prog 60 5 6:=⟨Ky⟩
instance:kA prog 60 6 7:=⟨Kz⟩
instance:kA prog 69 0 0:=⟨nG⟩
instance:kA prog 69 1 1:=⟨xt⟩
instance:kA prog 69 2 2:=⟨uz⟩
instance:kA prog 69 3 3:=⟨oI⟩
instance:kA prog 79 0 0:=⟨Yt⟩
instance:kA prog 79 1 2:=⟨Yu⟩
instance:kA prog 83 0 0:=⟨xu⟩
instance:kA prog 83 1 2:=⟨KA⟩
instance:kA prog 83 2 3:=⟨Bb⟩
instance:kA prog 96 0 0:=⟨Qf⟩
instance:kA prog 96 1 2:=⟨Yv⟩
instance:kA prog 96 2 3:=⟨Yw⟩
instance:kA prog 96 3 4:=⟨Yx⟩
instance:kA prog 96 4 5:=⟨Yy⟩
instance:JJ prog 156 160 4:=⟨Mk⟩
instance:JJ prog 211 5 1:=⟨Vn⟩
instance:JJ prog 22 3 1:=⟨Kv⟩
instance:JJ prog 27 69 4:=⟨lO⟩
instance:JJ prog 28 83 4:=⟨yR⟩
instance:JJ prog 29 60 8:=⟨iF⟩
instance:JJ prog 37 79 3:=⟨ND⟩
instance:JJ prog 39 41 1:=⟨adi⟩
instance:JJ prog 41 58 2:=⟨fL⟩
instance:JJ prog 43 96 6:=⟨HZ⟩
instance:JJ prog 67 129 4:=⟨CI⟩
instance:JJ prog 94 9 1:=⟨CJ⟩
instance:Oc prog 141 1:=⟨adn⟩
instance:Oc prog 28 1:=⟨ajl⟩
instance:Oc prog 29 1:=⟨ajm⟩
instance:Oc prog 3 1:=⟨RW⟩
instance:Oc prog 34 1:=⟨ajn⟩
instance:Oc prog 4 1:=⟨sz4⟩
instance:Oc prog 41 1:=⟨adk⟩
instance:Oc prog 43 1:=⟨ajo⟩
instance:Oc prog 67 1:=⟨ajp⟩
instance:Oc prog 94 1:=⟨adl⟩
instance:rz prog 155 (.pointer 60):=⟨Ym⟩
instance:rz prog 28 (.slice 83):=⟨Vp⟩
instance:rz prog 29 (.slice 60):=⟨Qa⟩
instance:rz prog 41 (.slice 58):=⟨Vq⟩
instance:rz prog 9 (.string):=⟨xo⟩
instance:Jn prog 111 [.int .i64 0,.int .i64 0,.string ⟨#[]⟩]:=⟨adr⟩
instance:Jn prog 129 [.bool false,.bool false,.int .i64 0,.int .i64 0]:=⟨Qd⟩
instance:Jn prog 160 [.int .i64 0,.string ⟨#[]⟩,.int .i64 0,.string ⟨#[]⟩]:=⟨adu⟩
instance:Jn prog 174 [.bool false,.string ⟨#[]⟩,.int .i64 0,.string ⟨#[]⟩]:=⟨vI⟩
instance:Jn prog 31 [.int .i64 0,.slice none 0 0,.slice none 0 0]:=⟨ado⟩
instance:Jn prog 4 [.bool false]:=⟨zv4⟩
instance:Jn prog 41 [.slice none 0 0]:=⟨ajs⟩
instance:Jn prog 45 [.slice none 0 0,.int .i64 0,.slice none 0 0,.slice none 0 0,.slice none 0 0,.slice none 0 0,.slice none 0 0]:=⟨adp⟩
instance:Jn prog 58 [.int .i64 0,.string ⟨#[]⟩]:=⟨Kx⟩
instance:Jn prog 60 [.int .i64 0,.string ⟨#[]⟩,.string ⟨#[]⟩,.slice none 0 0,.int .i64 0,.int .i64 0,.int .i64 0,.bool false]:=⟨uv⟩
instance:Jn prog 69 [.bool false,.slice none 0 0,.int .i64 0,.int .i64 0]:=⟨Tm⟩
instance:Jn prog 79 [.int .i64 0,.string ⟨#[]⟩,.string ⟨#[]⟩]:=⟨ajt⟩
instance:Jn prog 83 [.int .i64 0,.string ⟨#[]⟩,.string ⟨#[]⟩,.int .i64 0]:=⟨Tn⟩
instance:Jn prog 96 [.int .i64 0,.string ⟨#[]⟩,.bool false,.int .i64 0,.slice none 0 0,.slice none 0 0]:=⟨adq⟩
theorem cf5:CF prog 5:=call5
theorem cf6:CF prog 6:=call6
theorem cf7:CF prog 7:=call7
theorem cf8:CF prog 8:=call8
theorem cf9:CF prog 9:=call9
theorem adx:CF prog 10:=call10
theorem l7:CF prog 11:=call11
theorem Yz:CF prog 12:=call12
theorem aju:CF prog 13:=call13
theorem ajv:CF prog 14:=call14
theorem ajw:CF prog 15:=call15
theorem YA:CF prog 16:=call16
theorem ady:CF prog 17:=call17
theorem TN:CF prog 18:=call18
theorem ajx:CF prog 19:=call19
theorem ajy:CF prog 20:=call20
theorem ajz:CF prog 21:=call21
theorem Bc:CF prog 22:=call22
theorem adz:CF prog 23:=call23
theorem uA:CF prog 24:=call24
theorem NF:CF prog 25:=call25
theorem adA:CF prog 26:=call26
theorem ajA:CF prog 27:=call27
theorem ajB:CF prog 28:=call28
theorem YB:CF prog 29:=call29
theorem Qg:CF prog 30:=call30
theorem NG:CF prog 31:=call31
theorem adB:CF prog 32:=call32
theorem YC:CF prog 33:=call33
theorem ajC:CF prog 34:=call34
theorem ajD:CF prog 35:=call35
theorem YD:CF prog 36:=call36
theorem YE:CF prog 37:=call37
theorem ajE:CF prog 38:=call38
theorem adC:CF prog 39:=call39
theorem ajF:CF prog 40:=call40
theorem NH:CF prog 41:=call41
theorem adD:CF prog 42:=call42
theorem YF:CF prog 43:=call43
theorem adE:CF prog 44:=call44
theorem ajG:CF prog 45:=call45
theorem ajH:CF prog 46:=call46
theorem ajI:CF prog 47:=call47
theorem adF:CF prog 48:=call48
theorem adG:CF prog 49:=call49
theorem ajJ:CF prog 50:=call50
theorem adH:CF prog 51:=call51
theorem ajK:CF prog 52:=call52
theorem ajL:CF prog 53:=call53
theorem ajM:CF prog 54:=call54
theorem ajN:CF prog 55:=call55
theorem TP:CF prog 56:=call56
theorem TQ:CF prog 57:=call57
theorem TS:CF prog 58:=call58
theorem ajO:CF prog 59:=call59
theorem ajP:CF prog 60:=call60
theorem ajQ:CF prog 61:=call61
theorem ajR:CF prog 62:=call62
theorem ajS:CF prog 63:=call63
theorem adI:CF prog 64:=call64
theorem ajT:CF prog 65:=call65
theorem TT:CF prog 66:=call66
theorem adJ:CF prog 67:=call67
theorem adK:CF prog 68:=call68
theorem YG:CF prog 69:=call69
theorem ajU:CF prog 70:=call70
theorem ajV:CF prog 71:=call71
theorem ajW:CF prog 72:=call72
theorem ajX:CF prog 73:=call73
theorem adL:CF prog 74:=call74
theorem ajY:CF prog 75:=call75
theorem adM:CF prog 76:=call76
theorem ajZ:CF prog 77:=call77
theorem aj0:CF prog 78:=call78
theorem aj1:CF prog 79:=call79
theorem aj2:CF prog 80:=call80
theorem aj3:CF prog 81:=call81
theorem aj4:CF prog 82:=call82
theorem adN:CF prog 83:=call83
theorem aj5:CF prog 84:=call84
theorem Qh:CF prog 85:=call85
theorem aj6:CF prog 86:=call86
theorem aj7:CF prog 87:=call87
theorem aj8:CF prog 88:=call88
theorem aj9:CF prog 90:=call90
theorem adO:CF prog 91:=call91
theorem aka:CF prog 92:=call92
theorem akb:CF prog 93:=call93
theorem akc:CF prog 94:=call94
theorem akd:CF prog 95:=call95
theorem adP:CF prog 96:=call96
theorem adQ:CF prog 97:=call97
theorem ake:CF prog 98:=call98
theorem akf:CF prog 99:=call99
theorem adR:CF prog 100:=call100
theorem adS:CF prog 101:=call101
theorem Vs:CF prog 102:=call102
theorem Vt:CF prog 104:=call104
theorem Vu:CF prog 105:=call105
theorem Vv:CF prog 106:=call106
theorem adT:CF prog 107:=call107
theorem adU:CF prog 108:=call108
theorem adV:CF prog 109:=call109
theorem Vw:CF prog 110:=call110
theorem Vx:CF prog 112:=call112
theorem Vy:CF prog 113:=call113
theorem Vz:CF prog 114:=call114
theorem Qi:CF prog 115:=call115
theorem VB:CF prog 116:=call116
theorem VC:CF prog 117:=call117
theorem VD:CF prog 118:=call118
theorem adW:CF prog 119:=call119
theorem VE:CF prog 120:=call120
theorem Ml:CF prog 121:=call121
theorem adX:CF prog 122:=call122
theorem adY:CF prog 123:=call123
theorem VF:CF prog 124:=call124
theorem VG:CF prog 125:=call125
theorem Qj:CF prog 126:=call126
theorem adZ:CF prog 127:=call127
theorem VH:CF prog 128:=call128
theorem ad0:CF prog 129:=call129
theorem Mm:CF prog 130:=call130
theorem ad1:CF prog 131:=call131
theorem ad2:CF prog 132:=call132
theorem ad3:CF prog 133:=call133
theorem VI:CF prog 134:=call134
theorem ad4:CF prog 135:=call135
theorem ad5:CF prog 136:=call136
theorem Qk:CF prog 137:=call137
theorem ad6:CF prog 138:=call138
theorem ad7:CF prog 139:=call139
theorem ad8:CF prog 140:=call140
theorem ad9:CF prog 141:=call141
theorem aea:CF prog 142:=call142
theorem aeb:CF prog 143:=call143
theorem aec:CF prog 144:=call144
theorem aed:CF prog 145:=call145
theorem aee:CF prog 146:=call146
theorem aef:CF prog 147:=call147
theorem aeg:CF prog 148:=call148
theorem aeh:CF prog 150:=call150
theorem aei:CF prog 153:=call153
theorem VJ:CF prog 154:=call154
theorem aej:CF prog 155:=call155
theorem Mn:CF prog 157:=call157
theorem aek:CF prog 158:=call158
theorem ael:CF prog 159:=call159
theorem aem:CF prog 160:=call160
theorem aen:CF prog 161:=call161
theorem VK:CF prog 162:=call162
theorem VL:CF prog 163:=call163
theorem aeo:CF prog 164:=call164
theorem aep:CF prog 165:=call165
theorem aeq:CF prog 166:=call166
theorem aer:CF prog 167:=call167
theorem aes:CF prog 168:=call168
theorem aet:CF prog 169:=call169
theorem VM:CF prog 170:=call170
theorem VN:CF prog 171:=call171
theorem aeu:CF prog 172:=call172
theorem aev:CF prog 173:=call173
theorem aew:CF prog 178:=call178
theorem VO:CF prog 179:=call179
theorem aex:CF prog 181:=call181
theorem aey:CF prog 183:=call183
theorem aez:CF prog 185:=call185
theorem aeA:CF prog 186:=call186
theorem aeB:CF prog 187:=call187
theorem aeC:CF prog 188:=call188
theorem aeD:CF prog 189:=call189
theorem aeE:CF prog 190:=call190
theorem aeF:CF prog 191:=call191
theorem aeG:CF prog 226:=call226
theorem aeH:CF prog 227:=call227
theorem aeI:CF prog 228:=call228
theorem aeJ:CF prog 229:=call229
theorem aeK:CF prog 234:=call234
theorem aeL:CF prog 235:=call235
theorem aeM:CF prog 314:=call314
theorem aeN:CF prog 331:=call331
instance:jn prog 5:=⟨cf5⟩
instance:jn prog 19:=⟨ajx⟩
instance:jn prog 21:=⟨ajz⟩
instance:jn prog 23:=⟨adz⟩
instance:jn prog 25:=⟨NF⟩
instance:jn prog 30:=⟨Qg⟩
instance:jn prog 31:=⟨NG⟩
instance:jn prog 32:=⟨adB⟩
instance:jn prog 33:=⟨YC⟩
instance:jn prog 41:=⟨NH⟩
instance:jn prog 47:=⟨ajI⟩
instance:jn prog 49:=⟨adG⟩
instance:jn prog 50:=⟨ajJ⟩
instance:jn prog 57:=⟨TQ⟩
instance:jn prog 64:=⟨adI⟩
instance:jn prog 68:=⟨adK⟩
instance:jn prog 69:=⟨YG⟩
instance:jn prog 76:=⟨adM⟩
instance:jn prog 81:=⟨aj3⟩
instance:jn prog 82:=⟨aj4⟩
instance:jn prog 84:=⟨aj5⟩
instance:jn prog 86:=⟨aj6⟩
instance:jn prog 87:=⟨aj7⟩
instance:jn prog 88:=⟨aj8⟩
instance:jn prog 90:=⟨aj9⟩
instance:jn prog 92:=⟨aka⟩
instance:jn prog 96:=⟨adP⟩
instance:jn prog 99:=⟨akf⟩
instance:jn prog 100:=⟨adR⟩
instance:jn prog 102:=⟨Vs⟩
instance:jn prog 104:=⟨Vt⟩
instance:jn prog 106:=⟨Vv⟩
instance:jn prog 108:=⟨adU⟩
instance:jn prog 116:=⟨VB⟩
instance:jn prog 118:=⟨VD⟩
instance:jn prog 119:=⟨adW⟩
instance:jn prog 123:=⟨adY⟩
instance:jn prog 130:=⟨Mm⟩
instance:jn prog 131:=⟨ad1⟩
instance:jn prog 132:=⟨ad2⟩
instance:jn prog 133:=⟨ad3⟩
instance:jn prog 134:=⟨VI⟩
instance:jn prog 135:=⟨ad4⟩
instance:jn prog 137:=⟨Qk⟩
instance:jn prog 138:=⟨ad6⟩
instance:jn prog 139:=⟨ad7⟩
instance:jn prog 140:=⟨ad8⟩
instance:jn prog 141:=⟨ad9⟩
instance:jn prog 146:=⟨aee⟩
instance:jn prog 153:=⟨aei⟩
instance:jn prog 158:=⟨aek⟩
instance:jn prog 159:=⟨ael⟩
instance:jn prog 165:=⟨aep⟩
instance:jn prog 166:=⟨aeq⟩
instance:jn prog 167:=⟨aer⟩
instance:jn prog 168:=⟨aes⟩
instance:jn prog 169:=⟨aet⟩
instance:jn prog 171:=⟨VN⟩
instance:jn prog 173:=⟨aev⟩
instance:jn prog 183:=⟨aey⟩
instance:jn prog 185:=⟨aez⟩
instance:jn prog 187:=⟨aeB⟩
instance:jn prog 191:=⟨aeF⟩
instance:jn prog 226:=⟨aeG⟩
instance:jn prog 227:=⟨aeH⟩
instance:jn prog 228:=⟨aeI⟩
instance:jn prog 229:=⟨aeJ⟩
instance:jn prog 331:=⟨aeN⟩
end Go.Rc

