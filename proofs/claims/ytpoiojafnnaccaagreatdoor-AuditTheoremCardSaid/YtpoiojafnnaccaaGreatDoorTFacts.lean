/- Walks over the program, part Facts. Conditions: as each theorem says. -/
import Derived.Test.YtpoiojafnnaccaaGreatDoorProg
import Derived.Test.YtpoiojafnnaccaaGreatDoorTBd
set_option linter.all false
namespace Go.Rc
open Go Go.Proofs Go.Proofs.Tryz
theorem mixed:prog.follows .mixedOrders=true:=by kernel_rfl
theorem im:MZ prog 58:=SE underlying58 rfl rfl rfl rfl (by decide) (by decide) underlying3 underlying9 isAgg3 isAgg9 (by kernel_rfl) (by kernel_rfl)
theorem aM:wR prog 31 3:=⟨⟨_,underlying31⟩,by kernel_rfl⟩
theorem ib:wR prog 45 7:=⟨⟨_,underlying45⟩,by kernel_rfl⟩
theorem av:wR prog 58 2:=⟨⟨_,underlying58⟩,by kernel_rfl⟩
theorem dn:wR prog 60 8:=⟨⟨_,underlying60⟩,by kernel_rfl⟩
theorem yC:wR prog 69 4:=⟨⟨_,underlying69⟩,by kernel_rfl⟩
theorem Ib:wR prog 79 3:=⟨⟨_,underlying79⟩,by kernel_rfl⟩
theorem qU:wR prog 83 4:=⟨⟨_,underlying83⟩,by kernel_rfl⟩
theorem Et:wR prog 96 6:=⟨⟨_,underlying96⟩,by kernel_rfl⟩
theorem uD:wR prog 111 3:=⟨⟨_,underlying111⟩,by kernel_rfl⟩
theorem nP:wR prog 123 5:=⟨⟨_,underlying123⟩,by kernel_rfl⟩
theorem oT:wR prog 129 4:=⟨⟨_,underlying129⟩,by kernel_rfl⟩
theorem FC:wR prog 160 4:=⟨⟨_,underlying160⟩,by kernel_rfl⟩
theorem kW:wR prog 174 4:=⟨⟨_,underlying174⟩,by kernel_rfl⟩
theorem ajH:AP prog 22 3 1 8:=rM (z:=.int .i64 0) underlying22 (by kernel_rfl) (by kernel_rfl) (by decide)
theorem ajI:AP prog 27 69 4 48:=rM (z:=.agg #[.bool false,.slice none 0 0,.int .i64 0,.int .i64 0]) underlying27 (by kernel_rfl) (by kernel_rfl) (by decide)
theorem ajJ:AP prog 28 83 4 48:=rM (z:=.agg #[.int .i64 0,.string ⟨#[]⟩,.string ⟨#[]⟩,.int .i64 0]) underlying28 (by kernel_rfl) (by kernel_rfl) (by decide)
theorem Yl:AP prog 29 60 8 96:=rM (z:=.agg #[.int .i64 0,.string ⟨#[]⟩,.string ⟨#[]⟩,.slice none 0 0,.int .i64 0,.int .i64 0,.int .i64 0,.bool false]) underlying29 (by kernel_rfl) (by kernel_rfl) (by decide)
theorem ajK:AP prog 37 79 3 40:=rM (z:=.agg #[.int .i64 0,.string ⟨#[]⟩,.string ⟨#[]⟩]) underlying37 (by kernel_rfl) (by kernel_rfl) (by decide)
theorem adn:AP prog 39 41 1 24:=rM (z:=.slice none 0 0) underlying39 (by kernel_rfl) (by kernel_rfl) (by decide)
theorem tn:AP prog 41 58 2 24:=rM (z:=.agg #[.int .i64 0,.string ⟨#[]⟩]) underlying41 (by kernel_rfl) (by kernel_rfl) (by decide)
theorem Ym:AP prog 43 96 6 88:=rM (z:=.agg #[.int .i64 0,.string ⟨#[]⟩,.bool false,.int .i64 0,.slice none 0 0,.slice none 0 0]) underlying43 (by kernel_rfl) (by kernel_rfl) (by decide)
theorem ajL:AP prog 67 129 4 24:=rM (z:=.agg #[.bool false,.bool false,.int .i64 0,.int .i64 0]) underlying67 (by kernel_rfl) (by kernel_rfl) (by decide)
theorem TC:AP prog 94 9 1 16:=rM (z:=.string ⟨#[]⟩) underlying94 (by kernel_rfl) (by kernel_rfl) (by decide)
theorem ado:AP prog 156 160 4 48:=rM (z:=.agg #[.int .i64 0,.string ⟨#[]⟩,.int .i64 0,.string ⟨#[]⟩]) underlying156 (by kernel_rfl) (by kernel_rfl) (by decide)
theorem KO:BS prog 22 3 1 1 [.int .i64 0]:=⟨underlying22,sizeOf3,by decide,by decide,_,zeroValue3,by kernel_rfl⟩
theorem KP:BS prog 27 69 4 1 [.bool false,.slice none 0 0,.int .i64 0,.int .i64 0]:=⟨underlying27,sizeOf69,by decide,by decide,_,zeroValue69,by kernel_rfl⟩
theorem KQ:BS prog 28 83 4 1 [.int .i64 0,.string ⟨#[]⟩,.string ⟨#[]⟩,.int .i64 0]:=⟨underlying28,sizeOf83,by decide,by decide,_,zeroValue83,by kernel_rfl⟩
theorem uE:BS prog 29 60 8 1 [.int .i64 0,.string ⟨#[]⟩,.string ⟨#[]⟩,.slice none 0 0,.int .i64 0,.int .i64 0,.int .i64 0,.bool false]:=⟨underlying29,sizeOf60,by decide,by decide,_,zeroValue60,by kernel_rfl⟩
theorem Yn:BS prog 37 79 3 1 [.int .i64 0,.string ⟨#[]⟩,.string ⟨#[]⟩]:=⟨underlying37,sizeOf79,by decide,by decide,_,zeroValue79,by kernel_rfl⟩
theorem KS:BS prog 39 41 1 1 [.slice none 0 0]:=⟨underlying39,sizeOf41,by decide,by decide,_,zeroValue41,by kernel_rfl⟩
theorem fS:BS prog 41 58 2 1 [.int .i64 0,.string ⟨#[]⟩]:=⟨underlying41,sizeOf58,by decide,by decide,_,zeroValue58,by kernel_rfl⟩
theorem Bp:BS prog 43 96 6 1 [.int .i64 0,.string ⟨#[]⟩,.bool false,.int .i64 0,.slice none 0 0,.slice none 0 0]:=⟨underlying43,sizeOf96,by decide,by decide,_,zeroValue96,by kernel_rfl⟩
theorem Yo:BS prog 67 129 4 1 [.bool false,.bool false,.int .i64 0,.int .i64 0]:=⟨underlying67,sizeOf129,by decide,by decide,_,zeroValue129,by kernel_rfl⟩
theorem qq:BS prog 94 9 1 1 [.string ⟨#[]⟩]:=⟨underlying94,sizeOf9,by decide,by decide,_,zeroValue9,by kernel_rfl⟩
theorem My:BS prog 156 160 4 1 [.int .i64 0,.string ⟨#[]⟩,.int .i64 0,.string ⟨#[]⟩]:=⟨underlying156,sizeOf160,by decide,by decide,_,zeroValue160,by kernel_rfl⟩
theorem TD:BS prog 94 9 1 10 [.string ⟨#[]⟩,.string ⟨#[]⟩,.string ⟨#[]⟩,.string ⟨#[]⟩,.string ⟨#[]⟩,.string ⟨#[]⟩,.string ⟨#[]⟩,.string ⟨#[]⟩,.string ⟨#[]⟩,.string ⟨#[]⟩]:=⟨underlying94,sizeOf9,by decide,by decide,_,zeroValue9,by kernel_rfl⟩
theorem Yp:BS prog 22 3 1 2 [.int .i64 0,.int .i64 0]:=⟨underlying22,sizeOf3,by decide,by decide,_,zeroValue3,by kernel_rfl⟩
theorem Yq:BS prog 39 41 1 2 [.slice none 0 0,.slice none 0 0]:=⟨underlying39,sizeOf41,by decide,by decide,_,zeroValue41,by kernel_rfl⟩
theorem Yr:BS prog 22 3 1 6 [.int .i64 0,.int .i64 0,.int .i64 0,.int .i64 0,.int .i64 0,.int .i64 0]:=⟨underlying22,sizeOf3,by decide,by decide,_,zeroValue3,by kernel_rfl⟩
theorem Ys:BT prog 31 [.int .i64 0,.slice none 0 0,.slice none 0 0] [(0,1),(1,1),(2,1)]:=kT (fs:=[_,_,_]) zeroValue31 rfl underlying31 ⟨rfl,sizeOf3,rfl,sizeOf28,rfl,sizeOf29,trivial⟩
theorem adp:BT prog 45 [.slice none 0 0,.int .i64 0,.slice none 0 0,.slice none 0 0,.slice none 0 0,.slice none 0 0,.slice none 0 0] [(0,1),(1,3),(4,1),(5,1),(6,1)]:=kT (fs:=[_,_,_,_,_]) zeroValue45 rfl underlying45 ⟨rfl,sizeOf27,rfl,sizeOf31,rfl,sizeOf41,rfl,sizeOf43,rfl,sizeOf41,trivial⟩
theorem Ic:BT prog 58 [.int .i64 0,.string ⟨#[]⟩] [(0,1),(1,1)]:=kT (fs:=[_,_]) zeroValue58 rfl underlying58 ⟨rfl,sizeOf3,rfl,sizeOf9,trivial⟩
theorem adq:BT prog 60 [.int .i64 0,.string ⟨#[]⟩,.string ⟨#[]⟩,.slice none 0 0,.int .i64 0,.int .i64 0,.int .i64 0,.bool false] [(0,2),(2,1),(3,1),(4,1),(5,1),(6,1),(7,1)]:=kT (fs:=[_,_,_,_,_,_,_]) zeroValue60 rfl underlying60 ⟨rfl,sizeOf58,rfl,sizeOf9,rfl,sizeOf41,rfl,sizeOf3,rfl,sizeOf3,rfl,sizeOf3,rfl,sizeOf4,trivial⟩
theorem Yt:BT prog 69 [.bool false,.slice none 0 0,.int .i64 0,.int .i64 0] [(0,1),(1,1),(2,1),(3,1)]:=kT (fs:=[_,_,_,_]) zeroValue69 rfl underlying69 ⟨rfl,sizeOf4,rfl,sizeOf67,rfl,sizeOf3,rfl,sizeOf3,trivial⟩
theorem ajM:BT prog 74 [.slice none 0 0,.int .i64 0] [(0,1),(1,1)]:=kT (fs:=[_,_]) zeroValue74 rfl underlying74 ⟨rfl,sizeOf22,rfl,sizeOf3,trivial⟩
theorem ajN:BT prog 79 [.int .i64 0,.string ⟨#[]⟩,.string ⟨#[]⟩] [(0,2),(2,1)]:=kT (fs:=[_,_]) zeroValue79 rfl underlying79 ⟨rfl,sizeOf58,rfl,sizeOf9,trivial⟩
theorem TE:BT prog 83 [.int .i64 0,.string ⟨#[]⟩,.string ⟨#[]⟩,.int .i64 0] [(0,2),(2,1),(3,1)]:=kT (fs:=[_,_,_]) zeroValue83 rfl underlying83 ⟨rfl,sizeOf58,rfl,sizeOf9,rfl,sizeOf3,trivial⟩
theorem Yu:BT prog 96 [.int .i64 0,.string ⟨#[]⟩,.bool false,.int .i64 0,.slice none 0 0,.slice none 0 0] [(0,2),(2,1),(3,1),(4,1),(5,1)]:=kT (fs:=[_,_,_,_,_]) zeroValue96 rfl underlying96 ⟨rfl,sizeOf58,rfl,sizeOf4,rfl,sizeOf3,rfl,sizeOf41,rfl,sizeOf94,trivial⟩
theorem adr:BT prog 101 [.pointer none,.int .i64 0,.slice none 0 0,.slice none 0 0,.map none,.slice none 0 0,.int .i64 0] [(0,1),(1,3),(4,1),(5,1),(6,1)]:=kT (fs:=[_,_,_,_,_]) zeroValue101 rfl underlying101 ⟨rfl,sizeOf90,rfl,sizeOf31,rfl,sizeOf99,rfl,sizeOf41,rfl,sizeOf34,trivial⟩
theorem Ie:BT prog 111 [.int .i64 0,.int .i64 0,.string ⟨#[]⟩] [(0,1),(1,2)]:=kT (fs:=[_,_]) zeroValue111 rfl underlying111 ⟨rfl,sizeOf3,rfl,sizeOf58,trivial⟩
theorem ads:BT prog 123 [.int .i64 0,.slice none 0 0,.slice none 0 0,.pointer none,.pointer none] [(0,3),(3,1),(4,1)]:=kT (fs:=[_,_,_]) zeroValue123 rfl underlying123 ⟨rfl,sizeOf31,rfl,sizeOf120,rfl,sizeOf108,trivial⟩
theorem Vy:BT prog 129 [.bool false,.bool false,.int .i64 0,.int .i64 0] [(0,1),(1,1),(2,1),(3,1)]:=kT (fs:=[_,_,_,_]) zeroValue129 rfl underlying129 ⟨rfl,sizeOf4,rfl,sizeOf4,rfl,sizeOf3,rfl,sizeOf3,trivial⟩
theorem adt:BT prog 144 [.slice none 0 0,.int .i64 0,.slice none 0 0,.slice none 0 0,.map none,.map none] [(0,1),(1,3),(4,1),(5,1)]:=kT (fs:=[_,_,_,_]) zeroValue144 rfl underlying144 ⟨rfl,sizeOf27,rfl,sizeOf31,rfl,sizeOf141,rfl,sizeOf142,trivial⟩
theorem Vz:BT prog 154 [.slice none 0 0,.int .i64 0,.slice none 0 0,.slice none 0 0,.map none,.pointer none,.slice none 0 0] [(0,1),(1,3),(4,1),(5,1),(6,1)]:=kT (fs:=[_,_,_,_,_]) zeroValue154 rfl underlying154 ⟨rfl,sizeOf27,rfl,sizeOf31,rfl,sizeOf152,rfl,sizeOf120,rfl,sizeOf41,trivial⟩
theorem VB:BT prog 160 [.int .i64 0,.string ⟨#[]⟩,.int .i64 0,.string ⟨#[]⟩] [(0,2),(2,2)]:=kT (fs:=[_,_]) zeroValue160 rfl underlying160 ⟨rfl,sizeOf58,rfl,sizeOf58,trivial⟩
theorem adu:BT prog 166 [.slice none 0 0,.int .i64 0,.slice none 0 0,.slice none 0 0,.map none,.map none] [(0,1),(1,3),(4,1),(5,1)]:=kT (fs:=[_,_,_,_]) zeroValue166 rfl underlying166 ⟨rfl,sizeOf27,rfl,sizeOf31,rfl,sizeOf141,rfl,sizeOf99,trivial⟩
theorem qV:BT prog 174 [.bool false,.string ⟨#[]⟩,.int .i64 0,.string ⟨#[]⟩] [(0,1),(1,1),(2,2)]:=kT (fs:=[_,_,_]) zeroValue174 rfl underlying174 ⟨rfl,sizeOf4,rfl,sizeOf9,rfl,sizeOf58,trivial⟩
theorem Mz:BT prog 408 [.string ⟨#[]⟩,.string ⟨#[]⟩,.nilIface] [(0,1),(1,1),(2,1)]:=kT (fs:=[_,_,_]) zeroValue408 rfl underlying408 ⟨rfl,sizeOf9,rfl,sizeOf9,rfl,sizeOf203,trivial⟩
theorem eD:KK prog 58 Key.val:=W6 underlying58 im (Nb underlying58 rfl rfl rfl rfl underlying3 underlying9 isAgg3 isAgg9)
theorem FD:∃ms,prog.underlying 203=some (.interface ms):=⟨_,underlying203⟩
theorem aZ:One prog 3:=isAgg3
theorem fH:One prog 4:=isAgg4
theorem iq:One prog 9:=isAgg9
theorem VC:One prog 22:=isAgg22
theorem nQ:One prog 27:=isAgg27
theorem pE:One prog 28:=isAgg28
theorem eN:One prog 29:=isAgg29
theorem Eu:One prog 34:=isAgg34
theorem fA:One prog 41:=isAgg41
theorem Ig:One prog 43:=isAgg43
theorem nS:One prog 67:=isAgg67
theorem Qo:One prog 90:=isAgg90
theorem MA:One prog 94:=isAgg94
theorem yD:One prog 99:=isAgg99
theorem FE:One prog 108:=isAgg108
theorem uF:One prog 120:=isAgg120
theorem Yv:One prog 124:=isAgg124
theorem jj:One prog 141:=isAgg141
theorem iQ:One prog 152:=isAgg152
theorem FH:One prog 203:=isAgg203
theorem KT:CC prog 22 3 1:=⟨underlying22,sizeOf3⟩
theorem lS:CC prog 27 69 4:=⟨underlying27,sizeOf69⟩
theorem zl:CC prog 28 83 4:=⟨underlying28,sizeOf83⟩
theorem jk:CC prog 29 60 8:=⟨underlying29,sizeOf60⟩
theorem N0:CC prog 37 79 3:=⟨underlying37,sizeOf79⟩
theorem adw:CC prog 39 41 1:=⟨underlying39,sizeOf41⟩
theorem fP:CC prog 41 58 2:=⟨underlying41,sizeOf58⟩
theorem Ih:CC prog 43 96 6:=⟨underlying43,sizeOf96⟩
theorem C2:CC prog 67 129 4:=⟨underlying67,sizeOf129⟩
theorem C3:CC prog 94 9 1:=⟨underlying94,sizeOf9⟩
theorem MB:CC prog 156 160 4:=⟨underlying156,sizeOf160⟩
theorem VD:CC prog 211 5 1:=⟨underlying211,sizeOf5⟩
theorem ajO:∀w,(sizeOf 58).run prog w=.ok 2 w:=sizeOf58
theorem ajP:∀w,(sizeOf 60).run prog w=.ok 8 w:=sizeOf60
theorem ajQ:∀w,(sizeOf 83).run prog w=.ok 4 w:=sizeOf83
theorem VE:∀w,(sizeOf 124).run prog w=.ok 1 w:=sizeOf124
theorem Sf:(prog.info? 3).map (·.size)=some 1:=by kernel_rfl
theorem sz4:(prog.info? 4).map (·.size)=some 1:=by kernel_rfl
theorem sz9:(prog.info? 9).map (·.size)=some 1:=by kernel_rfl
theorem ajR:(prog.info? 28).map (·.size)=some 1:=by kernel_rfl
theorem ajS:(prog.info? 29).map (·.size)=some 1:=by kernel_rfl
theorem fL:(prog.info? 31).map (·.size)=some 3:=by kernel_rfl
theorem ajT:(prog.info? 34).map (·.size)=some 1:=by kernel_rfl
theorem ady:(prog.info? 41).map (·.size)=some 1:=by kernel_rfl
theorem ajU:(prog.info? 43).map (·.size)=some 1:=by kernel_rfl
theorem qt:(prog.info? 45).map (·.size)=some 7:=by kernel_rfl
theorem jT:(prog.info? 58).map (·.size)=some 2:=by kernel_rfl
theorem gJ:(prog.info? 60).map (·.size)=some 8:=by kernel_rfl
theorem ajV:(prog.info? 67).map (·.size)=some 1:=by kernel_rfl
theorem KU:(prog.info? 69).map (·.size)=some 4:=by kernel_rfl
theorem Qp:(prog.info? 79).map (·.size)=some 3:=by kernel_rfl
theorem Ii:(prog.info? 83).map (·.size)=some 4:=by kernel_rfl
theorem adz:(prog.info? 94).map (·.size)=some 1:=by kernel_rfl
theorem TF:(prog.info? 96).map (·.size)=some 6:=by kernel_rfl
theorem Bq:(prog.info? 111).map (·.size)=some 3:=by kernel_rfl
theorem adA:(prog.info? 123).map (·.size)=some 5:=by kernel_rfl
theorem Br:(prog.info? 129).map (·.size)=some 4:=by kernel_rfl
theorem adB:(prog.info? 141).map (·.size)=some 1:=by kernel_rfl
theorem Qq:(prog.info? 160).map (·.size)=some 4:=by kernel_rfl
theorem jn:(prog.info? 174).map (·.size)=some 4:=by kernel_rfl
theorem ajW:prog.underlying 3=some (.int .i64):=underlying3
theorem ajX:prog.underlying 5=some (.int .u8):=underlying5
theorem xG:prog.underlying 9=some (.string):=underlying9
theorem VF:prog.underlying 28=some (.slice 83):=underlying28
theorem Qr:prog.underlying 29=some (.slice 60):=underlying29
theorem VG:prog.underlying 41=some (.slice 58):=underlying41
theorem kB:prog.underlying 99=some (.map 58 4):=underlying99
theorem Qs:prog.underlying 125=some (.array 5 124):=underlying125
theorem fD:prog.underlying 141=some (.map 58 9):=underlying141
theorem Qt:prog.underlying 142=some (.map 58 41):=underlying142
theorem iR:prog.underlying 152=some (.map 58 155):=underlying152
theorem Yw:prog.underlying 155=some (.pointer 60):=underlying155
theorem zv4:ZV prog 4 [.bool false]:=⟨_,zeroValue4,rfl⟩
theorem ajY:ZV prog 31 [.int .i64 0,.slice none 0 0,.slice none 0 0]:=⟨_,zeroValue31,rfl⟩
theorem ajZ:ZV prog 41 [.slice none 0 0]:=⟨_,zeroValue41,rfl⟩
theorem adC:ZV prog 45 [.slice none 0 0,.int .i64 0,.slice none 0 0,.slice none 0 0,.slice none 0 0,.slice none 0 0,.slice none 0 0]:=⟨_,zeroValue45,rfl⟩
theorem KW:ZV prog 58 [.int .i64 0,.string ⟨#[]⟩]:=⟨_,zeroValue58,rfl⟩
theorem uG:ZV prog 60 [.int .i64 0,.string ⟨#[]⟩,.string ⟨#[]⟩,.slice none 0 0,.int .i64 0,.int .i64 0,.int .i64 0,.bool false]:=⟨_,zeroValue60,rfl⟩
theorem TG:ZV prog 69 [.bool false,.slice none 0 0,.int .i64 0,.int .i64 0]:=⟨_,zeroValue69,rfl⟩
theorem aj0:ZV prog 79 [.int .i64 0,.string ⟨#[]⟩,.string ⟨#[]⟩]:=⟨_,zeroValue79,rfl⟩
theorem TH:ZV prog 83 [.int .i64 0,.string ⟨#[]⟩,.string ⟨#[]⟩,.int .i64 0]:=⟨_,zeroValue83,rfl⟩
theorem adD:ZV prog 96 [.int .i64 0,.string ⟨#[]⟩,.bool false,.int .i64 0,.slice none 0 0,.slice none 0 0]:=⟨_,zeroValue96,rfl⟩
theorem adE:ZV prog 111 [.int .i64 0,.int .i64 0,.string ⟨#[]⟩]:=⟨_,zeroValue111,rfl⟩
theorem adF:ZV prog 123 [.int .i64 0,.slice none 0 0,.slice none 0 0,.pointer none,.pointer none]:=⟨_,zeroValue123,rfl⟩
theorem Qu:ZV prog 129 [.bool false,.bool false,.int .i64 0,.int .i64 0]:=⟨_,zeroValue129,rfl⟩
theorem adG:ZV prog 141 [.map none]:=⟨_,zeroValue141,rfl⟩
theorem adH:ZV prog 160 [.int .i64 0,.string ⟨#[]⟩,.int .i64 0,.string ⟨#[]⟩]:=⟨_,zeroValue160,rfl⟩
theorem vO:ZV prog 174 [.bool false,.string ⟨#[]⟩,.int .i64 0,.string ⟨#[]⟩]:=⟨_,zeroValue174,rfl⟩
theorem FJ:∀w,(zeroValue 4).run prog w=.ok (.bool false) w:=zeroValue4
theorem qu:∀w,(zeroValue 9).run prog w=.ok (.string ⟨#[]⟩) w:=zeroValue9
theorem VH:∀w,(zeroValue 41).run prog w=.ok (.slice none 0 0) w:=zeroValue41
theorem adI:∀w,(zeroValue 60).run prog w=.ok (.agg #[.int .i64 0,.string ⟨#[]⟩,.string ⟨#[]⟩,.slice none 0 0,.int .i64 0,.int .i64 0,.int .i64 0,.bool false]) w:=zeroValue60
theorem Yx:∀w,(zeroValue 125).run prog w=.ok (.agg #[.nilFunc,.nilFunc,.nilFunc,.nilFunc,.nilFunc]) w:=zeroValue125
theorem jB:∀w,(zeroValue 155).run prog w=.ok (.pointer none) w:=zeroValue155
theorem oU:FA prog 31 0 0:=dm underlying31 rfl sizeOf3 (by decide) rfl
theorem Bs:FA prog 31 1 1:=dm underlying31 rfl sizeOf28 (by decide) rfl
theorem xH:FA prog 31 2 2:=dm underlying31 rfl sizeOf29 (by decide) rfl
theorem Yy:FA prog 45 0 0:=dm underlying45 rfl sizeOf27 (by decide) rfl
theorem Yz:FA prog 45 1 1:=dm underlying45 rfl sizeOf31 (by decide) rfl
theorem YA:FA prog 45 2 4:=dm underlying45 rfl sizeOf41 (by decide) rfl
theorem YB:FA prog 45 3 5:=dm underlying45 rfl sizeOf43 (by decide) rfl
theorem YC:FA prog 45 4 6:=dm underlying45 rfl sizeOf41 (by decide) rfl
theorem fk:FA prog 58 0 0:=dm underlying58 rfl sizeOf3 (by decide) rfl
theorem uH:FA prog 58 1 1:=dm underlying58 rfl sizeOf9 (by decide) rfl
theorem uI:FA prog 60 0 0:=dm underlying60 rfl sizeOf58 (by decide) rfl
theorem Bt:FA prog 60 1 2:=dm underlying60 rfl sizeOf9 (by decide) rfl
theorem FK:FA prog 60 2 3:=dm underlying60 rfl sizeOf41 (by decide) rfl
theorem Bu:FA prog 60 3 4:=dm underlying60 rfl sizeOf3 (by decide) rfl
theorem uJ:FA prog 60 4 5:=dm underlying60 rfl sizeOf3 (by decide) rfl
theorem KX:FA prog 60 5 6:=dm underlying60 rfl sizeOf3 (by decide) rfl
theorem KY:FA prog 60 6 7:=dm underlying60 rfl sizeOf4 (by decide) rfl
theorem nT:FA prog 69 0 0:=dm underlying69 rfl sizeOf4 (by decide) rfl
theorem xI:FA prog 69 1 1:=dm underlying69 rfl sizeOf67 (by decide) rfl
theorem uK:FA prog 69 2 2:=dm underlying69 rfl sizeOf3 (by decide) rfl
theorem oV:FA prog 69 3 3:=dm underlying69 rfl sizeOf3 (by decide) rfl
theorem Qv:FA prog 74 0 0:=dm underlying74 rfl sizeOf22 (by decide) rfl
theorem FL:FA prog 74 1 1:=dm underlying74 rfl sizeOf3 (by decide) rfl
theorem YD:FA prog 79 0 0:=dm underlying79 rfl sizeOf58 (by decide) rfl
theorem YE:FA prog 79 1 2:=dm underlying79 rfl sizeOf9 (by decide) rfl
theorem xJ:FA prog 83 0 0:=dm underlying83 rfl sizeOf58 (by decide) rfl
theorem KZ:FA prog 83 1 2:=dm underlying83 rfl sizeOf9 (by decide) rfl
theorem Bv:FA prog 83 2 3:=dm underlying83 rfl sizeOf3 (by decide) rfl
theorem Qw:FA prog 96 0 0:=dm underlying96 rfl sizeOf58 (by decide) rfl
theorem YF:FA prog 96 1 2:=dm underlying96 rfl sizeOf4 (by decide) rfl
theorem YG:FA prog 96 2 3:=dm underlying96 rfl sizeOf3 (by decide) rfl
theorem YH:FA prog 96 3 4:=dm underlying96 rfl sizeOf41 (by decide) rfl
theorem YI:FA prog 96 4 5:=dm underlying96 rfl sizeOf94 (by decide) rfl
theorem TJ:FA prog 101 0 0:=dm underlying101 rfl sizeOf90 (by decide) rfl
theorem TL:FA prog 101 1 1:=dm underlying101 rfl sizeOf31 (by decide) rfl
theorem TM:FA prog 101 2 4:=dm underlying101 rfl sizeOf99 (by decide) rfl
theorem TN:FA prog 101 3 5:=dm underlying101 rfl sizeOf41 (by decide) rfl
theorem TP:FA prog 101 4 6:=dm underlying101 rfl sizeOf34 (by decide) rfl
theorem TQ:FA prog 123 0 0:=dm underlying123 rfl sizeOf31 (by decide) rfl
theorem TS:FA prog 123 1 3:=dm underlying123 rfl sizeOf120 (by decide) rfl
theorem TT:FA prog 123 2 4:=dm underlying123 rfl sizeOf108 (by decide) rfl
theorem zL:FA prog 129 0 0:=dm underlying129 rfl sizeOf4 (by decide) rfl
theorem vP:FA prog 129 1 1:=dm underlying129 rfl sizeOf4 (by decide) rfl
theorem FM:FA prog 129 2 2:=dm underlying129 rfl sizeOf3 (by decide) rfl
theorem vQ:FA prog 129 3 3:=dm underlying129 rfl sizeOf3 (by decide) rfl
theorem TU:FA prog 144 0 0:=dm underlying144 rfl sizeOf27 (by decide) rfl
theorem TV:FA prog 144 1 1:=dm underlying144 rfl sizeOf31 (by decide) rfl
theorem TW:FA prog 144 2 4:=dm underlying144 rfl sizeOf141 (by decide) rfl
theorem TX:FA prog 154 1 1:=dm underlying154 rfl sizeOf31 (by decide) rfl
theorem TY:FA prog 154 2 4:=dm underlying154 rfl sizeOf152 (by decide) rfl
theorem TZ:FA prog 154 3 5:=dm underlying154 rfl sizeOf120 (by decide) rfl
theorem T3:FA prog 160 0 0:=dm underlying160 rfl sizeOf58 (by decide) rfl
theorem T4:FA prog 160 1 2:=dm underlying160 rfl sizeOf58 (by decide) rfl
theorem T5:FA prog 166 0 0:=dm underlying166 rfl sizeOf27 (by decide) rfl
theorem T6:FA prog 166 1 1:=dm underlying166 rfl sizeOf31 (by decide) rfl
theorem T7:FA prog 166 2 4:=dm underlying166 rfl sizeOf141 (by decide) rfl
theorem T8:FA prog 166 3 5:=dm underlying166 rfl sizeOf99 (by decide) rfl
theorem T9:FA prog 174 0 0:=dm underlying174 rfl sizeOf4 (by decide) rfl
theorem Ua:FA prog 174 1 1:=dm underlying174 rfl sizeOf9 (by decide) rfl
theorem Ub:FA prog 174 2 2:=dm underlying174 rfl sizeOf58 (by decide) rfl
instance:OD prog 156 160 4 48:=⟨ado⟩
instance:OD prog 22 3 1 8:=⟨ajH⟩
instance:OD prog 27 69 4 48:=⟨ajI⟩
instance:OD prog 28 83 4 48:=⟨ajJ⟩
instance:OD prog 29 60 8 96:=⟨Yl⟩
instance:OD prog 37 79 3 40:=⟨ajK⟩
instance:OD prog 39 41 1 24:=⟨adn⟩
instance:OD prog 41 58 2 24:=⟨tn⟩
instance:OD prog 43 96 6 88:=⟨Ym⟩
instance:OD prog 67 129 4 24:=⟨ajL⟩
instance:OD prog 94 9 1 16:=⟨TC⟩
instance:W9 prog 111 [.int .i64 0,.int .i64 0,.string ⟨#[]⟩] [(0,1),(1,2)]:=⟨Ie⟩
instance:W9 prog 58 [.int .i64 0,.string ⟨#[]⟩] [(0,1),(1,1)]:=⟨Ic⟩
instance:W9 prog 60 [.int .i64 0,.string ⟨#[]⟩,.string ⟨#[]⟩,.slice none 0 0,.int .i64 0,.int .i64 0,.int .i64 0,.bool false] [(0,2),(2,1),(3,1),(4,1),(5,1),(6,1),(7,1)]:=⟨adq⟩
instance:W9 prog 83 [.int .i64 0,.string ⟨#[]⟩,.string ⟨#[]⟩,.int .i64 0] [(0,2),(2,1),(3,1)]:=⟨TE⟩
instance:kD prog 101 0 0:=⟨TJ⟩
instance:kD prog 101 1 1:=⟨TL⟩
instance:kD prog 101 2 4:=⟨TM⟩
instance:kD prog 101 3 5:=⟨TN⟩
instance:kD prog 101 4 6:=⟨TP⟩
instance:kD prog 123 0 0:=⟨TQ⟩
instance:kD prog 123 1 3:=⟨TS⟩
instance:kD prog 123 2 4:=⟨TT⟩
instance:kD prog 129 0 0:=⟨zL⟩
instance:kD prog 129 1 1:=⟨vP⟩
instance:kD prog 129 2 2:=⟨FM⟩
instance:kD prog 129 3 3:=⟨vQ⟩
instance:kD prog 144 0 0:=⟨TU⟩
instance:kD prog 144 1 1:=⟨TV⟩
instance:kD prog 144 2 4:=⟨TW⟩
instance:kD prog 154 1 1:=⟨TX⟩
instance:kD prog 154 2 4:=⟨TY⟩
instance:kD prog 154 3 5:=⟨TZ⟩
instance:kD prog 160 0 0:=⟨T3⟩
instance:kD prog 160 1 2:=⟨T4⟩
instance:kD prog 166 0 0:=⟨T5⟩
instance:kD prog 166 1 1:=⟨T6⟩
instance:kD prog 166 2 4:=⟨T7⟩
instance:kD prog 166 3 5:=⟨T8⟩
instance:kD prog 174 0 0:=⟨T9⟩
instance:kD prog 174 1 1:=⟨Ua⟩
instance:kD prog 174 2 2:=⟨Ub⟩
instance:kD prog 31 0 0:=⟨oU⟩
instance:kD prog 31 1 1:=⟨Bs⟩
instance:kD prog 31 2 2:=⟨xH⟩
instance:kD prog 45 0 0:=⟨Yy⟩
instance:kD prog 45 1 1:=⟨Yz⟩
instance:kD prog 45 2 4:=⟨YA⟩
instance:kD prog 45 3 5:=⟨YB⟩
instance:kD prog 45 4 6:=⟨YC⟩
instance:kD prog 58 0 0:=⟨fk⟩
instance:kD prog 58 1 1:=⟨uH⟩
instance:kD prog 60 0 0:=⟨uI⟩
instance:kD prog 60 1 2:=⟨Bt⟩
instance:kD prog 60 2 3:=⟨FK⟩
instance:kD prog 60 3 4:=⟨Bu⟩
instance:kD prog 60 4 5:=⟨uJ⟩
instance:kD prog 60 5 6:=⟨KX⟩
instance:kD prog 60 6 7:=⟨KY⟩
instance:kD prog 69 0 0:=⟨nT⟩
instance:kD prog 69 1 1:=⟨xI⟩
instance:kD prog 69 2 2:=⟨uK⟩
instance:kD prog 69 3 3:=⟨oV⟩
instance:kD prog 79 0 0:=⟨YD⟩
instance:kD prog 79 1 2:=⟨YE⟩
instance:kD prog 83 0 0:=⟨xJ⟩
instance:kD prog 83 1 2:=⟨KZ⟩
instance:kD prog 83 2 3:=⟨Bv⟩
instance:kD prog 96 0 0:=⟨Qw⟩
instance:kD prog 96 1 2:=⟨YF⟩
instance:kD prog 96 2 3:=⟨YG⟩
instance:kD prog 96 3 4:=⟨YH⟩
instance:kD prog 96 4 5:=⟨YI⟩
instance:J2 prog 156 160 4:=⟨MB⟩
instance:J2 prog 211 5 1:=⟨VD⟩
instance:J2 prog 22 3 1:=⟨KT⟩
instance:J2 prog 27 69 4:=⟨lS⟩
instance:J2 prog 28 83 4:=⟨zl⟩
instance:J2 prog 29 60 8:=⟨jk⟩
instance:J2 prog 37 79 3:=⟨N0⟩
instance:J2 prog 39 41 1:=⟨adw⟩
instance:J2 prog 41 58 2:=⟨fP⟩
instance:J2 prog 43 96 6:=⟨Ih⟩
instance:J2 prog 67 129 4:=⟨C2⟩
instance:J2 prog 94 9 1:=⟨C3⟩
instance:OC prog 141 1:=⟨adB⟩
instance:OC prog 28 1:=⟨ajR⟩
instance:OC prog 29 1:=⟨ajS⟩
instance:OC prog 3 1:=⟨Sf⟩
instance:OC prog 34 1:=⟨ajT⟩
instance:OC prog 4 1:=⟨sz4⟩
instance:OC prog 41 1:=⟨ady⟩
instance:OC prog 43 1:=⟨ajU⟩
instance:OC prog 67 1:=⟨ajV⟩
instance:OC prog 94 1:=⟨adz⟩
instance:rO prog 155 (.pointer 60):=⟨Yw⟩
instance:rO prog 28 (.slice 83):=⟨VF⟩
instance:rO prog 29 (.slice 60):=⟨Qr⟩
instance:rO prog 41 (.slice 58):=⟨VG⟩
instance:rO prog 9 (.string):=⟨xG⟩
instance:JE prog 111 [.int .i64 0,.int .i64 0,.string ⟨#[]⟩]:=⟨adE⟩
instance:JE prog 129 [.bool false,.bool false,.int .i64 0,.int .i64 0]:=⟨Qu⟩
instance:JE prog 160 [.int .i64 0,.string ⟨#[]⟩,.int .i64 0,.string ⟨#[]⟩]:=⟨adH⟩
instance:JE prog 174 [.bool false,.string ⟨#[]⟩,.int .i64 0,.string ⟨#[]⟩]:=⟨vO⟩
instance:JE prog 31 [.int .i64 0,.slice none 0 0,.slice none 0 0]:=⟨ajY⟩
instance:JE prog 4 [.bool false]:=⟨zv4⟩
instance:JE prog 41 [.slice none 0 0]:=⟨ajZ⟩
instance:JE prog 45 [.slice none 0 0,.int .i64 0,.slice none 0 0,.slice none 0 0,.slice none 0 0,.slice none 0 0,.slice none 0 0]:=⟨adC⟩
instance:JE prog 58 [.int .i64 0,.string ⟨#[]⟩]:=⟨KW⟩
instance:JE prog 60 [.int .i64 0,.string ⟨#[]⟩,.string ⟨#[]⟩,.slice none 0 0,.int .i64 0,.int .i64 0,.int .i64 0,.bool false]:=⟨uG⟩
instance:JE prog 69 [.bool false,.slice none 0 0,.int .i64 0,.int .i64 0]:=⟨TG⟩
instance:JE prog 79 [.int .i64 0,.string ⟨#[]⟩,.string ⟨#[]⟩]:=⟨aj0⟩
instance:JE prog 83 [.int .i64 0,.string ⟨#[]⟩,.string ⟨#[]⟩,.int .i64 0]:=⟨TH⟩
instance:JE prog 96 [.int .i64 0,.string ⟨#[]⟩,.bool false,.int .i64 0,.slice none 0 0,.slice none 0 0]:=⟨adD⟩
theorem cf5:CF prog 5:=call5
theorem cf6:CF prog 6:=call6
theorem cf7:CF prog 7:=call7
theorem cf8:CF prog 8:=call8
theorem cf9:CF prog 9:=call9
theorem YJ:CF prog 10:=call10
theorem kn:CF prog 11:=call11
theorem YK:CF prog 12:=call12
theorem adJ:CF prog 13:=call13
theorem adK:CF prog 14:=call14
theorem adL:CF prog 15:=call15
theorem YL:CF prog 16:=call16
theorem YM:CF prog 17:=call17
theorem adM:CF prog 18:=call18
theorem aj2:CF prog 19:=call19
theorem adN:CF prog 20:=call20
theorem aj3:CF prog 21:=call21
theorem C4:CF prog 22:=call22
theorem adO:CF prog 23:=call23
theorem vR:CF prog 24:=call24
theorem N1:CF prog 25:=call25
theorem adP:CF prog 26:=call26
theorem aj4:CF prog 27:=call27
theorem aj5:CF prog 28:=call28
theorem YN:CF prog 29:=call29
theorem Qx:CF prog 30:=call30
theorem N2:CF prog 31:=call31
theorem adQ:CF prog 32:=call32
theorem YO:CF prog 33:=call33
theorem aj6:CF prog 34:=call34
theorem aj7:CF prog 35:=call35
theorem YP:CF prog 36:=call36
theorem YQ:CF prog 37:=call37
theorem aj8:CF prog 38:=call38
theorem adR:CF prog 39:=call39
theorem aj9:CF prog 40:=call40
theorem N3:CF prog 41:=call41
theorem adS:CF prog 42:=call42
theorem YR:CF prog 43:=call43
theorem adT:CF prog 44:=call44
theorem adU:CF prog 45:=call45
theorem adV:CF prog 46:=call46
theorem aka:CF prog 47:=call47
theorem adW:CF prog 48:=call48
theorem adX:CF prog 49:=call49
theorem akb:CF prog 50:=call50
theorem adY:CF prog 51:=call51
theorem akc:CF prog 52:=call52
theorem akd:CF prog 53:=call53
theorem ake:CF prog 54:=call54
theorem akf:CF prog 55:=call55
theorem Uc:CF prog 56:=call56
theorem Ud:CF prog 57:=call57
theorem Qy:CF prog 58:=call58
theorem akg:CF prog 59:=call59
theorem akh:CF prog 60:=call60
theorem aki:CF prog 61:=call61
theorem akj:CF prog 62:=call62
theorem akk:CF prog 63:=call63
theorem adZ:CF prog 64:=call64
theorem akl:CF prog 65:=call65
theorem Ue:CF prog 66:=call66
theorem ad0:CF prog 67:=call67
theorem ad1:CF prog 68:=call68
theorem YS:CF prog 69:=call69
theorem akm:CF prog 70:=call70
theorem akn:CF prog 71:=call71
theorem ako:CF prog 72:=call72
theorem akp:CF prog 73:=call73
theorem ad2:CF prog 74:=call74
theorem akq:CF prog 75:=call75
theorem ad3:CF prog 76:=call76
theorem akr:CF prog 77:=call77
theorem aks:CF prog 78:=call78
theorem akt:CF prog 79:=call79
theorem aku:CF prog 80:=call80
theorem akv:CF prog 81:=call81
theorem akw:CF prog 82:=call82
theorem YT:CF prog 83:=call83
theorem akx:CF prog 84:=call84
theorem N4:CF prog 85:=call85
theorem aky:CF prog 86:=call86
theorem akz:CF prog 87:=call87
theorem akA:CF prog 88:=call88
theorem akB:CF prog 90:=call90
theorem ad4:CF prog 91:=call91
theorem akC:CF prog 92:=call92
theorem akD:CF prog 93:=call93
theorem akE:CF prog 94:=call94
theorem akF:CF prog 95:=call95
theorem ad5:CF prog 96:=call96
theorem ad6:CF prog 97:=call97
theorem akG:CF prog 98:=call98
theorem akH:CF prog 99:=call99
theorem ad7:CF prog 100:=call100
theorem ad8:CF prog 101:=call101
theorem VI:CF prog 102:=call102
theorem VJ:CF prog 104:=call104
theorem VK:CF prog 105:=call105
theorem VL:CF prog 106:=call106
theorem ad9:CF prog 107:=call107
theorem aea:CF prog 108:=call108
theorem aeb:CF prog 109:=call109
theorem VM:CF prog 110:=call110
theorem VN:CF prog 112:=call112
theorem VO:CF prog 113:=call113
theorem VP:CF prog 114:=call114
theorem Qz:CF prog 115:=call115
theorem VQ:CF prog 116:=call116
theorem VR:CF prog 117:=call117
theorem VS:CF prog 118:=call118
theorem aec:CF prog 119:=call119
theorem VT:CF prog 120:=call120
theorem MC:CF prog 121:=call121
theorem aed:CF prog 122:=call122
theorem aee:CF prog 123:=call123
theorem VU:CF prog 124:=call124
theorem VV:CF prog 125:=call125
theorem QA:CF prog 126:=call126
theorem aef:CF prog 127:=call127
theorem VW:CF prog 128:=call128
theorem aeg:CF prog 129:=call129
theorem MD:CF prog 130:=call130
theorem aeh:CF prog 131:=call131
theorem aei:CF prog 132:=call132
theorem aej:CF prog 133:=call133
theorem VX:CF prog 134:=call134
theorem aek:CF prog 135:=call135
theorem ael:CF prog 136:=call136
theorem QB:CF prog 137:=call137
theorem aem:CF prog 138:=call138
theorem aen:CF prog 139:=call139
theorem aeo:CF prog 140:=call140
theorem aep:CF prog 141:=call141
theorem aeq:CF prog 142:=call142
theorem aer:CF prog 143:=call143
theorem aes:CF prog 144:=call144
theorem aet:CF prog 145:=call145
theorem aeu:CF prog 146:=call146
theorem aev:CF prog 147:=call147
theorem aew:CF prog 148:=call148
theorem aex:CF prog 150:=call150
theorem aey:CF prog 153:=call153
theorem VY:CF prog 154:=call154
theorem aez:CF prog 155:=call155
theorem ME:CF prog 157:=call157
theorem aeA:CF prog 158:=call158
theorem aeB:CF prog 159:=call159
theorem aeC:CF prog 160:=call160
theorem aeD:CF prog 161:=call161
theorem VZ:CF prog 162:=call162
theorem V0:CF prog 163:=call163
theorem aeE:CF prog 164:=call164
theorem aeF:CF prog 165:=call165
theorem aeG:CF prog 166:=call166
theorem aeH:CF prog 167:=call167
theorem aeI:CF prog 168:=call168
theorem aeJ:CF prog 169:=call169
theorem V2:CF prog 170:=call170
theorem V3:CF prog 171:=call171
theorem aeK:CF prog 172:=call172
theorem aeL:CF prog 173:=call173
theorem aeM:CF prog 178:=call178
theorem V4:CF prog 179:=call179
theorem aeN:CF prog 181:=call181
theorem aeO:CF prog 183:=call183
theorem aeP:CF prog 185:=call185
theorem aeQ:CF prog 186:=call186
theorem aeR:CF prog 187:=call187
theorem aeS:CF prog 188:=call188
theorem aeT:CF prog 189:=call189
theorem aeU:CF prog 190:=call190
theorem aeV:CF prog 191:=call191
theorem aeW:CF prog 226:=call226
theorem aeX:CF prog 227:=call227
theorem aeY:CF prog 228:=call228
theorem aeZ:CF prog 229:=call229
theorem ae0:CF prog 234:=call234
theorem ae1:CF prog 235:=call235
theorem ae2:CF prog 314:=call314
theorem ae3:CF prog 331:=call331
instance:jo prog 5:=⟨cf5⟩
instance:jo prog 19:=⟨aj2⟩
instance:jo prog 21:=⟨aj3⟩
instance:jo prog 23:=⟨adO⟩
instance:jo prog 25:=⟨N1⟩
instance:jo prog 30:=⟨Qx⟩
instance:jo prog 31:=⟨N2⟩
instance:jo prog 32:=⟨adQ⟩
instance:jo prog 33:=⟨YO⟩
instance:jo prog 41:=⟨N3⟩
instance:jo prog 47:=⟨aka⟩
instance:jo prog 49:=⟨adX⟩
instance:jo prog 50:=⟨akb⟩
instance:jo prog 57:=⟨Ud⟩
instance:jo prog 64:=⟨adZ⟩
instance:jo prog 68:=⟨ad1⟩
instance:jo prog 69:=⟨YS⟩
instance:jo prog 76:=⟨ad3⟩
instance:jo prog 81:=⟨akv⟩
instance:jo prog 82:=⟨akw⟩
instance:jo prog 84:=⟨akx⟩
instance:jo prog 86:=⟨aky⟩
instance:jo prog 87:=⟨akz⟩
instance:jo prog 88:=⟨akA⟩
instance:jo prog 90:=⟨akB⟩
instance:jo prog 92:=⟨akC⟩
instance:jo prog 96:=⟨ad5⟩
instance:jo prog 99:=⟨akH⟩
instance:jo prog 100:=⟨ad7⟩
instance:jo prog 102:=⟨VI⟩
instance:jo prog 104:=⟨VJ⟩
instance:jo prog 106:=⟨VL⟩
instance:jo prog 108:=⟨aea⟩
instance:jo prog 116:=⟨VQ⟩
instance:jo prog 118:=⟨VS⟩
instance:jo prog 119:=⟨aec⟩
instance:jo prog 123:=⟨aee⟩
instance:jo prog 130:=⟨MD⟩
instance:jo prog 131:=⟨aeh⟩
instance:jo prog 132:=⟨aei⟩
instance:jo prog 133:=⟨aej⟩
instance:jo prog 134:=⟨VX⟩
instance:jo prog 135:=⟨aek⟩
instance:jo prog 137:=⟨QB⟩
instance:jo prog 138:=⟨aem⟩
instance:jo prog 139:=⟨aen⟩
instance:jo prog 140:=⟨aeo⟩
instance:jo prog 141:=⟨aep⟩
instance:jo prog 146:=⟨aeu⟩
instance:jo prog 153:=⟨aey⟩
instance:jo prog 158:=⟨aeA⟩
instance:jo prog 159:=⟨aeB⟩
instance:jo prog 165:=⟨aeF⟩
instance:jo prog 166:=⟨aeG⟩
instance:jo prog 167:=⟨aeH⟩
instance:jo prog 168:=⟨aeI⟩
instance:jo prog 169:=⟨aeJ⟩
instance:jo prog 171:=⟨V3⟩
instance:jo prog 173:=⟨aeL⟩
instance:jo prog 183:=⟨aeO⟩
instance:jo prog 185:=⟨aeP⟩
instance:jo prog 187:=⟨aeR⟩
instance:jo prog 191:=⟨aeV⟩
instance:jo prog 226:=⟨aeW⟩
instance:jo prog 227:=⟨aeX⟩
instance:jo prog 228:=⟨aeY⟩
instance:jo prog 229:=⟨aeZ⟩
instance:jo prog 331:=⟨ae3⟩
end Go.Rc

