/- Walks over the program, part Facts. Conditions: as each theorem says. -/
import Derived.Test.YtjpagoacbadijaaGreatDoorProg
import Derived.Test.YtjpagoacbadijaaGreatDoorVBd
set_option linter.all false
namespace Go.Rc
open Go Go.Proofs Go.Proofs.Tryz
theorem mixed:prog.follows .mixedOrders=true:=by kernel_rfl
theorem gY:Ly prog 39:=Rh underlying39 rfl rfl rfl rfl (by decide) (by decide) underlying3 underlying9 isAgg3 isAgg9 (by kernel_rfl) (by kernel_rfl)
theorem aP:wE prog 31 3:=⟨⟨_,underlying31⟩,by kernel_rfl⟩
theorem aq:wE prog 39 2:=⟨⟨_,underlying39⟩,by kernel_rfl⟩
theorem xc:wE prog 42 3:=⟨⟨_,underlying42⟩,by kernel_rfl⟩
theorem eB:wE prog 48 8:=⟨⟨_,underlying48⟩,by kernel_rfl⟩
theorem xd:wE prog 59 4:=⟨⟨_,underlying59⟩,by kernel_rfl⟩
theorem su:wE prog 61 4:=⟨⟨_,underlying61⟩,by kernel_rfl⟩
theorem GU:wE prog 71 3:=⟨⟨_,underlying71⟩,by kernel_rfl⟩
theorem l6:wE prog 102 4:=⟨⟨_,underlying102⟩,by kernel_rfl⟩
theorem fi:wE prog 109 7:=⟨⟨_,underlying109⟩,by kernel_rfl⟩
theorem D3:wE prog 126 4:=⟨⟨_,underlying126⟩,by kernel_rfl⟩
theorem ko:wE prog 144 4:=⟨⟨_,underlying144⟩,by kernel_rfl⟩
theorem vS:wE prog 151 6:=⟨⟨_,underlying151⟩,by kernel_rfl⟩
theorem ah6:AP prog 22 3 1 8:=sc (z:=.int .i64 0) underlying22 (by kernel_rfl) (by kernel_rfl) (by decide)
theorem ah7:AP prog 27 59 4 48:=sc (z:=.agg #[.bool false,.slice none 0 0,.int .i64 0,.int .i64 0]) underlying27 (by kernel_rfl) (by kernel_rfl) (by decide)
theorem ah8:AP prog 28 102 4 48:=sc (z:=.agg #[.int .i64 0,.string ⟨#[]⟩,.string ⟨#[]⟩,.int .i64 0]) underlying28 (by kernel_rfl) (by kernel_rfl) (by decide)
theorem Xb:AP prog 29 48 8 96:=sc (z:=.agg #[.int .i64 0,.string ⟨#[]⟩,.string ⟨#[]⟩,.slice none 0 0,.int .i64 0,.int .i64 0,.int .i64 0,.bool false]) underlying29 (by kernel_rfl) (by kernel_rfl) (by decide)
theorem rU:AP prog 34 39 2 24:=sc (z:=.agg #[.int .i64 0,.string ⟨#[]⟩]) underlying34 (by kernel_rfl) (by kernel_rfl) (by decide)
theorem ah9:AP prog 57 61 4 24:=sc (z:=.agg #[.bool false,.bool false,.int .i64 0,.int .i64 0]) underlying57 (by kernel_rfl) (by kernel_rfl) (by decide)
theorem aia:AP prog 64 71 3 40:=sc (z:=.agg #[.int .i64 0,.string ⟨#[]⟩,.string ⟨#[]⟩]) underlying64 (by kernel_rfl) (by kernel_rfl) (by decide)
theorem O4:AP prog 107 151 6 88:=sc (z:=.agg #[.int .i64 0,.string ⟨#[]⟩,.bool false,.int .i64 0,.slice none 0 0,.slice none 0 0]) underlying107 (by kernel_rfl) (by kernel_rfl) (by decide)
theorem aca:AP prog 122 126 4 48:=sc (z:=.agg #[.int .i64 0,.string ⟨#[]⟩,.int .i64 0,.string ⟨#[]⟩]) underlying122 (by kernel_rfl) (by kernel_rfl) (by decide)
theorem K5:AP prog 142 9 1 16:=sc (z:=.string ⟨#[]⟩) underlying142 (by kernel_rfl) (by kernel_rfl) (by decide)
theorem O5:BS prog 22 3 1 1 [.int .i64 0]:=⟨underlying22,sizeOf3,by decide,by decide,_,zeroValue3,by kernel_rfl⟩
theorem O6:BS prog 27 59 4 1 [.bool false,.slice none 0 0,.int .i64 0,.int .i64 0]:=⟨underlying27,sizeOf59,by decide,by decide,_,zeroValue59,by kernel_rfl⟩
theorem Jm:BS prog 28 102 4 1 [.int .i64 0,.string ⟨#[]⟩,.string ⟨#[]⟩,.int .i64 0]:=⟨underlying28,sizeOf102,by decide,by decide,_,zeroValue102,by kernel_rfl⟩
theorem tu:BS prog 29 48 8 1 [.int .i64 0,.string ⟨#[]⟩,.string ⟨#[]⟩,.slice none 0 0,.int .i64 0,.int .i64 0,.int .i64 0,.bool false]:=⟨underlying29,sizeOf48,by decide,by decide,_,zeroValue48,by kernel_rfl⟩
theorem eM:BS prog 34 39 2 1 [.int .i64 0,.string ⟨#[]⟩]:=⟨underlying34,sizeOf39,by decide,by decide,_,zeroValue39,by kernel_rfl⟩
theorem Jn:BS prog 57 61 4 1 [.bool false,.bool false,.int .i64 0,.int .i64 0]:=⟨underlying57,sizeOf61,by decide,by decide,_,zeroValue61,by kernel_rfl⟩
theorem O7:BS prog 64 71 3 1 [.int .i64 0,.string ⟨#[]⟩,.string ⟨#[]⟩]:=⟨underlying64,sizeOf71,by decide,by decide,_,zeroValue71,by kernel_rfl⟩
theorem uH:BS prog 107 151 6 1 [.int .i64 0,.string ⟨#[]⟩,.bool false,.int .i64 0,.slice none 0 0,.slice none 0 0]:=⟨underlying107,sizeOf151,by decide,by decide,_,zeroValue151,by kernel_rfl⟩
theorem K6:BS prog 122 126 4 1 [.int .i64 0,.string ⟨#[]⟩,.int .i64 0,.string ⟨#[]⟩]:=⟨underlying122,sizeOf126,by decide,by decide,_,zeroValue126,by kernel_rfl⟩
theorem mn:BS prog 142 9 1 1 [.string ⟨#[]⟩]:=⟨underlying142,sizeOf9,by decide,by decide,_,zeroValue9,by kernel_rfl⟩
theorem O8:BS prog 142 9 1 10 [.string ⟨#[]⟩,.string ⟨#[]⟩,.string ⟨#[]⟩,.string ⟨#[]⟩,.string ⟨#[]⟩,.string ⟨#[]⟩,.string ⟨#[]⟩,.string ⟨#[]⟩,.string ⟨#[]⟩,.string ⟨#[]⟩]:=⟨underlying142,sizeOf9,by decide,by decide,_,zeroValue9,by kernel_rfl⟩
theorem Xc:BS prog 22 3 1 2 [.int .i64 0,.int .i64 0]:=⟨underlying22,sizeOf3,by decide,by decide,_,zeroValue3,by kernel_rfl⟩
theorem Xd:BS prog 27 59 4 2 [.bool false,.slice none 0 0,.int .i64 0,.int .i64 0,.bool false,.slice none 0 0,.int .i64 0,.int .i64 0]:=⟨underlying27,sizeOf59,by decide,by decide,_,zeroValue59,by kernel_rfl⟩
theorem Xe:BS prog 34 39 2 3 [.int .i64 0,.string ⟨#[]⟩,.int .i64 0,.string ⟨#[]⟩,.int .i64 0,.string ⟨#[]⟩]:=⟨underlying34,sizeOf39,by decide,by decide,_,zeroValue39,by kernel_rfl⟩
theorem Xf:BS prog 22 3 1 6 [.int .i64 0,.int .i64 0,.int .i64 0,.int .i64 0,.int .i64 0,.int .i64 0]:=⟨underlying22,sizeOf3,by decide,by decide,_,zeroValue3,by kernel_rfl⟩
theorem acb:BT prog 31 [.int .i64 0,.slice none 0 0,.slice none 0 0] [(0,1),(1,1),(2,1)]:=kO (fs:=[_,_,_]) zeroValue31 rfl underlying31 ⟨rfl,sizeOf3,rfl,sizeOf28,rfl,sizeOf29,trivial⟩
theorem D4:BT prog 39 [.int .i64 0,.string ⟨#[]⟩] [(0,1),(1,1)]:=kO (fs:=[_,_]) zeroValue39 rfl underlying39 ⟨rfl,sizeOf3,rfl,sizeOf9,trivial⟩
theorem Mv:BT prog 42 [.int .i64 0,.int .i64 0,.string ⟨#[]⟩] [(0,1),(1,2)]:=kO (fs:=[_,_]) zeroValue42 rfl underlying42 ⟨rfl,sizeOf3,rfl,sizeOf39,trivial⟩
theorem acd:BT prog 48 [.int .i64 0,.string ⟨#[]⟩,.string ⟨#[]⟩,.slice none 0 0,.int .i64 0,.int .i64 0,.int .i64 0,.bool false] [(0,2),(2,1),(3,1),(4,1),(5,1),(6,1),(7,1)]:=kO (fs:=[_,_,_,_,_,_,_]) zeroValue48 rfl underlying48 ⟨rfl,sizeOf39,rfl,sizeOf9,rfl,sizeOf34,rfl,sizeOf3,rfl,sizeOf3,rfl,sizeOf3,rfl,sizeOf4,trivial⟩
theorem Sl:BT prog 59 [.bool false,.slice none 0 0,.int .i64 0,.int .i64 0] [(0,1),(1,1),(2,1),(3,1)]:=kO (fs:=[_,_,_,_]) zeroValue59 rfl underlying59 ⟨rfl,sizeOf4,rfl,sizeOf57,rfl,sizeOf3,rfl,sizeOf3,trivial⟩
theorem Sm:BT prog 61 [.bool false,.bool false,.int .i64 0,.int .i64 0] [(0,1),(1,1),(2,1),(3,1)]:=kO (fs:=[_,_,_,_]) zeroValue61 rfl underlying61 ⟨rfl,sizeOf4,rfl,sizeOf4,rfl,sizeOf3,rfl,sizeOf3,trivial⟩
theorem ace:BT prog 71 [.int .i64 0,.string ⟨#[]⟩,.string ⟨#[]⟩] [(0,2),(2,1)]:=kO (fs:=[_,_]) zeroValue71 rfl underlying71 ⟨rfl,sizeOf39,rfl,sizeOf9,trivial⟩
theorem aib:BT prog 74 [.slice none 0 0,.int .i64 0] [(0,1),(1,1)]:=kO (fs:=[_,_]) zeroValue74 rfl underlying74 ⟨rfl,sizeOf22,rfl,sizeOf3,trivial⟩
theorem aic:BT prog 88 [.pointer none,.int .i64 0,.slice none 0 0,.slice none 0 0,.map none,.slice none 0 0,.int .i64 0] [(0,1),(1,3),(4,1),(5,1),(6,1)]:=kO (fs:=[_,_,_,_,_]) zeroValue88 rfl underlying88 ⟨rfl,sizeOf84,rfl,sizeOf31,rfl,sizeOf86,rfl,sizeOf34,rfl,sizeOf35,trivial⟩
theorem K7:BT prog 102 [.int .i64 0,.string ⟨#[]⟩,.string ⟨#[]⟩,.int .i64 0] [(0,2),(2,1),(3,1)]:=kO (fs:=[_,_,_]) zeroValue102 rfl underlying102 ⟨rfl,sizeOf39,rfl,sizeOf9,rfl,sizeOf3,trivial⟩
theorem Uf:BT prog 109 [.slice none 0 0,.int .i64 0,.slice none 0 0,.slice none 0 0,.slice none 0 0,.slice none 0 0,.slice none 0 0] [(0,1),(1,3),(4,1),(5,1),(6,1)]:=kO (fs:=[_,_,_,_,_]) zeroValue109 rfl underlying109 ⟨rfl,sizeOf27,rfl,sizeOf31,rfl,sizeOf34,rfl,sizeOf107,rfl,sizeOf34,trivial⟩
theorem acf:BT prog 121 [.slice none 0 0,.int .i64 0,.slice none 0 0,.slice none 0 0,.map none,.pointer none,.slice none 0 0] [(0,1),(1,3),(4,1),(5,1),(6,1)]:=kO (fs:=[_,_,_,_,_]) zeroValue121 rfl underlying121 ⟨rfl,sizeOf27,rfl,sizeOf31,rfl,sizeOf118,rfl,sizeOf119,rfl,sizeOf34,trivial⟩
theorem Ug:BT prog 126 [.int .i64 0,.string ⟨#[]⟩,.int .i64 0,.string ⟨#[]⟩] [(0,2),(2,2)]:=kO (fs:=[_,_]) zeroValue126 rfl underlying126 ⟨rfl,sizeOf39,rfl,sizeOf39,trivial⟩
theorem acg:BT prog 134 [.slice none 0 0,.int .i64 0,.slice none 0 0,.slice none 0 0,.map none,.map none] [(0,1),(1,3),(4,1),(5,1)]:=kO (fs:=[_,_,_,_]) zeroValue134 rfl underlying134 ⟨rfl,sizeOf27,rfl,sizeOf31,rfl,sizeOf131,rfl,sizeOf132,trivial⟩
theorem pM:BT prog 144 [.bool false,.string ⟨#[]⟩,.int .i64 0,.string ⟨#[]⟩] [(0,1),(1,1),(2,2)]:=kO (fs:=[_,_,_]) zeroValue144 rfl underlying144 ⟨rfl,sizeOf4,rfl,sizeOf9,rfl,sizeOf39,trivial⟩
theorem O9:BT prog 151 [.int .i64 0,.string ⟨#[]⟩,.bool false,.int .i64 0,.slice none 0 0,.slice none 0 0] [(0,2),(2,1),(3,1),(4,1),(5,1)]:=kO (fs:=[_,_,_,_,_]) zeroValue151 rfl underlying151 ⟨rfl,sizeOf39,rfl,sizeOf4,rfl,sizeOf3,rfl,sizeOf34,rfl,sizeOf142,trivial⟩
theorem ach:BT prog 184 [.slice none 0 0,.int .i64 0,.slice none 0 0,.slice none 0 0,.map none,.map none] [(0,1),(1,3),(4,1),(5,1)]:=kO (fs:=[_,_,_,_]) zeroValue184 rfl underlying184 ⟨rfl,sizeOf27,rfl,sizeOf31,rfl,sizeOf131,rfl,sizeOf86,trivial⟩
theorem K8:BT prog 503 [.string ⟨#[]⟩,.string ⟨#[]⟩,.nilIface] [(0,1),(1,1),(2,1)]:=kO (fs:=[_,_,_]) zeroValue503 rfl underlying503 ⟨rfl,sizeOf9,rfl,sizeOf9,rfl,sizeOf205,trivial⟩
theorem eG:KK prog 39 Key.val:=Vy underlying39 gY (LF underlying39 rfl rfl rfl rfl underlying3 underlying9 isAgg3 isAgg9)
theorem D5:∃ms,prog.underlying 205=some (.interface ms):=⟨_,underlying205⟩
theorem aU:One prog 3:=isAgg3
theorem fq:One prog 4:=isAgg4
theorem iF:One prog 9:=isAgg9
theorem Uh:One prog 22:=isAgg22
theorem me:One prog 27:=isAgg27
theorem oI:One prog 28:=isAgg28
theorem fk:One prog 29:=isAgg29
theorem gJ:One prog 34:=isAgg34
theorem C3:One prog 35:=isAgg35
theorem mT:One prog 57:=isAgg57
theorem Pa:One prog 76:=isAgg76
theorem Pb:One prog 84:=isAgg84
theorem xe:One prog 86:=isAgg86
theorem zP:One prog 107:=isAgg107
theorem ju:One prog 118:=isAgg118
theorem zQ:One prog 119:=isAgg119
theorem iL:One prog 131:=isAgg131
theorem D6:One prog 142:=isAgg142
theorem D7:One prog 205:=isAgg205
theorem Jo:Cc prog 22 3 1:=⟨underlying22,sizeOf3⟩
theorem ll:Cc prog 27 59 4:=⟨underlying27,sizeOf59⟩
theorem xU:Cc prog 28 102 4:=⟨underlying28,sizeOf102⟩
theorem kK:Cc prog 29 48 8:=⟨underlying29,sizeOf48⟩
theorem fV:Cc prog 34 39 2:=⟨underlying34,sizeOf39⟩
theorem Bx:Cc prog 57 61 4:=⟨underlying57,sizeOf61⟩
theorem Mw:Cc prog 64 71 3:=⟨underlying64,sizeOf71⟩
theorem xf:Cc prog 107 151 6:=⟨underlying107,sizeOf151⟩
theorem K9:Cc prog 122 126 4:=⟨underlying122,sizeOf126⟩
theorem sw:Cc prog 142 9 1:=⟨underlying142,sizeOf9⟩
theorem Ui:Cc prog 191 5 1:=⟨underlying191,sizeOf5⟩
theorem aid:∀w,(sizeOf 39).run prog w=.ok 2 w:=sizeOf39
theorem aie:∀w,(sizeOf 48).run prog w=.ok 8 w:=sizeOf48
theorem aci:∀w,(sizeOf 102).run prog w=.ok 4 w:=sizeOf102
theorem QT:(prog.info? 3).map (·.size)=some 1:=by kernel_rfl
theorem sz4:(prog.info? 4).map (·.size)=some 1:=by kernel_rfl
theorem aif:(prog.info? 28).map (·.size)=some 1:=by kernel_rfl
theorem aih:(prog.info? 29).map (·.size)=some 1:=by kernel_rfl
theorem fR:(prog.info? 31).map (·.size)=some 3:=by kernel_rfl
theorem ack:(prog.info? 34).map (·.size)=some 1:=by kernel_rfl
theorem aii:(prog.info? 35).map (·.size)=some 1:=by kernel_rfl
theorem jz:(prog.info? 39).map (·.size)=some 2:=by kernel_rfl
theorem D8:(prog.info? 42).map (·.size)=some 3:=by kernel_rfl
theorem iM:(prog.info? 48).map (·.size)=some 8:=by kernel_rfl
theorem aij:(prog.info? 57).map (·.size)=some 1:=by kernel_rfl
theorem Jp:(prog.info? 59).map (·.size)=some 4:=by kernel_rfl
theorem Jq:(prog.info? 61).map (·.size)=some 4:=by kernel_rfl
theorem Pc:(prog.info? 71).map (·.size)=some 3:=by kernel_rfl
theorem xh:(prog.info? 102).map (·.size)=some 4:=by kernel_rfl
theorem acm:(prog.info? 107).map (·.size)=some 1:=by kernel_rfl
theorem lM:(prog.info? 109).map (·.size)=some 7:=by kernel_rfl
theorem Pd:(prog.info? 126).map (·.size)=some 4:=by kernel_rfl
theorem acn:(prog.info? 131).map (·.size)=some 1:=by kernel_rfl
theorem Uj:(prog.info? 142).map (·.size)=some 1:=by kernel_rfl
theorem iS:(prog.info? 144).map (·.size)=some 4:=by kernel_rfl
theorem La:(prog.info? 151).map (·.size)=some 6:=by kernel_rfl
theorem aik:prog.underlying 3=some (.int .i64):=underlying3
theorem Xg:prog.underlying 4=some (.bool):=underlying4
theorem ail:prog.underlying 5=some (.int .u8):=underlying5
theorem vT:prog.underlying 9=some (.string):=underlying9
theorem Uk:prog.underlying 28=some (.slice 102):=underlying28
theorem Ul:prog.underlying 29=some (.slice 48):=underlying29
theorem Um:prog.underlying 34=some (.slice 39):=underlying34
theorem kS:prog.underlying 86=some (.map 39 4):=underlying86
theorem Xh:prog.underlying 117=some (.pointer 48):=underlying117
theorem jv:prog.underlying 118=some (.map 39 117):=underlying118
theorem fj:prog.underlying 131=some (.map 39 9):=underlying131
theorem Pe:prog.underlying 132=some (.map 39 34):=underlying132
theorem zv4:ZV prog 4 [.bool false]:=⟨_,zeroValue4,rfl⟩
theorem aim:ZV prog 31 [.int .i64 0,.slice none 0 0,.slice none 0 0]:=⟨_,zeroValue31,rfl⟩
theorem ain:ZV prog 34 [.slice none 0 0]:=⟨_,zeroValue34,rfl⟩
theorem Jr:ZV prog 39 [.int .i64 0,.string ⟨#[]⟩]:=⟨_,zeroValue39,rfl⟩
theorem aco:ZV prog 42 [.int .i64 0,.int .i64 0,.string ⟨#[]⟩]:=⟨_,zeroValue42,rfl⟩
theorem tv:ZV prog 48 [.int .i64 0,.string ⟨#[]⟩,.string ⟨#[]⟩,.slice none 0 0,.int .i64 0,.int .i64 0,.int .i64 0,.bool false]:=⟨_,zeroValue48,rfl⟩
theorem Sn:ZV prog 59 [.bool false,.slice none 0 0,.int .i64 0,.int .i64 0]:=⟨_,zeroValue59,rfl⟩
theorem Xi:ZV prog 61 [.bool false,.bool false,.int .i64 0,.int .i64 0]:=⟨_,zeroValue61,rfl⟩
theorem aio:ZV prog 71 [.int .i64 0,.string ⟨#[]⟩,.string ⟨#[]⟩]:=⟨_,zeroValue71,rfl⟩
theorem Lc:ZV prog 102 [.int .i64 0,.string ⟨#[]⟩,.string ⟨#[]⟩,.int .i64 0]:=⟨_,zeroValue102,rfl⟩
theorem Un:ZV prog 109 [.slice none 0 0,.int .i64 0,.slice none 0 0,.slice none 0 0,.slice none 0 0,.slice none 0 0,.slice none 0 0]:=⟨_,zeroValue109,rfl⟩
theorem acp:ZV prog 126 [.int .i64 0,.string ⟨#[]⟩,.int .i64 0,.string ⟨#[]⟩]:=⟨_,zeroValue126,rfl⟩
theorem acq:ZV prog 131 [.map none]:=⟨_,zeroValue131,rfl⟩
theorem uI:ZV prog 144 [.bool false,.string ⟨#[]⟩,.int .i64 0,.string ⟨#[]⟩]:=⟨_,zeroValue144,rfl⟩
theorem Uo:ZV prog 151 [.int .i64 0,.string ⟨#[]⟩,.bool false,.int .i64 0,.slice none 0 0,.slice none 0 0]:=⟨_,zeroValue151,rfl⟩
theorem GV:∀w,(zeroValue 4).run prog w=.ok (.bool false) w:=zeroValue4
theorem pj:∀w,(zeroValue 9).run prog w=.ok (.string ⟨#[]⟩) w:=zeroValue9
theorem Up:∀w,(zeroValue 34).run prog w=.ok (.slice none 0 0) w:=zeroValue34
theorem jT:∀w,(zeroValue 117).run prog w=.ok (.pointer none) w:=zeroValue117
theorem nV:FA prog 31 0 0:=dc underlying31 rfl sizeOf3 (by decide) rfl
theorem zR:FA prog 31 1 1:=dc underlying31 rfl sizeOf28 (by decide) rfl
theorem vU:FA prog 31 2 2:=dc underlying31 rfl sizeOf29 (by decide) rfl
theorem eT:FA prog 39 0 0:=dc underlying39 rfl sizeOf3 (by decide) rfl
theorem tw:FA prog 39 1 1:=dc underlying39 rfl sizeOf9 (by decide) rfl
theorem Xj:FA prog 42 0 0:=dc underlying42 rfl sizeOf3 (by decide) rfl
theorem Xk:FA prog 42 1 1:=dc underlying42 rfl sizeOf39 (by decide) rfl
theorem tz:FA prog 48 0 0:=dc underlying48 rfl sizeOf39 (by decide) rfl
theorem zS:FA prog 48 1 2:=dc underlying48 rfl sizeOf9 (by decide) rfl
theorem D9:FA prog 48 2 3:=dc underlying48 rfl sizeOf34 (by decide) rfl
theorem zT:FA prog 48 3 4:=dc underlying48 rfl sizeOf3 (by decide) rfl
theorem tA:FA prog 48 4 5:=dc underlying48 rfl sizeOf3 (by decide) rfl
theorem Js:FA prog 48 5 6:=dc underlying48 rfl sizeOf3 (by decide) rfl
theorem Jt:FA prog 48 6 7:=dc underlying48 rfl sizeOf4 (by decide) rfl
theorem mU:FA prog 59 0 0:=dc underlying59 rfl sizeOf4 (by decide) rfl
theorem vV:FA prog 59 1 1:=dc underlying59 rfl sizeOf57 (by decide) rfl
theorem tB:FA prog 59 2 2:=dc underlying59 rfl sizeOf3 (by decide) rfl
theorem nW:FA prog 59 3 3:=dc underlying59 rfl sizeOf3 (by decide) rfl
theorem Ea:FA prog 61 0 0:=dc underlying61 rfl sizeOf4 (by decide) rfl
theorem zU:FA prog 61 1 1:=dc underlying61 rfl sizeOf4 (by decide) rfl
theorem Ju:FA prog 61 2 2:=dc underlying61 rfl sizeOf3 (by decide) rfl
theorem zV:FA prog 61 3 3:=dc underlying61 rfl sizeOf3 (by decide) rfl
theorem Xl:FA prog 71 0 0:=dc underlying71 rfl sizeOf39 (by decide) rfl
theorem Xm:FA prog 71 1 2:=dc underlying71 rfl sizeOf9 (by decide) rfl
theorem Pf:FA prog 74 0 0:=dc underlying74 rfl sizeOf22 (by decide) rfl
theorem Eb:FA prog 74 1 1:=dc underlying74 rfl sizeOf3 (by decide) rfl
theorem Xn:FA prog 88 0 0:=dc underlying88 rfl sizeOf84 (by decide) rfl
theorem Xo:FA prog 88 1 1:=dc underlying88 rfl sizeOf31 (by decide) rfl
theorem Xp:FA prog 88 2 4:=dc underlying88 rfl sizeOf86 (by decide) rfl
theorem Xq:FA prog 88 3 5:=dc underlying88 rfl sizeOf34 (by decide) rfl
theorem Xr:FA prog 88 4 6:=dc underlying88 rfl sizeOf35 (by decide) rfl
theorem rG:FA prog 102 0 0:=dc underlying102 rfl sizeOf39 (by decide) rfl
theorem Ec:FA prog 102 1 2:=dc underlying102 rfl sizeOf9 (by decide) rfl
theorem uJ:FA prog 102 2 3:=dc underlying102 rfl sizeOf3 (by decide) rfl
theorem Sp:FA prog 109 0 0:=dc underlying109 rfl sizeOf27 (by decide) rfl
theorem Sq:FA prog 109 1 1:=dc underlying109 rfl sizeOf31 (by decide) rfl
theorem Sr:FA prog 109 2 4:=dc underlying109 rfl sizeOf34 (by decide) rfl
theorem Ss:FA prog 109 3 5:=dc underlying109 rfl sizeOf107 (by decide) rfl
theorem Su:FA prog 109 4 6:=dc underlying109 rfl sizeOf34 (by decide) rfl
theorem Sv:FA prog 121 1 1:=dc underlying121 rfl sizeOf31 (by decide) rfl
theorem Sw:FA prog 121 2 4:=dc underlying121 rfl sizeOf118 (by decide) rfl
theorem Sx:FA prog 121 3 5:=dc underlying121 rfl sizeOf119 (by decide) rfl
theorem Sy:FA prog 126 0 0:=dc underlying126 rfl sizeOf39 (by decide) rfl
theorem SA:FA prog 126 1 2:=dc underlying126 rfl sizeOf39 (by decide) rfl
theorem SB:FA prog 134 0 0:=dc underlying134 rfl sizeOf27 (by decide) rfl
theorem SC:FA prog 134 1 1:=dc underlying134 rfl sizeOf31 (by decide) rfl
theorem SE:FA prog 134 2 4:=dc underlying134 rfl sizeOf131 (by decide) rfl
theorem SF:FA prog 144 0 0:=dc underlying144 rfl sizeOf4 (by decide) rfl
theorem SG:FA prog 144 1 1:=dc underlying144 rfl sizeOf9 (by decide) rfl
theorem SH:FA prog 144 2 2:=dc underlying144 rfl sizeOf39 (by decide) rfl
theorem Le:FA prog 151 0 0:=dc underlying151 rfl sizeOf39 (by decide) rfl
theorem SI:FA prog 151 1 2:=dc underlying151 rfl sizeOf4 (by decide) rfl
theorem SJ:FA prog 151 2 3:=dc underlying151 rfl sizeOf3 (by decide) rfl
theorem SK:FA prog 151 3 4:=dc underlying151 rfl sizeOf34 (by decide) rfl
theorem SM:FA prog 151 4 5:=dc underlying151 rfl sizeOf142 (by decide) rfl
theorem SN:FA prog 184 0 0:=dc underlying184 rfl sizeOf27 (by decide) rfl
theorem SO:FA prog 184 1 1:=dc underlying184 rfl sizeOf31 (by decide) rfl
theorem SP:FA prog 184 2 4:=dc underlying184 rfl sizeOf131 (by decide) rfl
theorem SQ:FA prog 184 3 5:=dc underlying184 rfl sizeOf86 (by decide) rfl
instance:N3 prog 107 151 6 88:=⟨O4⟩
instance:N3 prog 122 126 4 48:=⟨aca⟩
instance:N3 prog 142 9 1 16:=⟨K5⟩
instance:N3 prog 22 3 1 8:=⟨ah6⟩
instance:N3 prog 27 59 4 48:=⟨ah7⟩
instance:N3 prog 28 102 4 48:=⟨ah8⟩
instance:N3 prog 29 48 8 96:=⟨Xb⟩
instance:N3 prog 34 39 2 24:=⟨rU⟩
instance:N3 prog 57 61 4 24:=⟨ah9⟩
instance:N3 prog 64 71 3 40:=⟨aia⟩
instance:VD prog 102 [.int .i64 0,.string ⟨#[]⟩,.string ⟨#[]⟩,.int .i64 0] [(0,2),(2,1),(3,1)]:=⟨K7⟩
instance:VD prog 39 [.int .i64 0,.string ⟨#[]⟩] [(0,1),(1,1)]:=⟨D4⟩
instance:VD prog 42 [.int .i64 0,.int .i64 0,.string ⟨#[]⟩] [(0,1),(1,2)]:=⟨Mv⟩
instance:VD prog 48 [.int .i64 0,.string ⟨#[]⟩,.string ⟨#[]⟩,.slice none 0 0,.int .i64 0,.int .i64 0,.int .i64 0,.bool false] [(0,2),(2,1),(3,1),(4,1),(5,1),(6,1),(7,1)]:=⟨acd⟩
instance:kc prog 102 0 0:=⟨rG⟩
instance:kc prog 102 1 2:=⟨Ec⟩
instance:kc prog 102 2 3:=⟨uJ⟩
instance:kc prog 109 0 0:=⟨Sp⟩
instance:kc prog 109 1 1:=⟨Sq⟩
instance:kc prog 109 2 4:=⟨Sr⟩
instance:kc prog 109 3 5:=⟨Ss⟩
instance:kc prog 109 4 6:=⟨Su⟩
instance:kc prog 121 1 1:=⟨Sv⟩
instance:kc prog 121 2 4:=⟨Sw⟩
instance:kc prog 121 3 5:=⟨Sx⟩
instance:kc prog 126 0 0:=⟨Sy⟩
instance:kc prog 126 1 2:=⟨SA⟩
instance:kc prog 134 0 0:=⟨SB⟩
instance:kc prog 134 1 1:=⟨SC⟩
instance:kc prog 134 2 4:=⟨SE⟩
instance:kc prog 144 0 0:=⟨SF⟩
instance:kc prog 144 1 1:=⟨SG⟩
instance:kc prog 144 2 2:=⟨SH⟩
instance:kc prog 151 0 0:=⟨Le⟩
instance:kc prog 151 1 2:=⟨SI⟩
instance:kc prog 151 2 3:=⟨SJ⟩
instance:kc prog 151 3 4:=⟨SK⟩
instance:kc prog 151 4 5:=⟨SM⟩
instance:kc prog 184 0 0:=⟨SN⟩
instance:kc prog 184 1 1:=⟨SO⟩
instance:kc prog 184 2 4:=⟨SP⟩
instance:kc prog 184 3 5:=⟨SQ⟩
instance:kc prog 31 0 0:=⟨nV⟩
instance:kc prog 31 1 1:=⟨zR⟩
instance:kc prog 31 2 2:=⟨vU⟩
instance:kc prog 39 0 0:=⟨eT⟩
instance:kc prog 39 1 1:=⟨tw⟩
instance:kc prog 42 0 0:=⟨Xj⟩
instance:kc prog 42 1 1:=⟨Xk⟩
instance:kc prog 48 0 0:=⟨tz⟩
instance:kc prog 48 1 2:=⟨zS⟩
instance:kc prog 48 2 3:=⟨D9⟩
instance:kc prog 48 3 4:=⟨zT⟩
instance:kc prog 48 4 5:=⟨tA⟩
instance:kc prog 48 5 6:=⟨Js⟩
instance:kc prog 48 6 7:=⟨Jt⟩
instance:kc prog 59 0 0:=⟨mU⟩
instance:kc prog 59 1 1:=⟨vV⟩
instance:kc prog 59 2 2:=⟨tB⟩
instance:kc prog 59 3 3:=⟨nW⟩
instance:kc prog 61 0 0:=⟨Ea⟩
instance:kc prog 61 1 1:=⟨zU⟩
instance:kc prog 61 2 2:=⟨Ju⟩
instance:kc prog 61 3 3:=⟨zV⟩
instance:kc prog 71 0 0:=⟨Xl⟩
instance:kc prog 71 1 2:=⟨Xm⟩
instance:kc prog 88 0 0:=⟨Xn⟩
instance:kc prog 88 1 1:=⟨Xo⟩
instance:kc prog 88 2 4:=⟨Xp⟩
instance:kc prog 88 3 5:=⟨Xq⟩
instance:kc prog 88 4 6:=⟨Xr⟩
instance:Kn prog 107 151 6:=⟨xf⟩
instance:Kn prog 122 126 4:=⟨K9⟩
instance:Kn prog 142 9 1:=⟨sw⟩
instance:Kn prog 191 5 1:=⟨Ui⟩
instance:Kn prog 22 3 1:=⟨Jo⟩
instance:Kn prog 27 59 4:=⟨ll⟩
instance:Kn prog 28 102 4:=⟨xU⟩
instance:Kn prog 29 48 8:=⟨kK⟩
instance:Kn prog 34 39 2:=⟨fV⟩
instance:Kn prog 57 61 4:=⟨Bx⟩
instance:Kn prog 64 71 3:=⟨Mw⟩
instance:Nf prog 107 1:=⟨acm⟩
instance:Nf prog 131 1:=⟨acn⟩
instance:Nf prog 142 1:=⟨Uj⟩
instance:Nf prog 28 1:=⟨aif⟩
instance:Nf prog 29 1:=⟨aih⟩
instance:Nf prog 3 1:=⟨QT⟩
instance:Nf prog 34 1:=⟨ack⟩
instance:Nf prog 35 1:=⟨aii⟩
instance:Nf prog 4 1:=⟨sz4⟩
instance:Nf prog 57 1:=⟨aij⟩
instance:qn prog 117 (.pointer 48):=⟨Xh⟩
instance:qn prog 28 (.slice 102):=⟨Uk⟩
instance:qn prog 29 (.slice 48):=⟨Ul⟩
instance:qn prog 34 (.slice 39):=⟨Um⟩
instance:qn prog 9 (.string):=⟨vT⟩
instance:H3 prog 102 [.int .i64 0,.string ⟨#[]⟩,.string ⟨#[]⟩,.int .i64 0]:=⟨Lc⟩
instance:H3 prog 109 [.slice none 0 0,.int .i64 0,.slice none 0 0,.slice none 0 0,.slice none 0 0,.slice none 0 0,.slice none 0 0]:=⟨Un⟩
instance:H3 prog 126 [.int .i64 0,.string ⟨#[]⟩,.int .i64 0,.string ⟨#[]⟩]:=⟨acp⟩
instance:H3 prog 144 [.bool false,.string ⟨#[]⟩,.int .i64 0,.string ⟨#[]⟩]:=⟨uI⟩
instance:H3 prog 151 [.int .i64 0,.string ⟨#[]⟩,.bool false,.int .i64 0,.slice none 0 0,.slice none 0 0]:=⟨Uo⟩
instance:H3 prog 31 [.int .i64 0,.slice none 0 0,.slice none 0 0]:=⟨aim⟩
instance:H3 prog 34 [.slice none 0 0]:=⟨ain⟩
instance:H3 prog 39 [.int .i64 0,.string ⟨#[]⟩]:=⟨Jr⟩
instance:H3 prog 4 [.bool false]:=⟨zv4⟩
instance:H3 prog 42 [.int .i64 0,.int .i64 0,.string ⟨#[]⟩]:=⟨aco⟩
instance:H3 prog 48 [.int .i64 0,.string ⟨#[]⟩,.string ⟨#[]⟩,.slice none 0 0,.int .i64 0,.int .i64 0,.int .i64 0,.bool false]:=⟨tv⟩
instance:H3 prog 59 [.bool false,.slice none 0 0,.int .i64 0,.int .i64 0]:=⟨Sn⟩
instance:H3 prog 61 [.bool false,.bool false,.int .i64 0,.int .i64 0]:=⟨Xi⟩
instance:H3 prog 71 [.int .i64 0,.string ⟨#[]⟩,.string ⟨#[]⟩]:=⟨aio⟩
theorem cf6:CF prog 6:=call6
theorem cf7:CF prog 7:=call7
theorem cf8:CF prog 8:=call8
theorem cf9:CF prog 9:=call9
theorem acr:CF prog 10:=call10
theorem Bz:CF prog 11:=call11
theorem acs:CF prog 12:=call12
theorem Xs:CF prog 13:=call13
theorem tC:CF prog 14:=call14
theorem aip:CF prog 15:=call15
theorem acu:CF prog 16:=call16
theorem acv:CF prog 17:=call17
theorem aiq:CF prog 18:=call18
theorem Mx:CF prog 19:=call19
theorem air:CF prog 20:=call20
theorem Xt:CF prog 21:=call21
theorem acw:CF prog 22:=call22
theorem ais:CF prog 23:=call23
theorem ait:CF prog 25:=call25
theorem aiu:CF prog 26:=call26
theorem Xu:CF prog 27:=call27
theorem Xv:CF prog 28:=call28
theorem SS:CF prog 29:=call29
theorem Ed:CF prog 30:=call30
theorem Xw:CF prog 31:=call31
theorem acx:CF prog 32:=call32
theorem Xx:CF prog 33:=call33
theorem acy:CF prog 34:=call34
theorem SU:CF prog 35:=call35
theorem aiv:CF prog 36:=call36
theorem acz:CF prog 37:=call37
theorem lN:CF prog 38:=call38
theorem aiw:CF prog 39:=call39
theorem aix:CF prog 40:=call40
theorem acA:CF prog 41:=call41
theorem Xy:CF prog 42:=call42
theorem Pg:CF prog 43:=call43
theorem My:CF prog 44:=call44
theorem acB:CF prog 45:=call45
theorem Xz:CF prog 46:=call46
theorem aiy:CF prog 47:=call47
theorem aiz:CF prog 48:=call48
theorem SX:CF prog 49:=call49
theorem aiA:CF prog 50:=call50
theorem aiB:CF prog 51:=call51
theorem aiC:CF prog 52:=call52
theorem aiD:CF prog 53:=call53
theorem aiE:CF prog 54:=call54
theorem aiF:CF prog 55:=call55
theorem aiG:CF prog 56:=call56
theorem aiH:CF prog 57:=call57
theorem aiI:CF prog 58:=call58
theorem aiJ:CF prog 59:=call59
theorem aiK:CF prog 61:=call61
theorem aiL:CF prog 62:=call62
theorem acC:CF prog 63:=call63
theorem Mz:CF prog 64:=call64
theorem aiM:CF prog 65:=call65
theorem aiN:CF prog 66:=call66
theorem aiO:CF prog 67:=call67
theorem aiP:CF prog 68:=call68
theorem aiQ:CF prog 69:=call69
theorem SY:CF prog 70:=call70
theorem acD:CF prog 71:=call71
theorem acE:CF prog 72:=call72
theorem aiR:CF prog 73:=call73
theorem aiS:CF prog 74:=call74
theorem acF:CF prog 75:=call75
theorem XA:CF prog 76:=call76
theorem aiT:CF prog 77:=call77
theorem aiU:CF prog 78:=call78
theorem acG:CF prog 79:=call79
theorem aiV:CF prog 80:=call80
theorem aiW:CF prog 81:=call81
theorem aiX:CF prog 82:=call82
theorem aiY:CF prog 83:=call83
theorem aiZ:CF prog 84:=call84
theorem ai0:CF prog 85:=call85
theorem ai1:CF prog 86:=call86
theorem ai2:CF prog 87:=call87
theorem ai3:CF prog 88:=call88
theorem ai4:CF prog 89:=call89
theorem ai5:CF prog 90:=call90
theorem ai6:CF prog 91:=call91
theorem ai7:CF prog 92:=call92
theorem ai8:CF prog 93:=call93
theorem acH:CF prog 95:=call95
theorem ai9:CF prog 96:=call96
theorem acI:CF prog 97:=call97
theorem SZ:CF prog 98:=call98
theorem aja:CF prog 99:=call99
theorem Uq:CF prog 100:=call100
theorem Ur:CF prog 101:=call101
theorem Us:CF prog 102:=call102
theorem Ut:CF prog 103:=call103
theorem acJ:CF prog 104:=call104
theorem Uu:CF prog 105:=call105
theorem acK:CF prog 107:=call107
theorem acL:CF prog 108:=call108
theorem acM:CF prog 110:=call110
theorem Uv:CF prog 111:=call111
theorem acN:CF prog 112:=call112
theorem Uw:CF prog 113:=call113
theorem acO:CF prog 114:=call114
theorem acP:CF prog 115:=call115
theorem Ux:CF prog 116:=call116
theorem acQ:CF prog 117:=call117
theorem acR:CF prog 118:=call118
theorem acS:CF prog 119:=call119
theorem Uy:CF prog 120:=call120
theorem acT:CF prog 121:=call121
theorem acU:CF prog 122:=call122
theorem Ph:CF prog 123:=call123
theorem acV:CF prog 124:=call124
theorem acW:CF prog 125:=call125
theorem acX:CF prog 126:=call126
theorem acY:CF prog 127:=call127
theorem acZ:CF prog 128:=call128
theorem ac0:CF prog 129:=call129
theorem ac1:CF prog 130:=call130
theorem ac2:CF prog 131:=call131
theorem ac3:CF prog 132:=call132
theorem Pj:CF prog 133:=call133
theorem ac4:CF prog 138:=call138
theorem ac5:CF prog 140:=call140
theorem ac6:CF prog 141:=call141
theorem Uz:CF prog 142:=call142
theorem Pk:CF prog 144:=call144
theorem ac7:CF prog 145:=call145
theorem ac8:CF prog 146:=call146
theorem ac9:CF prog 147:=call147
theorem ada:CF prog 148:=call148
theorem adb:CF prog 149:=call149
theorem ade:CF prog 150:=call150
theorem adf:CF prog 151:=call151
theorem UA:CF prog 152:=call152
theorem adg:CF prog 153:=call153
theorem UB:CF prog 154:=call154
theorem adh:CF prog 155:=call155
theorem adi:CF prog 156:=call156
theorem UC:CF prog 157:=call157
theorem adj:CF prog 158:=call158
theorem adk:CF prog 159:=call159
theorem UD:CF prog 161:=call161
theorem adl:CF prog 162:=call162
theorem adm:CF prog 163:=call163
theorem Pm:CF prog 164:=call164
theorem adn:CF prog 166:=call166
theorem ado:CF prog 199:=call199
theorem adp:CF prog 200:=call200
theorem adq:CF prog 201:=call201
theorem adr:CF prog 202:=call202
theorem ads:CF prog 203:=call203
theorem adt:CF prog 204:=call204
theorem adu:CF prog 205:=call205
theorem adw:CF prog 206:=call206
theorem adx:CF prog 207:=call207
theorem UE:CF prog 208:=call208
theorem ady:CF prog 209:=call209
theorem adz:CF prog 210:=call210
theorem adA:CF prog 286:=call286
theorem adB:CF prog 287:=call287
theorem adC:CF prog 290:=call290
theorem adD:CF prog 300:=call300
theorem adE:CF prog 373:=call373
theorem adF:CF prog 380:=call380
theorem adG:CF prog 381:=call381
theorem adH:CF prog 382:=call382
instance:jh prog 6:=⟨cf6⟩
instance:jh prog 11:=⟨Bz⟩
instance:jh prog 15:=⟨aip⟩
instance:jh prog 19:=⟨Mx⟩
instance:jh prog 23:=⟨ais⟩
instance:jh prog 29:=⟨SS⟩
instance:jh prog 36:=⟨aiv⟩
instance:jh prog 40:=⟨aix⟩
instance:jh prog 41:=⟨acA⟩
instance:jh prog 43:=⟨Pg⟩
instance:jh prog 44:=⟨My⟩
instance:jh prog 45:=⟨acB⟩
instance:jh prog 46:=⟨Xz⟩
instance:jh prog 48:=⟨aiz⟩
instance:jh prog 54:=⟨aiE⟩
instance:jh prog 56:=⟨aiG⟩
instance:jh prog 63:=⟨acC⟩
instance:jh prog 64:=⟨Mz⟩
instance:jh prog 72:=⟨acE⟩
instance:jh prog 75:=⟨acF⟩
instance:jh prog 82:=⟨aiX⟩
instance:jh prog 83:=⟨aiY⟩
instance:jh prog 84:=⟨aiZ⟩
instance:jh prog 86:=⟨ai1⟩
instance:jh prog 89:=⟨ai4⟩
instance:jh prog 92:=⟨ai7⟩
instance:jh prog 99:=⟨aja⟩
instance:jh prog 102:=⟨Us⟩
instance:jh prog 107:=⟨acK⟩
instance:jh prog 113:=⟨Uw⟩
instance:jh prog 116:=⟨Ux⟩
instance:jh prog 117:=⟨acQ⟩
instance:jh prog 118:=⟨acR⟩
instance:jh prog 119:=⟨acS⟩
instance:jh prog 120:=⟨Uy⟩
instance:jh prog 121:=⟨acT⟩
instance:jh prog 123:=⟨Ph⟩
instance:jh prog 124:=⟨acV⟩
instance:jh prog 125:=⟨acW⟩
instance:jh prog 126:=⟨acX⟩
instance:jh prog 127:=⟨acY⟩
instance:jh prog 131:=⟨ac2⟩
instance:jh prog 132:=⟨ac3⟩
instance:jh prog 138:=⟨ac4⟩
instance:jh prog 145:=⟨ac7⟩
instance:jh prog 147:=⟨ac9⟩
instance:jh prog 148:=⟨ada⟩
instance:jh prog 149:=⟨adb⟩
instance:jh prog 150:=⟨ade⟩
instance:jh prog 154:=⟨UB⟩
instance:jh prog 159:=⟨adk⟩
instance:jh prog 162:=⟨adl⟩
instance:jh prog 164:=⟨Pm⟩
instance:jh prog 166:=⟨adn⟩
instance:jh prog 199:=⟨ado⟩
instance:jh prog 201:=⟨adq⟩
instance:jh prog 204:=⟨adt⟩
instance:jh prog 205:=⟨adu⟩
instance:jh prog 210:=⟨adz⟩
instance:jh prog 290:=⟨adC⟩
instance:jh prog 300:=⟨adD⟩
instance:jh prog 373:=⟨adE⟩
instance:jh prog 380:=⟨adF⟩
instance:jh prog 381:=⟨adG⟩
instance:jh prog 382:=⟨adH⟩
end Go.Rc

