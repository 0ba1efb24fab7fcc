/- Walks over the program, part Facts. Conditions: as each theorem says. -/
import Derived.Test.YtjpagoacbadijaaGreatDoorProg
import Derived.Test.YtjpagoacbadijaaGreatDoorNBd
set_option linter.all false
namespace Go.Rc
open Go Go.Proofs Go.Proofs.Tryz
theorem mixed:prog.follows .mixedOrders=true:=by kernel_rfl
theorem gS:Lz prog 39:=Rp underlying39 rfl rfl rfl rfl (by decide) (by decide) underlying3 underlying9 isAgg3 isAgg9 (by kernel_rfl) (by kernel_rfl)
theorem aP:wK prog 31 3:=⟨⟨_,underlying31⟩,by kernel_rfl⟩
theorem aq:wK prog 39 2:=⟨⟨_,underlying39⟩,by kernel_rfl⟩
theorem xn:wK prog 42 3:=⟨⟨_,underlying42⟩,by kernel_rfl⟩
theorem ey:wK prog 48 8:=⟨⟨_,underlying48⟩,by kernel_rfl⟩
theorem xo:wK prog 59 4:=⟨⟨_,underlying59⟩,by kernel_rfl⟩
theorem sw:wK prog 61 4:=⟨⟨_,underlying61⟩,by kernel_rfl⟩
theorem G1:wK prog 71 3:=⟨⟨_,underlying71⟩,by kernel_rfl⟩
theorem l6:wK prog 102 4:=⟨⟨_,underlying102⟩,by kernel_rfl⟩
theorem fk:wK prog 109 7:=⟨⟨_,underlying109⟩,by kernel_rfl⟩
theorem Ec:wK prog 126 4:=⟨⟨_,underlying126⟩,by kernel_rfl⟩
theorem kx:wK prog 144 4:=⟨⟨_,underlying144⟩,by kernel_rfl⟩
theorem vX:wK prog 151 6:=⟨⟨_,underlying151⟩,by kernel_rfl⟩
theorem aij:AP prog 22 3 1 8:=se (z:=.int .i64 0) underlying22 (by kernel_rfl) (by kernel_rfl) (by decide)
theorem aik:AP prog 27 59 4 48:=se (z:=.agg #[.bool false,.slice none 0 0,.int .i64 0,.int .i64 0]) underlying27 (by kernel_rfl) (by kernel_rfl) (by decide)
theorem ail:AP prog 28 102 4 48:=se (z:=.agg #[.int .i64 0,.string ⟨#[]⟩,.string ⟨#[]⟩,.int .i64 0]) underlying28 (by kernel_rfl) (by kernel_rfl) (by decide)
theorem Xo:AP prog 29 48 8 96:=se (z:=.agg #[.int .i64 0,.string ⟨#[]⟩,.string ⟨#[]⟩,.slice none 0 0,.int .i64 0,.int .i64 0,.int .i64 0,.bool false]) underlying29 (by kernel_rfl) (by kernel_rfl) (by decide)
theorem rV:AP prog 34 39 2 24:=se (z:=.agg #[.int .i64 0,.string ⟨#[]⟩]) underlying34 (by kernel_rfl) (by kernel_rfl) (by decide)
theorem aim:AP prog 57 61 4 24:=se (z:=.agg #[.bool false,.bool false,.int .i64 0,.int .i64 0]) underlying57 (by kernel_rfl) (by kernel_rfl) (by decide)
theorem ain:AP prog 64 71 3 40:=se (z:=.agg #[.int .i64 0,.string ⟨#[]⟩,.string ⟨#[]⟩]) underlying64 (by kernel_rfl) (by kernel_rfl) (by decide)
theorem O8:AP prog 107 151 6 88:=se (z:=.agg #[.int .i64 0,.string ⟨#[]⟩,.bool false,.int .i64 0,.slice none 0 0,.slice none 0 0]) underlying107 (by kernel_rfl) (by kernel_rfl) (by decide)
theorem acm:AP prog 122 126 4 48:=se (z:=.agg #[.int .i64 0,.string ⟨#[]⟩,.int .i64 0,.string ⟨#[]⟩]) underlying122 (by kernel_rfl) (by kernel_rfl) (by decide)
theorem K6:AP prog 142 9 1 16:=se (z:=.string ⟨#[]⟩) underlying142 (by kernel_rfl) (by kernel_rfl) (by decide)
theorem O9:BS prog 22 3 1 1 [.int .i64 0]:=⟨underlying22,sizeOf3,by decide,by decide,_,zeroValue3,by kernel_rfl⟩
theorem Pa:BS prog 27 59 4 1 [.bool false,.slice none 0 0,.int .i64 0,.int .i64 0]:=⟨underlying27,sizeOf59,by decide,by decide,_,zeroValue59,by kernel_rfl⟩
theorem Jq:BS prog 28 102 4 1 [.int .i64 0,.string ⟨#[]⟩,.string ⟨#[]⟩,.int .i64 0]:=⟨underlying28,sizeOf102,by decide,by decide,_,zeroValue102,by kernel_rfl⟩
theorem tA:BS prog 29 48 8 1 [.int .i64 0,.string ⟨#[]⟩,.string ⟨#[]⟩,.slice none 0 0,.int .i64 0,.int .i64 0,.int .i64 0,.bool false]:=⟨underlying29,sizeOf48,by decide,by decide,_,zeroValue48,by kernel_rfl⟩
theorem eT:BS prog 34 39 2 1 [.int .i64 0,.string ⟨#[]⟩]:=⟨underlying34,sizeOf39,by decide,by decide,_,zeroValue39,by kernel_rfl⟩
theorem Jr:BS prog 57 61 4 1 [.bool false,.bool false,.int .i64 0,.int .i64 0]:=⟨underlying57,sizeOf61,by decide,by decide,_,zeroValue61,by kernel_rfl⟩
theorem Pb:BS prog 64 71 3 1 [.int .i64 0,.string ⟨#[]⟩,.string ⟨#[]⟩]:=⟨underlying64,sizeOf71,by decide,by decide,_,zeroValue71,by kernel_rfl⟩
theorem uM:BS prog 107 151 6 1 [.int .i64 0,.string ⟨#[]⟩,.bool false,.int .i64 0,.slice none 0 0,.slice none 0 0]:=⟨underlying107,sizeOf151,by decide,by decide,_,zeroValue151,by kernel_rfl⟩
theorem K7:BS prog 122 126 4 1 [.int .i64 0,.string ⟨#[]⟩,.int .i64 0,.string ⟨#[]⟩]:=⟨underlying122,sizeOf126,by decide,by decide,_,zeroValue126,by kernel_rfl⟩
theorem mn:BS prog 142 9 1 1 [.string ⟨#[]⟩]:=⟨underlying142,sizeOf9,by decide,by decide,_,zeroValue9,by kernel_rfl⟩
theorem Pc:BS prog 142 9 1 10 [.string ⟨#[]⟩,.string ⟨#[]⟩,.string ⟨#[]⟩,.string ⟨#[]⟩,.string ⟨#[]⟩,.string ⟨#[]⟩,.string ⟨#[]⟩,.string ⟨#[]⟩,.string ⟨#[]⟩,.string ⟨#[]⟩]:=⟨underlying142,sizeOf9,by decide,by decide,_,zeroValue9,by kernel_rfl⟩
theorem Xp:BS prog 22 3 1 2 [.int .i64 0,.int .i64 0]:=⟨underlying22,sizeOf3,by decide,by decide,_,zeroValue3,by kernel_rfl⟩
theorem Xq:BS prog 27 59 4 2 [.bool false,.slice none 0 0,.int .i64 0,.int .i64 0,.bool false,.slice none 0 0,.int .i64 0,.int .i64 0]:=⟨underlying27,sizeOf59,by decide,by decide,_,zeroValue59,by kernel_rfl⟩
theorem Xr:BS prog 34 39 2 3 [.int .i64 0,.string ⟨#[]⟩,.int .i64 0,.string ⟨#[]⟩,.int .i64 0,.string ⟨#[]⟩]:=⟨underlying34,sizeOf39,by decide,by decide,_,zeroValue39,by kernel_rfl⟩
theorem Xs:BS prog 22 3 1 6 [.int .i64 0,.int .i64 0,.int .i64 0,.int .i64 0,.int .i64 0,.int .i64 0]:=⟨underlying22,sizeOf3,by decide,by decide,_,zeroValue3,by kernel_rfl⟩
theorem acn:BT prog 31 [.int .i64 0,.slice none 0 0,.slice none 0 0] [(0,1),(1,1),(2,1)]:=kP (fs:=[_,_,_]) zeroValue31 rfl underlying31 ⟨rfl,sizeOf3,rfl,sizeOf28,rfl,sizeOf29,trivial⟩
theorem Ed:BT prog 39 [.int .i64 0,.string ⟨#[]⟩] [(0,1),(1,1)]:=kP (fs:=[_,_]) zeroValue39 rfl underlying39 ⟨rfl,sizeOf3,rfl,sizeOf9,trivial⟩
theorem MA:BT prog 42 [.int .i64 0,.int .i64 0,.string ⟨#[]⟩] [(0,1),(1,2)]:=kP (fs:=[_,_]) zeroValue42 rfl underlying42 ⟨rfl,sizeOf3,rfl,sizeOf39,trivial⟩
theorem aco:BT prog 48 [.int .i64 0,.string ⟨#[]⟩,.string ⟨#[]⟩,.slice none 0 0,.int .i64 0,.int .i64 0,.int .i64 0,.bool false] [(0,2),(2,1),(3,1),(4,1),(5,1),(6,1),(7,1)]:=kP (fs:=[_,_,_,_,_,_,_]) zeroValue48 rfl underlying48 ⟨rfl,sizeOf39,rfl,sizeOf9,rfl,sizeOf34,rfl,sizeOf3,rfl,sizeOf3,rfl,sizeOf3,rfl,sizeOf4,trivial⟩
theorem Sv:BT prog 59 [.bool false,.slice none 0 0,.int .i64 0,.int .i64 0] [(0,1),(1,1),(2,1),(3,1)]:=kP (fs:=[_,_,_,_]) zeroValue59 rfl underlying59 ⟨rfl,sizeOf4,rfl,sizeOf57,rfl,sizeOf3,rfl,sizeOf3,trivial⟩
theorem Sw:BT prog 61 [.bool false,.bool false,.int .i64 0,.int .i64 0] [(0,1),(1,1),(2,1),(3,1)]:=kP (fs:=[_,_,_,_]) zeroValue61 rfl underlying61 ⟨rfl,sizeOf4,rfl,sizeOf4,rfl,sizeOf3,rfl,sizeOf3,trivial⟩
theorem acp:BT prog 71 [.int .i64 0,.string ⟨#[]⟩,.string ⟨#[]⟩] [(0,2),(2,1)]:=kP (fs:=[_,_]) zeroValue71 rfl underlying71 ⟨rfl,sizeOf39,rfl,sizeOf9,trivial⟩
theorem aio:BT prog 74 [.slice none 0 0,.int .i64 0] [(0,1),(1,1)]:=kP (fs:=[_,_]) zeroValue74 rfl underlying74 ⟨rfl,sizeOf22,rfl,sizeOf3,trivial⟩
theorem aip:BT prog 88 [.pointer none,.int .i64 0,.slice none 0 0,.slice none 0 0,.map none,.slice none 0 0,.int .i64 0] [(0,1),(1,3),(4,1),(5,1),(6,1)]:=kP (fs:=[_,_,_,_,_]) zeroValue88 rfl underlying88 ⟨rfl,sizeOf84,rfl,sizeOf31,rfl,sizeOf86,rfl,sizeOf34,rfl,sizeOf35,trivial⟩
theorem K8:BT prog 102 [.int .i64 0,.string ⟨#[]⟩,.string ⟨#[]⟩,.int .i64 0] [(0,2),(2,1),(3,1)]:=kP (fs:=[_,_,_]) zeroValue102 rfl underlying102 ⟨rfl,sizeOf39,rfl,sizeOf9,rfl,sizeOf3,trivial⟩
theorem Uw:BT prog 109 [.slice none 0 0,.int .i64 0,.slice none 0 0,.slice none 0 0,.slice none 0 0,.slice none 0 0,.slice none 0 0] [(0,1),(1,3),(4,1),(5,1),(6,1)]:=kP (fs:=[_,_,_,_,_]) zeroValue109 rfl underlying109 ⟨rfl,sizeOf27,rfl,sizeOf31,rfl,sizeOf34,rfl,sizeOf107,rfl,sizeOf34,trivial⟩
theorem acq:BT prog 121 [.slice none 0 0,.int .i64 0,.slice none 0 0,.slice none 0 0,.map none,.pointer none,.slice none 0 0] [(0,1),(1,3),(4,1),(5,1),(6,1)]:=kP (fs:=[_,_,_,_,_]) zeroValue121 rfl underlying121 ⟨rfl,sizeOf27,rfl,sizeOf31,rfl,sizeOf118,rfl,sizeOf119,rfl,sizeOf34,trivial⟩
theorem Ux:BT prog 126 [.int .i64 0,.string ⟨#[]⟩,.int .i64 0,.string ⟨#[]⟩] [(0,2),(2,2)]:=kP (fs:=[_,_]) zeroValue126 rfl underlying126 ⟨rfl,sizeOf39,rfl,sizeOf39,trivial⟩
theorem acr:BT prog 134 [.slice none 0 0,.int .i64 0,.slice none 0 0,.slice none 0 0,.map none,.map none] [(0,1),(1,3),(4,1),(5,1)]:=kP (fs:=[_,_,_,_]) zeroValue134 rfl underlying134 ⟨rfl,sizeOf27,rfl,sizeOf31,rfl,sizeOf131,rfl,sizeOf132,trivial⟩
theorem pR:BT prog 144 [.bool false,.string ⟨#[]⟩,.int .i64 0,.string ⟨#[]⟩] [(0,1),(1,1),(2,2)]:=kP (fs:=[_,_,_]) zeroValue144 rfl underlying144 ⟨rfl,sizeOf4,rfl,sizeOf9,rfl,sizeOf39,trivial⟩
theorem Pd:BT prog 151 [.int .i64 0,.string ⟨#[]⟩,.bool false,.int .i64 0,.slice none 0 0,.slice none 0 0] [(0,2),(2,1),(3,1),(4,1),(5,1)]:=kP (fs:=[_,_,_,_,_]) zeroValue151 rfl underlying151 ⟨rfl,sizeOf39,rfl,sizeOf4,rfl,sizeOf3,rfl,sizeOf34,rfl,sizeOf142,trivial⟩
theorem acs:BT prog 184 [.slice none 0 0,.int .i64 0,.slice none 0 0,.slice none 0 0,.map none,.map none] [(0,1),(1,3),(4,1),(5,1)]:=kP (fs:=[_,_,_,_]) zeroValue184 rfl underlying184 ⟨rfl,sizeOf27,rfl,sizeOf31,rfl,sizeOf131,rfl,sizeOf86,trivial⟩
theorem K9:BT prog 503 [.string ⟨#[]⟩,.string ⟨#[]⟩,.nilIface] [(0,1),(1,1),(2,1)]:=kP (fs:=[_,_,_]) zeroValue503 rfl underlying503 ⟨rfl,sizeOf9,rfl,sizeOf9,rfl,sizeOf205,trivial⟩
theorem eI:KK prog 39 Key.val:=VO underlying39 gS (LG underlying39 rfl rfl rfl rfl underlying3 underlying9 isAgg3 isAgg9)
theorem Ee:∃ms,prog.underlying 205=some (.interface ms):=⟨_,underlying205⟩
theorem aT:One prog 3:=isAgg3
theorem ft:One prog 4:=isAgg4
theorem iG:One prog 9:=isAgg9
theorem Uy:One prog 22:=isAgg22
theorem mf:One prog 27:=isAgg27
theorem oM:One prog 28:=isAgg28
theorem eW:One prog 29:=isAgg29
theorem gK:One prog 34:=isAgg34
theorem Dd:One prog 35:=isAgg35
theorem mW:One prog 57:=isAgg57
theorem Pe:One prog 76:=isAgg76
theorem Pf:One prog 84:=isAgg84
theorem xp:One prog 86:=isAgg86
theorem zY:One prog 107:=isAgg107
theorem jw:One prog 118:=isAgg118
theorem zZ:One prog 119:=isAgg119
theorem iO:One prog 131:=isAgg131
theorem Ef:One prog 142:=isAgg142
theorem Eg:One prog 205:=isAgg205
theorem Js:Cl prog 22 3 1:=⟨underlying22,sizeOf3⟩
theorem lq:Cl prog 27 59 4:=⟨underlying27,sizeOf59⟩
theorem ya:Cl prog 28 102 4:=⟨underlying28,sizeOf102⟩
theorem ky:Cl prog 29 48 8:=⟨underlying29,sizeOf48⟩
theorem fP:Cl prog 34 39 2:=⟨underlying34,sizeOf39⟩
theorem BI:Cl prog 57 61 4:=⟨underlying57,sizeOf61⟩
theorem MB:Cl prog 64 71 3:=⟨underlying64,sizeOf71⟩
theorem xt:Cl prog 107 151 6:=⟨underlying107,sizeOf151⟩
theorem La:Cl prog 122 126 4:=⟨underlying122,sizeOf126⟩
theorem sy:Cl prog 142 9 1:=⟨underlying142,sizeOf9⟩
theorem Uz:Cl prog 191 5 1:=⟨underlying191,sizeOf5⟩
theorem aiq:∀w,(sizeOf 39).run prog w=.ok 2 w:=sizeOf39
theorem air:∀w,(sizeOf 48).run prog w=.ok 8 w:=sizeOf48
theorem acu:∀w,(sizeOf 102).run prog w=.ok 4 w:=sizeOf102
theorem Q0:(prog.info? 3).map (·.size)=some 1:=by kernel_rfl
theorem sz4:(prog.info? 4).map (·.size)=some 1:=by kernel_rfl
theorem ais:(prog.info? 28).map (·.size)=some 1:=by kernel_rfl
theorem ait:(prog.info? 29).map (·.size)=some 1:=by kernel_rfl
theorem fT:(prog.info? 31).map (·.size)=some 3:=by kernel_rfl
theorem acw:(prog.info? 34).map (·.size)=some 1:=by kernel_rfl
theorem aiu:(prog.info? 35).map (·.size)=some 1:=by kernel_rfl
theorem jx:(prog.info? 39).map (·.size)=some 2:=by kernel_rfl
theorem BJ:(prog.info? 42).map (·.size)=some 3:=by kernel_rfl
theorem iH:(prog.info? 48).map (·.size)=some 8:=by kernel_rfl
theorem aiv:(prog.info? 57).map (·.size)=some 1:=by kernel_rfl
theorem Jt:(prog.info? 59).map (·.size)=some 4:=by kernel_rfl
theorem Ju:(prog.info? 61).map (·.size)=some 4:=by kernel_rfl
theorem Pg:(prog.info? 71).map (·.size)=some 3:=by kernel_rfl
theorem xu:(prog.info? 102).map (·.size)=some 4:=by kernel_rfl
theorem acx:(prog.info? 107).map (·.size)=some 1:=by kernel_rfl
theorem lO:(prog.info? 109).map (·.size)=some 7:=by kernel_rfl
theorem Ph:(prog.info? 126).map (·.size)=some 4:=by kernel_rfl
theorem acy:(prog.info? 131).map (·.size)=some 1:=by kernel_rfl
theorem UA:(prog.info? 142).map (·.size)=some 1:=by kernel_rfl
theorem iU:(prog.info? 144).map (·.size)=some 4:=by kernel_rfl
theorem Lc:(prog.info? 151).map (·.size)=some 6:=by kernel_rfl
theorem aiw:prog.underlying 3=some (.int .i64):=underlying3
theorem aix:prog.underlying 4=some (.bool):=underlying4
theorem aiy:prog.underlying 5=some (.int .u8):=underlying5
theorem vY:prog.underlying 9=some (.string):=underlying9
theorem UB:prog.underlying 28=some (.slice 102):=underlying28
theorem UC:prog.underlying 29=some (.slice 48):=underlying29
theorem UD:prog.underlying 34=some (.slice 39):=underlying34
theorem kS:prog.underlying 86=some (.map 39 4):=underlying86
theorem Xt:prog.underlying 117=some (.pointer 48):=underlying117
theorem jy:prog.underlying 118=some (.map 39 117):=underlying118
theorem fl:prog.underlying 131=some (.map 39 9):=underlying131
theorem Pj:prog.underlying 132=some (.map 39 34):=underlying132
theorem zv4:ZV prog 4 [.bool false]:=⟨_,zeroValue4,rfl⟩
theorem acz:ZV prog 31 [.int .i64 0,.slice none 0 0,.slice none 0 0]:=⟨_,zeroValue31,rfl⟩
theorem aiz:ZV prog 34 [.slice none 0 0]:=⟨_,zeroValue34,rfl⟩
theorem Jv:ZV prog 39 [.int .i64 0,.string ⟨#[]⟩]:=⟨_,zeroValue39,rfl⟩
theorem acA:ZV prog 42 [.int .i64 0,.int .i64 0,.string ⟨#[]⟩]:=⟨_,zeroValue42,rfl⟩
theorem tB:ZV prog 48 [.int .i64 0,.string ⟨#[]⟩,.string ⟨#[]⟩,.slice none 0 0,.int .i64 0,.int .i64 0,.int .i64 0,.bool false]:=⟨_,zeroValue48,rfl⟩
theorem Sx:ZV prog 59 [.bool false,.slice none 0 0,.int .i64 0,.int .i64 0]:=⟨_,zeroValue59,rfl⟩
theorem Xu:ZV prog 61 [.bool false,.bool false,.int .i64 0,.int .i64 0]:=⟨_,zeroValue61,rfl⟩
theorem aiA:ZV prog 71 [.int .i64 0,.string ⟨#[]⟩,.string ⟨#[]⟩]:=⟨_,zeroValue71,rfl⟩
theorem Le:ZV prog 102 [.int .i64 0,.string ⟨#[]⟩,.string ⟨#[]⟩,.int .i64 0]:=⟨_,zeroValue102,rfl⟩
theorem UE:ZV prog 109 [.slice none 0 0,.int .i64 0,.slice none 0 0,.slice none 0 0,.slice none 0 0,.slice none 0 0,.slice none 0 0]:=⟨_,zeroValue109,rfl⟩
theorem acB:ZV prog 126 [.int .i64 0,.string ⟨#[]⟩,.int .i64 0,.string ⟨#[]⟩]:=⟨_,zeroValue126,rfl⟩
theorem acC:ZV prog 131 [.map none]:=⟨_,zeroValue131,rfl⟩
theorem uN:ZV prog 144 [.bool false,.string ⟨#[]⟩,.int .i64 0,.string ⟨#[]⟩]:=⟨_,zeroValue144,rfl⟩
theorem UF:ZV prog 151 [.int .i64 0,.string ⟨#[]⟩,.bool false,.int .i64 0,.slice none 0 0,.slice none 0 0]:=⟨_,zeroValue151,rfl⟩
theorem G2:∀w,(zeroValue 4).run prog w=.ok (.bool false) w:=zeroValue4
theorem pr:∀w,(zeroValue 9).run prog w=.ok (.string ⟨#[]⟩) w:=zeroValue9
theorem UG:∀w,(zeroValue 34).run prog w=.ok (.slice none 0 0) w:=zeroValue34
theorem jX:∀w,(zeroValue 117).run prog w=.ok (.pointer none) w:=zeroValue117
theorem n0:FA prog 31 0 0:=di underlying31 rfl sizeOf3 (by decide) rfl
theorem Aa:FA prog 31 1 1:=di underlying31 rfl sizeOf28 (by decide) rfl
theorem vZ:FA prog 31 2 2:=di underlying31 rfl sizeOf29 (by decide) rfl
theorem eU:FA prog 39 0 0:=di underlying39 rfl sizeOf3 (by decide) rfl
theorem tC:FA prog 39 1 1:=di underlying39 rfl sizeOf9 (by decide) rfl
theorem Xv:FA prog 42 0 0:=di underlying42 rfl sizeOf3 (by decide) rfl
theorem Xw:FA prog 42 1 1:=di underlying42 rfl sizeOf39 (by decide) rfl
theorem tD:FA prog 48 0 0:=di underlying48 rfl sizeOf39 (by decide) rfl
theorem Ab:FA prog 48 1 2:=di underlying48 rfl sizeOf9 (by decide) rfl
theorem Eh:FA prog 48 2 3:=di underlying48 rfl sizeOf34 (by decide) rfl
theorem Ac:FA prog 48 3 4:=di underlying48 rfl sizeOf3 (by decide) rfl
theorem tE:FA prog 48 4 5:=di underlying48 rfl sizeOf3 (by decide) rfl
theorem Jw:FA prog 48 5 6:=di underlying48 rfl sizeOf3 (by decide) rfl
theorem Jx:FA prog 48 6 7:=di underlying48 rfl sizeOf4 (by decide) rfl
theorem mX:FA prog 59 0 0:=di underlying59 rfl sizeOf4 (by decide) rfl
theorem wa:FA prog 59 1 1:=di underlying59 rfl sizeOf57 (by decide) rfl
theorem tF:FA prog 59 2 2:=di underlying59 rfl sizeOf3 (by decide) rfl
theorem n5:FA prog 59 3 3:=di underlying59 rfl sizeOf3 (by decide) rfl
theorem Ei:FA prog 61 0 0:=di underlying61 rfl sizeOf4 (by decide) rfl
theorem Ad:FA prog 61 1 1:=di underlying61 rfl sizeOf4 (by decide) rfl
theorem Jy:FA prog 61 2 2:=di underlying61 rfl sizeOf3 (by decide) rfl
theorem Ae:FA prog 61 3 3:=di underlying61 rfl sizeOf3 (by decide) rfl
theorem Xx:FA prog 71 0 0:=di underlying71 rfl sizeOf39 (by decide) rfl
theorem Xy:FA prog 71 1 2:=di underlying71 rfl sizeOf9 (by decide) rfl
theorem Pk:FA prog 74 0 0:=di underlying74 rfl sizeOf22 (by decide) rfl
theorem Ej:FA prog 74 1 1:=di underlying74 rfl sizeOf3 (by decide) rfl
theorem Xz:FA prog 88 0 0:=di underlying88 rfl sizeOf84 (by decide) rfl
theorem XA:FA prog 88 1 1:=di underlying88 rfl sizeOf31 (by decide) rfl
theorem XB:FA prog 88 2 4:=di underlying88 rfl sizeOf86 (by decide) rfl
theorem XC:FA prog 88 3 5:=di underlying88 rfl sizeOf34 (by decide) rfl
theorem XD:FA prog 88 4 6:=di underlying88 rfl sizeOf35 (by decide) rfl
theorem rH:FA prog 102 0 0:=di underlying102 rfl sizeOf39 (by decide) rfl
theorem Ek:FA prog 102 1 2:=di underlying102 rfl sizeOf9 (by decide) rfl
theorem uO:FA prog 102 2 3:=di underlying102 rfl sizeOf3 (by decide) rfl
theorem Sy:FA prog 109 0 0:=di underlying109 rfl sizeOf27 (by decide) rfl
theorem SA:FA prog 109 1 1:=di underlying109 rfl sizeOf31 (by decide) rfl
theorem SB:FA prog 109 2 4:=di underlying109 rfl sizeOf34 (by decide) rfl
theorem SC:FA prog 109 3 5:=di underlying109 rfl sizeOf107 (by decide) rfl
theorem SE:FA prog 109 4 6:=di underlying109 rfl sizeOf34 (by decide) rfl
theorem SF:FA prog 121 1 1:=di underlying121 rfl sizeOf31 (by decide) rfl
theorem SG:FA prog 121 2 4:=di underlying121 rfl sizeOf118 (by decide) rfl
theorem SH:FA prog 121 3 5:=di underlying121 rfl sizeOf119 (by decide) rfl
theorem SI:FA prog 126 0 0:=di underlying126 rfl sizeOf39 (by decide) rfl
theorem SJ:FA prog 126 1 2:=di underlying126 rfl sizeOf39 (by decide) rfl
theorem SK:FA prog 134 0 0:=di underlying134 rfl sizeOf27 (by decide) rfl
theorem SM:FA prog 134 1 1:=di underlying134 rfl sizeOf31 (by decide) rfl
theorem SN:FA prog 134 2 4:=di underlying134 rfl sizeOf131 (by decide) rfl
theorem SO:FA prog 144 0 0:=di underlying144 rfl sizeOf4 (by decide) rfl
theorem SP:FA prog 144 1 1:=di underlying144 rfl sizeOf9 (by decide) rfl
theorem SQ:FA prog 144 2 2:=di underlying144 rfl sizeOf39 (by decide) rfl
theorem Lf:FA prog 151 0 0:=di underlying151 rfl sizeOf39 (by decide) rfl
theorem SS:FA prog 151 1 2:=di underlying151 rfl sizeOf4 (by decide) rfl
theorem SU:FA prog 151 2 3:=di underlying151 rfl sizeOf3 (by decide) rfl
theorem SX:FA prog 151 3 4:=di underlying151 rfl sizeOf34 (by decide) rfl
theorem SY:FA prog 151 4 5:=di underlying151 rfl sizeOf142 (by decide) rfl
theorem SZ:FA prog 184 0 0:=di underlying184 rfl sizeOf27 (by decide) rfl
theorem S0:FA prog 184 1 1:=di underlying184 rfl sizeOf31 (by decide) rfl
theorem S1:FA prog 184 2 4:=di underlying184 rfl sizeOf131 (by decide) rfl
theorem S2:FA prog 184 3 5:=di underlying184 rfl sizeOf86 (by decide) rfl
instance:N7 prog 107 151 6 88:=⟨O8⟩
instance:N7 prog 122 126 4 48:=⟨acm⟩
instance:N7 prog 142 9 1 16:=⟨K6⟩
instance:N7 prog 22 3 1 8:=⟨aij⟩
instance:N7 prog 27 59 4 48:=⟨aik⟩
instance:N7 prog 28 102 4 48:=⟨ail⟩
instance:N7 prog 29 48 8 96:=⟨Xo⟩
instance:N7 prog 34 39 2 24:=⟨rV⟩
instance:N7 prog 57 61 4 24:=⟨aim⟩
instance:N7 prog 64 71 3 40:=⟨ain⟩
instance:VS prog 102 [.int .i64 0,.string ⟨#[]⟩,.string ⟨#[]⟩,.int .i64 0] [(0,2),(2,1),(3,1)]:=⟨K8⟩
instance:VS prog 39 [.int .i64 0,.string ⟨#[]⟩] [(0,1),(1,1)]:=⟨Ed⟩
instance:VS prog 42 [.int .i64 0,.int .i64 0,.string ⟨#[]⟩] [(0,1),(1,2)]:=⟨MA⟩
instance:VS prog 48 [.int .i64 0,.string ⟨#[]⟩,.string ⟨#[]⟩,.slice none 0 0,.int .i64 0,.int .i64 0,.int .i64 0,.bool false] [(0,2),(2,1),(3,1),(4,1),(5,1),(6,1),(7,1)]:=⟨aco⟩
instance:kj prog 102 0 0:=⟨rH⟩
instance:kj prog 102 1 2:=⟨Ek⟩
instance:kj prog 102 2 3:=⟨uO⟩
instance:kj prog 109 0 0:=⟨Sy⟩
instance:kj prog 109 1 1:=⟨SA⟩
instance:kj prog 109 2 4:=⟨SB⟩
instance:kj prog 109 3 5:=⟨SC⟩
instance:kj prog 109 4 6:=⟨SE⟩
instance:kj prog 121 1 1:=⟨SF⟩
instance:kj prog 121 2 4:=⟨SG⟩
instance:kj prog 121 3 5:=⟨SH⟩
instance:kj prog 126 0 0:=⟨SI⟩
instance:kj prog 126 1 2:=⟨SJ⟩
instance:kj prog 134 0 0:=⟨SK⟩
instance:kj prog 134 1 1:=⟨SM⟩
instance:kj prog 134 2 4:=⟨SN⟩
instance:kj prog 144 0 0:=⟨SO⟩
instance:kj prog 144 1 1:=⟨SP⟩
instance:kj prog 144 2 2:=⟨SQ⟩
instance:kj prog 151 0 0:=⟨Lf⟩
instance:kj prog 151 1 2:=⟨SS⟩
instance:kj prog 151 2 3:=⟨SU⟩
instance:kj prog 151 3 4:=⟨SX⟩
instance:kj prog 151 4 5:=⟨SY⟩
instance:kj prog 184 0 0:=⟨SZ⟩
instance:kj prog 184 1 1:=⟨S0⟩
instance:kj prog 184 2 4:=⟨S1⟩
instance:kj prog 184 3 5:=⟨S2⟩
instance:kj prog 31 0 0:=⟨n0⟩
instance:kj prog 31 1 1:=⟨Aa⟩
instance:kj prog 31 2 2:=⟨vZ⟩
instance:kj prog 39 0 0:=⟨eU⟩
instance:kj prog 39 1 1:=⟨tC⟩
instance:kj prog 42 0 0:=⟨Xv⟩
instance:kj prog 42 1 1:=⟨Xw⟩
instance:kj prog 48 0 0:=⟨tD⟩
instance:kj prog 48 1 2:=⟨Ab⟩
instance:kj prog 48 2 3:=⟨Eh⟩
instance:kj prog 48 3 4:=⟨Ac⟩
instance:kj prog 48 4 5:=⟨tE⟩
instance:kj prog 48 5 6:=⟨Jw⟩
instance:kj prog 48 6 7:=⟨Jx⟩
instance:kj prog 59 0 0:=⟨mX⟩
instance:kj prog 59 1 1:=⟨wa⟩
instance:kj prog 59 2 2:=⟨tF⟩
instance:kj prog 59 3 3:=⟨n5⟩
instance:kj prog 61 0 0:=⟨Ei⟩
instance:kj prog 61 1 1:=⟨Ad⟩
instance:kj prog 61 2 2:=⟨Jy⟩
instance:kj prog 61 3 3:=⟨Ae⟩
instance:kj prog 71 0 0:=⟨Xx⟩
instance:kj prog 71 1 2:=⟨Xy⟩
instance:kj prog 88 0 0:=⟨Xz⟩
instance:kj prog 88 1 1:=⟨XA⟩
instance:kj prog 88 2 4:=⟨XB⟩
instance:kj prog 88 3 5:=⟨XC⟩
instance:kj prog 88 4 6:=⟨XD⟩
instance:Kr prog 107 151 6:=⟨xt⟩
instance:Kr prog 122 126 4:=⟨La⟩
instance:Kr prog 142 9 1:=⟨sy⟩
instance:Kr prog 191 5 1:=⟨Uz⟩
instance:Kr prog 22 3 1:=⟨Js⟩
instance:Kr prog 27 59 4:=⟨lq⟩
instance:Kr prog 28 102 4:=⟨ya⟩
instance:Kr prog 29 48 8:=⟨ky⟩
instance:Kr prog 34 39 2:=⟨fP⟩
instance:Kr prog 57 61 4:=⟨BI⟩
instance:Kr prog 64 71 3:=⟨MB⟩
instance:Nk prog 107 1:=⟨acx⟩
instance:Nk prog 131 1:=⟨acy⟩
instance:Nk prog 142 1:=⟨UA⟩
instance:Nk prog 28 1:=⟨ais⟩
instance:Nk prog 29 1:=⟨ait⟩
instance:Nk prog 3 1:=⟨Q0⟩
instance:Nk prog 34 1:=⟨acw⟩
instance:Nk prog 35 1:=⟨aiu⟩
instance:Nk prog 4 1:=⟨sz4⟩
instance:Nk prog 57 1:=⟨aiv⟩
instance:qp prog 117 (.pointer 48):=⟨Xt⟩
instance:qp prog 28 (.slice 102):=⟨UB⟩
instance:qp prog 29 (.slice 48):=⟨UC⟩
instance:qp prog 34 (.slice 39):=⟨UD⟩
instance:qp prog 9 (.string):=⟨vY⟩
instance:Ia prog 102 [.int .i64 0,.string ⟨#[]⟩,.string ⟨#[]⟩,.int .i64 0]:=⟨Le⟩
instance:Ia prog 109 [.slice none 0 0,.int .i64 0,.slice none 0 0,.slice none 0 0,.slice none 0 0,.slice none 0 0,.slice none 0 0]:=⟨UE⟩
instance:Ia prog 126 [.int .i64 0,.string ⟨#[]⟩,.int .i64 0,.string ⟨#[]⟩]:=⟨acB⟩
instance:Ia prog 144 [.bool false,.string ⟨#[]⟩,.int .i64 0,.string ⟨#[]⟩]:=⟨uN⟩
instance:Ia prog 151 [.int .i64 0,.string ⟨#[]⟩,.bool false,.int .i64 0,.slice none 0 0,.slice none 0 0]:=⟨UF⟩
instance:Ia prog 31 [.int .i64 0,.slice none 0 0,.slice none 0 0]:=⟨acz⟩
instance:Ia prog 34 [.slice none 0 0]:=⟨aiz⟩
instance:Ia prog 39 [.int .i64 0,.string ⟨#[]⟩]:=⟨Jv⟩
instance:Ia prog 4 [.bool false]:=⟨zv4⟩
instance:Ia prog 42 [.int .i64 0,.int .i64 0,.string ⟨#[]⟩]:=⟨acA⟩
instance:Ia prog 48 [.int .i64 0,.string ⟨#[]⟩,.string ⟨#[]⟩,.slice none 0 0,.int .i64 0,.int .i64 0,.int .i64 0,.bool false]:=⟨tB⟩
instance:Ia prog 59 [.bool false,.slice none 0 0,.int .i64 0,.int .i64 0]:=⟨Sx⟩
instance:Ia prog 61 [.bool false,.bool false,.int .i64 0,.int .i64 0]:=⟨Xu⟩
instance:Ia prog 71 [.int .i64 0,.string ⟨#[]⟩,.string ⟨#[]⟩]:=⟨aiA⟩
theorem cf6:CF prog 6:=call6
theorem cf7:CF prog 7:=call7
theorem cf8:CF prog 8:=call8
theorem cf9:CF prog 9:=call9
theorem acD:CF prog 10:=call10
theorem BL:CF prog 11:=call11
theorem XE:CF prog 12:=call12
theorem XF:CF prog 13:=call13
theorem tH:CF prog 14:=call14
theorem aiB:CF prog 15:=call15
theorem XG:CF prog 16:=call16
theorem XH:CF prog 17:=call17
theorem acE:CF prog 18:=call18
theorem Jz:CF prog 19:=call19
theorem aiC:CF prog 20:=call20
theorem XI:CF prog 21:=call21
theorem acF:CF prog 22:=call22
theorem aiD:CF prog 23:=call23
theorem aiE:CF prog 25:=call25
theorem aiF:CF prog 26:=call26
theorem XJ:CF prog 27:=call27
theorem XK:CF prog 28:=call28
theorem S3:CF prog 29:=call29
theorem El:CF prog 30:=call30
theorem XL:CF prog 31:=call31
theorem acG:CF prog 32:=call32
theorem XM:CF prog 33:=call33
theorem acH:CF prog 34:=call34
theorem S4:CF prog 35:=call35
theorem aiG:CF prog 36:=call36
theorem acI:CF prog 37:=call37
theorem lP:CF prog 38:=call38
theorem aiH:CF prog 39:=call39
theorem aiI:CF prog 40:=call40
theorem acJ:CF prog 41:=call41
theorem XN:CF prog 42:=call42
theorem Pm:CF prog 43:=call43
theorem MC:CF prog 44:=call44
theorem acK:CF prog 45:=call45
theorem XO:CF prog 46:=call46
theorem aiJ:CF prog 47:=call47
theorem aiK:CF prog 48:=call48
theorem S5:CF prog 49:=call49
theorem aiL:CF prog 50:=call50
theorem aiM:CF prog 51:=call51
theorem aiN:CF prog 52:=call52
theorem aiO:CF prog 53:=call53
theorem aiP:CF prog 54:=call54
theorem aiQ:CF prog 55:=call55
theorem aiR:CF prog 56:=call56
theorem aiS:CF prog 57:=call57
theorem aiT:CF prog 58:=call58
theorem aiU:CF prog 59:=call59
theorem aiV:CF prog 61:=call61
theorem aiW:CF prog 62:=call62
theorem acL:CF prog 63:=call63
theorem MD:CF prog 64:=call64
theorem aiX:CF prog 65:=call65
theorem aiY:CF prog 66:=call66
theorem aiZ:CF prog 67:=call67
theorem ai0:CF prog 68:=call68
theorem ai1:CF prog 69:=call69
theorem S6:CF prog 70:=call70
theorem acM:CF prog 71:=call71
theorem acN:CF prog 72:=call72
theorem ai2:CF prog 73:=call73
theorem ai3:CF prog 74:=call74
theorem acO:CF prog 75:=call75
theorem XP:CF prog 76:=call76
theorem ai4:CF prog 77:=call77
theorem ai5:CF prog 78:=call78
theorem acP:CF prog 79:=call79
theorem ai6:CF prog 80:=call80
theorem ai7:CF prog 81:=call81
theorem ai8:CF prog 82:=call82
theorem ai9:CF prog 83:=call83
theorem aja:CF prog 84:=call84
theorem ajb:CF prog 85:=call85
theorem ajc:CF prog 86:=call86
theorem ajd:CF prog 87:=call87
theorem aje:CF prog 88:=call88
theorem ajf:CF prog 89:=call89
theorem ajg:CF prog 90:=call90
theorem ajh:CF prog 91:=call91
theorem aji:CF prog 92:=call92
theorem ajj:CF prog 93:=call93
theorem acQ:CF prog 95:=call95
theorem ajk:CF prog 96:=call96
theorem acR:CF prog 97:=call97
theorem S7:CF prog 98:=call98
theorem ajl:CF prog 99:=call99
theorem UH:CF prog 100:=call100
theorem UI:CF prog 101:=call101
theorem UJ:CF prog 102:=call102
theorem UK:CF prog 103:=call103
theorem acS:CF prog 104:=call104
theorem UL:CF prog 105:=call105
theorem acT:CF prog 107:=call107
theorem acU:CF prog 108:=call108
theorem acV:CF prog 110:=call110
theorem UM:CF prog 111:=call111
theorem acW:CF prog 112:=call112
theorem UN:CF prog 113:=call113
theorem acX:CF prog 114:=call114
theorem acY:CF prog 115:=call115
theorem UO:CF prog 116:=call116
theorem acZ:CF prog 117:=call117
theorem ac0:CF prog 118:=call118
theorem ac1:CF prog 119:=call119
theorem UP:CF prog 120:=call120
theorem ac2:CF prog 121:=call121
theorem ac3:CF prog 122:=call122
theorem Pn:CF prog 123:=call123
theorem ac4:CF prog 124:=call124
theorem ac5:CF prog 125:=call125
theorem ac6:CF prog 126:=call126
theorem ac7:CF prog 127:=call127
theorem ac8:CF prog 128:=call128
theorem ac9:CF prog 129:=call129
theorem ada:CF prog 130:=call130
theorem adb:CF prog 131:=call131
theorem ade:CF prog 132:=call132
theorem Po:CF prog 133:=call133
theorem adf:CF prog 138:=call138
theorem adg:CF prog 140:=call140
theorem adh:CF prog 141:=call141
theorem UQ:CF prog 142:=call142
theorem Pp:CF prog 144:=call144
theorem adi:CF prog 145:=call145
theorem adj:CF prog 146:=call146
theorem adk:CF prog 147:=call147
theorem adl:CF prog 148:=call148
theorem adm:CF prog 149:=call149
theorem adn:CF prog 150:=call150
theorem ado:CF prog 151:=call151
theorem UR:CF prog 152:=call152
theorem adp:CF prog 153:=call153
theorem US:CF prog 154:=call154
theorem adq:CF prog 155:=call155
theorem adr:CF prog 156:=call156
theorem UT:CF prog 157:=call157
theorem ads:CF prog 158:=call158
theorem adt:CF prog 159:=call159
theorem UU:CF prog 161:=call161
theorem adu:CF prog 162:=call162
theorem adw:CF prog 163:=call163
theorem Pq:CF prog 164:=call164
theorem adx:CF prog 166:=call166
theorem ady:CF prog 199:=call199
theorem adz:CF prog 200:=call200
theorem adA:CF prog 201:=call201
theorem adB:CF prog 202:=call202
theorem adC:CF prog 203:=call203
theorem adD:CF prog 204:=call204
theorem adE:CF prog 205:=call205
theorem adF:CF prog 206:=call206
theorem adG:CF prog 207:=call207
theorem UW:CF prog 208:=call208
theorem adH:CF prog 209:=call209
theorem adI:CF prog 210:=call210
theorem adJ:CF prog 286:=call286
theorem adK:CF prog 287:=call287
theorem adL:CF prog 290:=call290
theorem adM:CF prog 300:=call300
theorem adN:CF prog 373:=call373
theorem adO:CF prog 380:=call380
theorem adP:CF prog 381:=call381
theorem adQ:CF prog 382:=call382
instance:jh prog 6:=⟨cf6⟩
instance:jh prog 11:=⟨BL⟩
instance:jh prog 15:=⟨aiB⟩
instance:jh prog 19:=⟨Jz⟩
instance:jh prog 23:=⟨aiD⟩
instance:jh prog 29:=⟨S3⟩
instance:jh prog 36:=⟨aiG⟩
instance:jh prog 40:=⟨aiI⟩
instance:jh prog 41:=⟨acJ⟩
instance:jh prog 43:=⟨Pm⟩
instance:jh prog 44:=⟨MC⟩
instance:jh prog 45:=⟨acK⟩
instance:jh prog 46:=⟨XO⟩
instance:jh prog 48:=⟨aiK⟩
instance:jh prog 54:=⟨aiP⟩
instance:jh prog 56:=⟨aiR⟩
instance:jh prog 63:=⟨acL⟩
instance:jh prog 64:=⟨MD⟩
instance:jh prog 72:=⟨acN⟩
instance:jh prog 75:=⟨acO⟩
instance:jh prog 82:=⟨ai8⟩
instance:jh prog 83:=⟨ai9⟩
instance:jh prog 84:=⟨aja⟩
instance:jh prog 86:=⟨ajc⟩
instance:jh prog 89:=⟨ajf⟩
instance:jh prog 92:=⟨aji⟩
instance:jh prog 99:=⟨ajl⟩
instance:jh prog 102:=⟨UJ⟩
instance:jh prog 107:=⟨acT⟩
instance:jh prog 113:=⟨UN⟩
instance:jh prog 116:=⟨UO⟩
instance:jh prog 117:=⟨acZ⟩
instance:jh prog 118:=⟨ac0⟩
instance:jh prog 119:=⟨ac1⟩
instance:jh prog 120:=⟨UP⟩
instance:jh prog 121:=⟨ac2⟩
instance:jh prog 123:=⟨Pn⟩
instance:jh prog 124:=⟨ac4⟩
instance:jh prog 125:=⟨ac5⟩
instance:jh prog 126:=⟨ac6⟩
instance:jh prog 127:=⟨ac7⟩
instance:jh prog 131:=⟨adb⟩
instance:jh prog 132:=⟨ade⟩
instance:jh prog 138:=⟨adf⟩
instance:jh prog 145:=⟨adi⟩
instance:jh prog 147:=⟨adk⟩
instance:jh prog 148:=⟨adl⟩
instance:jh prog 149:=⟨adm⟩
instance:jh prog 150:=⟨adn⟩
instance:jh prog 154:=⟨US⟩
instance:jh prog 159:=⟨adt⟩
instance:jh prog 162:=⟨adu⟩
instance:jh prog 164:=⟨Pq⟩
instance:jh prog 166:=⟨adx⟩
instance:jh prog 199:=⟨ady⟩
instance:jh prog 201:=⟨adA⟩
instance:jh prog 204:=⟨adD⟩
instance:jh prog 205:=⟨adE⟩
instance:jh prog 210:=⟨adI⟩
instance:jh prog 290:=⟨adL⟩
instance:jh prog 300:=⟨adM⟩
instance:jh prog 373:=⟨adN⟩
instance:jh prog 380:=⟨adO⟩
instance:jh prog 381:=⟨adP⟩
instance:jh prog 382:=⟨adQ⟩
end Go.Rc

