/- Walks over the program, part WE. Conditions: as each theorem says. -/
import Derived.Test.YtgcmaglhocmnlaaGreatDoorFacts
import Derived.Test.YtgcmaglhocmnlaaGreatDoorWB
import Derived.Test.YtgcmaglhocmnlaaGreatDoorBe
set_option linter.unusedVariables false
set_option linter.unusedSimpArgs false
set_option linter.unusedSectionVars false
namespace Go.Rc
open Go Go.Proofs
set_option maxHeartbeats 400000
theorem copyone_calls {x:Rec} {a:Option Addr} {n c:Nat} {w:World} {M Z:Nat→Prop} (hst:St w M Z w []) (hk:Rd RR.key 2 Z w a n c x.reads) (h4:x.reads.length≤4000):Calls Tryz.prog 59 #[.agg (x.row a n c).toArray] w fun e w'=>∃a' n' c',e=.returned (.agg (x.row a' n' c').toArray)∧St w M Z w' [As.os RR.key 40 2 a' n' c' x.reads]:=by
 have hkn:=hk.len;refine enter (args:=[.agg (x.row a n c).toArray]) Tryz.func59 rfl Tryz.ntmps59 rfl<|?_;have st0:=hst;have st1:=st0.fact (As.mkro hk) (fun _ hx=>hx);have st2:=st1.newN RR.key 40 2;refine nx2 ?_;refine WL.go rfl (OX.box rfl rfl rfl fun b1 w1 nw1 hb1=>?_);have st3:=st2.newB nw1 hb1;refine WL.al st3 fun b2 w2 nw2 hb2 st4=>?_;refine nx5 ?_;refine WP .r (V1 one38 st4.b1 .r)<|?_;refine WL.ap rfl rfl st4.p2 ((As.gr st4.g3)) fun a5 c'5 w3 hf5 hn5 st5=>?_;refine nx ?_;refine WL.s1 st5.p2 fun w4 _ st6=>?_;refine nx4 ?_;refine WP .r (VA agg47 st6.b0 .r)<|?_;refine WL.go rfl (OX.stW sz47 (As.gb st6.g2) rfl rfl rfl rfl rfl fun w5 ss0 _ hs0=>?_);have st7:=st6.p2.updB ss0 hs0;refine nx3 ?_;refine EX.retC agg47 rfl rfl st7.b0 rfl<|?_;exact ⟨_,_,_,rfl,st7.drop.drop.p1.drop⟩
theorem copyR_calls {l:List Rec} {a:Option Addr} {n c:Nat} {w:World} {M Z:Nat→Prop} (hst:St w M Z w []) (hl:Rd RR.rcd 8 Z w a n c l) (h6:l.length≤1000000):Calls Tryz.prog 32 #[.slice a n c] w fun e w'=>∃a' n' c' Z',e=.returned (.slice a' n' c')∧Zle w.heap.size Z Z'∧St w M Z' w' [As.os RR.rcd 47 8 a' n' c' l]:=by
 have hlen:=hl.len;have hle:=hl.le;refine enter (args:=[.slice a n c]) Tryz.func32 rfl Tryz.ntmps32 rfl<|?_;have st0:=hst;have st1:=st0.fact (As.mkro hl) (fun _ hx=>hx);have st2:=st1.newN RR.rcd 47 8;refine nx12 ?_;refine nx7 ?_;refine WC.loopS (σ:=Nat × (Nat→Prop) × (List Rec) × (Option Addr) × Nat × Nat) (kvs:=fun (i,Z1,acc,a_ho,n_ho,c_ho)=>[(3,.slice a_ho n_ho c_ho),(6,.slice a n c),(7,.int .i64 (n:Int)),(8,.int .i64 (i:Int))]) (F:=fun (i,Z1,acc,a_ho,n_ho,c_ho)=>[As.os RR.rcd 47 8 a_ho n_ho c_ho (acc)]) (I:=fun (i,Z1,acc,a_ho,n_ho,c_ho)=>(i≤n)∧(Zle w.heap.size Z Z1)∧(acc=l.take i)∧True) (μ:=fun (i,Z1,acc,a_ho,n_ho,c_ho)=>n - i) (Zf:=fun (i,Z1,acc,a_ho,n_ho,c_ho)=>Z1) (0,Z,[],none,0,0) (st2) (Sub.v<|Sub.k2 rfl rfl<|Sub.v<|Sub.nil) (⟨by omega,Zle.refl _ _,by simp,trivial⟩)<|?_;rintro ⟨i,Z1,acc,a_ho,n_ho,c_ho⟩ w1 st3 ⟨hi,hZ,hacc,_⟩;simp only [CA,NA] at st3 hi hZ hacc ⊢;have hnl:=((As.gs st3.g0)).len
 have htk:acc.length≤1000000:=by rw [hacc,List.length_take];omega
 refine nx6 ?_;refine WC.cd (fun g9=>?_) fun g9=>?_
 ·
  simp at g9
  have hi2:i<l.length:=by omega
  refine nx5 ?_;obtain ⟨b_x1,o_x1,r_x1,ha_x1,hl_x1,hR_x1,hr_x1,hz_x1⟩:=Rd.at (As.gr st3.g1) hi2;obtain ⟨q1,q2,q3,rfl,hkq,hk4⟩:=hR_x1;have st4:=st3.fact (As.mkrg hz_x1 (st3.zlt _ hz_x1) hr_x1) (fun _ hx=>hx);have st5:=st4.fact (As.mkro hkq) (fun _ hx=>hx);refine nx ?_;refine WP .r (PV.ixS sl30 ha_x1 rfl rfl (by omega))<|WP .r (VA agg47 (As.grg st5.g1) .r)<|?_;refine WL.al st5 fun b5 w2 nw5 hb5 st6=>?_;refine WL.go rfl (OX.stW sz47 (As.gb st6.g0) rfl rfl rfl rfl rfl fun w3 ss0 _ hs0=>?_);have st7:=st6.updB ss0 hs0;refine nx4 ?_;refine WP .r (VA agg47 st7.b0 .r)<|?_;have st8:=st7;refine WL.go rfl (OX.call cf59 rfl rfl ((copyone_calls st8.e0 (As.gr st8.g1) hk4).mono ?_));rintro _ w4 ⟨e1,e2,e3,rfl,hst4⟩;refine ⟨_,rfl,?_⟩;have st9:=St.leave (l0:=[]) st8 hst4 (Zle.refl _ _);simp only [CA,NA] at st9;have hge:=St.fresh0 hst4;have hsz:=st8.size;have st10:=st9.frzS (by omega);have hZ2:=hZ.trans (Zle.frz (F:=fun x=>x∈oblk e1) hge) hsz;refine WL.go rfl (OX.bslice' (us:=l[i].row e1 e2 e3) bs30_1 rfl rfl rfl rfl fun b15 w5 nw15 hb15=>?_);have st11:=st10.newB nw15 hb15;refine WL.ap rfl rfl st11.p5 (SR.blk1 (A:=fun _=>True) (x:=l[i]) (As.gb st11.g0) trivial rfl (Rec.one _ _ _ _) ⟨e1,e2,e3,rfl,(As.gr st11.g1),hk4⟩) fun a16 c'16 w6 hf16 hn16 st12=>?_;refine nx8 ?_;refine EX.again (i+1,_,acc++[l[i]],a16,(n_ho+1),c'16) (Sub.v<|Sub.k2 rfl rfl<|Sub.v<|Sub.nil) ⟨st12.p1.drop.p1.drop.p1.drop.p1.drop.p1.drop,⟨by omega,hZ2,by rw [hacc,List.take_succ_eq_append_getElem hi2],trivial⟩⟩ (by first | (simp only [];omega) | omega)
 simp at g9
 have hall:acc=l:=by rw [hacc];exact List.take_of_length_le (by omega)
 subst hall;refine nx12 ?_;refine EX.ret1 rfl rfl<|?_;exact ⟨_,_,_,_,rfl,hZ,st3.p1.drop⟩
theorem findR_calls {l:List Rec} {k:Key} {a:Option Addr} {n c:Nat} {w:World} {M Z:Nat→Prop} (hst:St w M Z w []) (hl:Rd RR.rcd 8 Z w a n c l):Calls Tryz.prog 55 #[.slice a n c,k.val] w fun e w'=>∃a' n' c',e=.returned (.tuple #[.agg ((recOf l k).row a' n' c').toArray,.bool (findR l k).isSome])∧(recOf l k).reads.length≤4000∧St w M Z w' [As.os RR.key 40 2 a' n' c' (recOf l k).reads]:=by
 have hlen:=hl.len;have hle:=hl.le;refine enter (args:=[.slice a n c,k.val]) Tryz.func55 rfl Tryz.ntmps55 rfl<|?_;have st0:=hst;have st1:=st0.fact (As.mkro hl) (fun _ hx=>hx);refine nx2 ?_;refine WL.go rfl (OX.box rfl rfl rfl fun b3 w1 nw3 hb3=>?_);have st2:=st1.newB nw3 hb3;refine WL.al st2 fun b4 w2 nw4 hb4 st3=>?_;refine nx12 ?_;refine WC.loopS1 (σ:=Nat) (kvs:=fun i=>[(3,.pointer (some ⟨b3,0,none⟩)),(4,.pointer (some ⟨b4,0,none⟩)),(8,.slice a n c),(9,.int .i64 (n:Int)),(10,.int .i64 (i:Int))]) (F:=fun i=>[]) (I:=fun i=>(i≤n)∧(∀j x,j<i→l[j]?=some x→(x.key == k)=false)∧True) (μ:=fun i=>n - i) (0) (st3) (Sub.k4 rfl rfl rfl rfl<|Sub.v<|Sub.nil) (⟨by omega,fun j x h=>by omega,trivial⟩)<|?_;rintro i w3 st4 ⟨hi,hno,_⟩;simp only [CA,NA] at st4 hi hno ⊢;refine nx6 ?_;refine WC.cd (fun g11=>?_) fun g11=>?_
 ·
  simp at g11
  have hi2:i<l.length:=by omega
  refine nx5 ?_;obtain ⟨b_x1,o_x1,r_x1,ha_x1,hl_x1,hR_x1,hr_x1,hz_x1⟩:=Rd.at (As.gr st4.g2) hi2;obtain ⟨q1,q2,q3,rfl,hkq,hk4⟩:=hR_x1;have st5:=st4.fact (As.mkrg hz_x1 (st4.zlt _ hz_x1) hr_x1) (fun _ hx=>hx);have st6:=st5.fact (As.mkro hkq) (fun _ hx=>hx);refine nx ?_;refine WP .r (PV.ixS sl30 ha_x1 rfl rfl (by omega))<|WP .r (VA agg47 (As.grg st6.g1) .r)<|?_;refine WL.al st6 fun b7 w4 nw7 hb7 st7=>?_;refine WL.go rfl (OX.stW sz47 (As.gb st7.g0) rfl rfl rfl rfl rfl fun w5 ss0 _ hs0=>?_);have st8:=st7.updB ss0 hs0;refine nx5 ?_;refine WP .r (PV.ldM agg40 st8.b0 rfl rfl)<|WP .r (VA agg40 st8.b4 .r)<|WP .r (PV.eqK keyt40 (p:=l[i].key) (q:=k) rfl rfl)<|nx2 ?_;refine WC.cd (fun g17=>?_) fun g17=>?_
  ·
   simp at g17
   have hf:findR l k=some l[i]:=find_before hi2 hno (by simpa using g17)
   have hrf:recOf l k=l[i]:=by unfold recOf;rw [hf];rfl
   refine nx2 ?_;refine WP .r (VA agg47 st8.b0 .r)<|?_;have st9:=st8;refine WL.go rfl (OX.call cf59 rfl rfl ((copyone_calls st9.e0 (As.gr st9.g1) hk4).mono ?_));rintro _ w6 ⟨e1,e2,e3,rfl,hst6⟩;refine ⟨_,rfl,?_⟩;have st10:=St.leave (l0:=[]) st9 hst6 (Zle.refl _ _);simp only [CA,NA] at st10;refine WL.go rfl (OX.stW sz47 (As.gb st10.g4) rfl rfl rfl rfl rfl fun w7 ss1 _ hs1=>?_);have st11:=st10.p4.updB ss1 hs1;refine nx9 ?_;refine EX.retN rfl (RS.cell agg47 rfl st11.b0 rfl<|RS.tmp rfl<|RS.nil) rfl<|?_;exact ⟨e1,e2,e3,by rw [hf,hrf];rfl,by rw [hrf];exact hk4,by rw [hrf];exact st11.drop.p1.drop.p1.drop.p1.drop.p1.drop.p1.drop⟩
  simp at g17
  refine nx7 ?_;refine EX.again (i+1) (Sub.k4 rfl rfl rfl rfl<|Sub.v<|Sub.nil) ⟨st8.drop.drop.drop,⟨by omega,below_succ hi2 hno (by simpa using g17),trivial⟩⟩ (by first | (simp only [];omega) | omega)
 simp at g11
 have hf:findR l k=none:=find_all (i:=i) (by omega) hno
 have hrf:recOf l k=noRec:=by unfold recOf;rw [hf];rfl
 have st5:=st4.newN RR.key 40 2;refine nx8 ?_;refine WL.go rfl (OX.stW sz47 (As.gb st5.g1) rfl rfl rfl rfl rfl fun w4 ss2 _ hs2=>?_);have st6:=st5.p1.updB ss2 hs2;refine nx4 ?_;refine EX.retN rfl (RS.cell agg47 rfl st6.b0 rfl<|RS.tmp rfl<|RS.nil) rfl<|?_;exact ⟨none,0,0,by rw [hf,hrf];rfl,by rw [hrf];simp [noRec],by rw [hrf];exact st6.drop.p1.drop.p1.drop⟩
theorem findR_calls0 {l:List Rec} {k:Key} {a:Option Addr} {n c:Nat} {w:World} {Z:Nat→Prop} (hl:Rd RR.rcd 8 Z w a n c l):Calls Tryz.prog 55 #[.slice a n c,k.val] w fun e w'=>∃a' n' c',e=.returned (.tuple #[.agg ((recOf l k).row a' n' c').toArray,.bool (findR l k).isSome])∧Chg [] w w':=
 (findR_calls (M:=fun _=>False) (St.start fun _ hx=>hx.2) hl.cut).mono fun _ _ ⟨a',n',c',h1,_,h2⟩=>⟨a',n',c',h1,h2.cg⟩
theorem putR_calls {l:List Rec} {x:Rec} {a a2:Option Addr} {n c n2 e2:Nat} {w:World} {M Z:Nat→Prop} (hst:St w M Z w []) (hl:Rd RR.rcd 8 Z w a n c l) (h6:l.length≤1000000) (hx:Rd RR.key 2 Z w a2 n2 e2 x.reads) (hx4:x.reads.length≤4000):Calls Tryz.prog 97 #[.slice a n c,.agg (x.row a2 n2 e2).toArray] w fun e w'=>∃a' n' c' Z',e=.returned (.slice a' n' c')∧Zle w.heap.size Z Z'∧St w M Z' w' [As.os RR.rcd 47 8 a' n' c' (putR l x)]:=by
 have hlen:=hl.len;refine enter (args:=[.slice a n c,.agg (x.row a2 n2 e2).toArray]) Tryz.func97 rfl Tryz.ntmps97 rfl<|?_;have st0:=hst;have st1:=st0.fact (As.mkro hl) (fun _ hx=>hx);have st2:=st1.fact (As.mkro hx) (fun _ hx=>hx);have st3:=st2.newN RR.rcd 47 8;refine nx2 ?_;refine WL.go rfl (OX.box rfl rfl rfl fun b3 w1 nw3 hb3=>?_);have st4:=st3.newB nw3 hb3;refine nx12 ?_;refine nx10 ?_;refine WC.loopS (σ:=Nat × Bool × (Nat→Prop) × (List Rec) × (Option Addr) × Nat × Nat) (kvs:=fun (i,put,Z1,out,a_ho,n_ho,c_ho)=>[(3,.pointer (some ⟨b3,0,none⟩)),(5,.slice a_ho n_ho c_ho),(6,.bool put),(10,.slice a n c),(11,.int .i64 (n:Int)),(12,.int .i64 (i:Int))]) (F:=fun (i,put,Z1,out,a_ho,n_ho,c_ho)=>[As.os RR.rcd 47 8 a_ho n_ho c_ho (out)]) (I:=fun (i,put,Z1,out,a_ho,n_ho,c_ho)=>(i≤n)∧(Zle w.heap.size Z Z1)∧(out++putGo x (l.drop i) put=putR l x)∧True) (μ:=fun (i,put,Z1,out,a_ho,n_ho,c_ho)=>n - i) (Zf:=fun (i,put,Z1,out,a_ho,n_ho,c_ho)=>Z1) (0,false,Z,[],none,0,0) (st4.p1) (Sub.cons rfl<|Sub.v<|Sub.v<|Sub.k2 rfl rfl<|Sub.v<|Sub.nil) (⟨by omega,Zle.refl _ _,rfl,trivial⟩)<|?_;rintro ⟨i,put,Z1,out,a_ho,n_ho,c_ho⟩ w2 st5 ⟨hi,hZ,hinv,_⟩;simp only [CA,NA] at st5 hi hZ hinv ⊢;have hnl:=((As.gs st5.g0)).len
 have hol:out.length≤1000001:=by have h1:=congrArg List.length hinv;have h2:=putGo_len x l false;simp only [putR,List.length_append] at h1;omega
 refine nx6 ?_;refine WC.cd (fun g13=>?_) fun g13=>?_
 ·
  simp at g13
  have hi2:i<l.length:=by omega
  have hstep:putGo x (l.drop i) put=(if decide (0≤cmpK l[i].key x.key) && !put then [x] else [])++(if cmpK l[i].key x.key=0 then [] else [l[i]])++putGo x (l.drop (i+1)) (put || decide (0≤cmpK l[i].key x.key)):=by rw [List.drop_eq_getElem_cons hi2];rfl
  refine nx5 ?_;obtain ⟨b_x1,o_x1,r_x1,ha_x1,hl_x1,hR_x1,hr_x1,hz_x1⟩:=Rd.at (As.gr st5.g3) hi2;obtain ⟨q1,q2,q3,rfl,hkq,hk4⟩:=hR_x1;have st6:=st5.fact (As.mkrg hz_x1 (st5.zlt _ hz_x1) hr_x1) (fun _ hx=>hx);have st7:=st6.fact (As.mkro hkq) (fun _ hx=>hx);refine nx ?_;refine WP .r (PV.ixS sl30 ha_x1 rfl rfl (by omega))<|WP .r (VA agg47 (As.grg st7.g1) .r)<|?_;refine WL.al st7 fun b8 w3 nw8 hb8 st8=>?_;refine WL.go rfl (OX.stW sz47 (As.gb st8.g0) rfl rfl rfl rfl rfl fun w4 ss0 _ hs0=>?_);have st9:=st8.updB ss0 hs0;refine nx5 ?_;refine WP .r (PV.ldM agg40 st9.b0 rfl rfl)<|nx ?_;refine WP .r (PV.ldM agg40 st9.b4 rfl rfl)<|?_;refine WL.c0 (cmp_calls (k:=l[i].key) (q:=x.key)) st9 fun w5 s5 st10=>?_;refine nx5 ?_;refine WC.cut1S (t:=26) (v:=.bool (decide (0≤cmpK l[i].key x.key) && !put)) st10 ?_<|?_
  ·
   refine nx4 ?_;refine WL.gsplit (t:=23) rfl (fun g23=>?_) (fun g23=>?_)
   ·
    refine nx4 ?_;exact EX.meet1 7 rfl rfl rfl (by simp only [g23];first | rfl | simp) (st10)
   refine nx4 ?_;exact EX.meet1 7 rfl rfl rfl (by simp only [g23];first | rfl | simp) (st10)
  intro w6 st11;refine nx ?_;refine WC.cd (fun g26=>?_) fun g26=>?_
  ·
   simp at g26
   obtain ⟨hA,hB⟩:=g26;subst hB
   have hs:putGo x (l.drop i) false=[x]++(if cmpK l[i].key x.key=0 then [] else [l[i]])++putGo x (l.drop (i+1)) true:=by rw [hstep];simp [hA]
   refine nx2 ?_;refine WP .r (VA agg47 st11.b4 .r)<|?_;have st12:=st11;refine WL.go rfl (OX.call cf59 rfl rfl ((copyone_calls st12.e0 (As.gr st12.g5) hx4).mono ?_));rintro _ w7 ⟨f1,f2,f3,rfl,hst7⟩;refine ⟨_,rfl,?_⟩;have st13:=St.leave (l0:=[]) st12 hst7 (Zle.refl _ _);simp only [CA,NA] at st13;have hge:=St.fresh0 hst7;have hsz:=st12.size;have st14:=st13.frzS (by omega);have hZ2:=hZ.trans (Zle.frz (F:=fun x=>x∈oblk f1) hge) hsz;refine WL.go rfl (OX.bslice' (us:=x.row f1 f2 f3) bs30_1 rfl rfl rfl rfl fun b30 w8 nw30 hb30=>?_);have st15:=st14.newB nw30 hb30;refine WL.ap rfl rfl st15.p5 (SR.blk1 (A:=fun _=>True) (x:=x) (As.gb st15.g0) trivial rfl (Rec.one _ _ _ _) ⟨f1,f2,f3,rfl,(As.gr st15.g1),hx4⟩) fun a31 c'31 w9 hf31 hn31 st16=>?_;refine nx10 ?_;refine WC.cd (fun g33=>?_) fun g33=>?_
   ·
    simp at g33
    rw [if_neg g33] at hs;refine nx2 ?_;refine WP .r (VA agg47 st16.b3 .r)<|?_;refine WL.go rfl (OX.bslice' (us:=l[i].row q1 q2 q3) bs30_1 rfl rfl rfl rfl fun b36 w10 nw36 hb36=>?_);have st17:=st16.newB nw36 hb36;refine WL.ap rfl rfl st17.p1 (SR.blk1 (A:=fun _=>True) (x:=l[i]) (As.gb st17.g0) trivial rfl (Rec.one _ _ _ _) ⟨q1,q2,q3,rfl,(As.gr st17.g5),hk4⟩) fun a37 c'37 w11 hf37 hn37 st18=>?_;refine nx8 ?_;refine EX.again (i+1,true,_,_,a37,((n_ho+1)+1),c'37) (Sub.cons rfl<|Sub.v<|Sub.v<|Sub.k2 rfl rfl<|Sub.v<|Sub.nil) ⟨st18.p1.drop.p1.drop.p1.drop.p1.drop.p1.drop.p1.drop,⟨by omega,hZ2,by rw [← hinv,hs];simp,trivial⟩⟩ (by first | (simp only [];omega) | omega)
   simp at g33
   rw [if_pos g33] at hs;refine nx7 ?_;refine EX.again (i+1,true,_,_,a31,(n_ho+1),c'31) (Sub.cons rfl<|Sub.v<|Sub.v<|Sub.k2 rfl rfl<|Sub.v<|Sub.nil) ⟨st16.p1.drop.p1.drop.p1.drop.p1.drop.p1.drop,⟨by omega,hZ2,by rw [← hinv,hs];simp,trivial⟩⟩ (by first | (simp only [];omega) | omega)
  have hs:putGo x (l.drop i) put=[]++(if cmpK l[i].key x.key=0 then [] else [l[i]])++putGo x (l.drop (i+1)) put:=by
   rw [hstep]
   cases put
   ·
    simp at g26;rw [decide_eq_false (by omega)];rfl
   simp
  refine nx8 ?_;refine WC.cd (fun g33=>?_) fun g33=>?_
  ·
   simp at g33
   rw [if_neg g33] at hs;refine nx2 ?_;refine WP .r (VA agg47 st11.b0 .r)<|?_;refine WL.go rfl (OX.bslice' (us:=l[i].row q1 q2 q3) bs30_1 rfl rfl rfl rfl fun b36 w7 nw36 hb36=>?_);have st12:=st11.newB nw36 hb36;refine WL.ap rfl rfl st12.p4 (SR.blk1 (A:=fun _=>True) (x:=l[i]) (As.gb st12.g0) trivial rfl (Rec.one _ _ _ _) ⟨q1,q2,q3,rfl,(As.gr st12.g2),hk4⟩) fun a37 c'37 w8 hf37 hn37 st13=>?_;refine nx8 ?_;refine EX.again (i+1,put,_,_,a37,(n_ho+1),c'37) (Sub.cons rfl<|Sub.v<|Sub.v<|Sub.k2 rfl rfl<|Sub.v<|Sub.nil) ⟨st13.p1.drop.p1.drop.p1.drop.p1.drop,⟨by omega,hZ,by rw [← hinv,hs];simp,trivial⟩⟩ (by first | (simp only [];omega) | omega)
  simp at g33
  rw [if_pos g33] at hs;refine nx7 ?_;refine EX.again (i+1,put,_,_,a_ho,n_ho,c_ho) (Sub.cons rfl<|Sub.v<|Sub.v<|Sub.k2 rfl rfl<|Sub.v<|Sub.nil) ⟨st11.drop.drop.drop,⟨by omega,hZ,by rw [← hinv,hs];simp,trivial⟩⟩ (by first | (simp only [];omega) | omega)
 simp at g13
 have hall:l.drop i=[]:=List.drop_eq_nil_of_le (by omega);rw [hall] at hinv;refine nx12 ?_;refine WC.cd (fun g40=>?_) fun g40=>?_
 ·
  simp at g40
  subst g40;refine nx2 ?_;refine WP .r (VA agg47 st5.b1 .r)<|?_;have st6:=st5;refine WL.go rfl (OX.call cf59 rfl rfl ((copyone_calls st6.e0 (As.gr st6.g2) hx4).mono ?_));rintro _ w3 ⟨f1,f2,f3,rfl,hst3⟩;refine ⟨_,rfl,?_⟩;have st7:=St.leave (l0:=[]) st6 hst3 (Zle.refl _ _);simp only [CA,NA] at st7;have hge:=St.fresh0 hst3;have hsz:=st6.size;have st8:=st7.frzS (by omega);have hZ2:=hZ.trans (Zle.frz (F:=fun x=>x∈oblk f1) hge) hsz;refine WL.go rfl (OX.bslice' (us:=x.row f1 f2 f3) bs30_1 rfl rfl rfl rfl fun b44 w4 nw44 hb44=>?_);have st9:=st8.newB nw44 hb44;refine WL.ap rfl rfl st9.p2 (SR.blk1 (A:=fun _=>True) (x:=x) (As.gb st9.g0) trivial rfl (Rec.one _ _ _ _) ⟨f1,f2,f3,rfl,(As.gr st9.g1),hx4⟩) fun a45 c'45 w5 hf45 hn45 st10=>?_;refine nx10 ?_;refine EX.ret1 rfl rfl<|?_;exact ⟨_,_,_,_,rfl,hZ2,by rw [← hinv];exact st10.p1.drop.p1.drop.p1.drop.p1.drop.p1.drop⟩
 simp at g40
 subst g40;refine nx9 ?_;refine EX.ret1 rfl rfl<|?_;exact ⟨_,_,_,_,rfl,hZ,by rw [← hinv];simp only [putGo,List.append_nil,if_true];exact st5.p1.drop.p1.drop.p1.drop⟩
theorem validR_calls {x:Rec} {a:Option Addr} {n c:Nat} {w:World} {Z:Nat→Prop} (hk:Rd RR.key 2 Z w a n c x.reads):Calls Tryz.prog 85 #[.agg (x.row a n c).toArray] w fun e w'=>e=.returned (.bool (validRec x))∧Chg [] w w':=by
 have hlen:=SR.len hk;have hle:=SR.le hk;refine enter (args:=[.agg (x.row a n c).toArray]) Tryz.func85 rfl Tryz.ntmps85 rfl<|?_;have c0:Chg [] w w:=Chg.refl _ _;refine nx2 ?_;refine WL.go rfl (OX.box rfl rfl rfl fun b1 w1 nw1 hb1=>?_);have s1:=nw1.ext;have ge_hb1:=nw1.ge' c0;have c1:=c0.trans s1;refine nx6 ?_;refine WP .r (PV.fa fa47_2 rfl)<|WP .r (V1 one38 hb1.range .r)<|WP .r (PV.len' sl38 rfl)<|nx4 ?_;refine WC.loop (σ:=Nat) (kvs:=fun i=>[(1,.pointer (some ⟨b1,0,none⟩)),(6,.slice a n c),(7,.int .i64 (n:Int)),(8,.int .i64 (i:Int))]) (I:=fun i w'=>Chg [] w w'∧Blk w' b1 47 (x.row a n c)∧i≤n∧∀j y,j<i→x.reads[j]?=some y→validK y=true) (μ:=fun i=>n - i) 0 (Sub.k4 rfl rfl rfl rfl<|Sub.nil) ⟨c1,hb1,by omega,fun j y h=>by omega⟩ ?_;rintro i w2 ⟨c2,hb1,hi,hall⟩;refine nx6 ?_;refine WC.cd (fun g9=>?_) fun g9=>?_
 ·
  simp at g9
  have hi2:i<x.reads.length:=by omega
  refine nx5 ?_;obtain ⟨bx1,ox1,rx1,ha1,_,hrx,hr1,_⟩:=SR.at hk (getElem_some hi2);have hrx:=RR.flat_eq hrx;subst hrx;have hr1:=range_chg hr1 c2 (by simp);refine nx ?_;refine WP .r (PV.ixS sl38 ha1 rfl rfl (by omega))<|WP .r (VA agg40 hr1 .r)<|?_;refine WL.go rfl (OX.alloc zv40 rfl fun b4 w3 nw4 hb4=>?_);have s3:=nw4.ext;have ge_hb4:=nw4.ge' c2;have ne_hb1_hb4:b1≠b4:=nw4.ne hb1.lt;have ne_hb4_hb1:b4≠b1:=Ne.symm ne_hb1_hb4;have c3:=c2.trans s3;have hb1:=hb1.ext s3;refine WL.go rfl (OX.stW sz40 hb4 rfl rfl rfl rfl rfl fun w4 s4 _ hb4=>?_);have c4:=c3.own s4 ge_hb4;have hb1:=hb1.chg s4 (by simp [ne_hb1_hb4]);refine nx4 ?_;refine WP .r (VA agg40 hb4.range .r)<|?_;refine WL.go rfl (OX.call cf22 rfl rfl ((validK_calls (k:=x.reads[i])).mono ?_));rintro _ w5 ⟨rfl,s5⟩;refine ⟨_,rfl,?_⟩;have c5:=c4.trans s5;have hb1:=hb1.ext s5;have hb4:=hb4.ext s5;refine nx3 ?_;refine WC.cd (fun g14=>?_) fun g14=>?_
  ·
   simp at g14
   have hv:validRec x=false:=by unfold validRec;rw [Bool.and_eq_false_iff];left;rw [List.all_eq_false];exact ⟨_,List.getElem_mem hi2,by simp [g14]⟩
   refine nx11 ?_;refine EX.ret1 rfl rfl<|?_;exact ⟨by rw [hv],c5⟩
  simp at g14
  refine nx7 ?_;refine EX.again (i+1) (Sub.k2 rfl rfl<|Sub.cons rfl<|Sub.consI rfl (by simp)<|Sub.nil) ⟨c5,hb1,by omega,below_succ hi2 hall g14⟩ (by omega)
 simp at g9
 have hv:validRec x=recTail x:=by
  unfold validRec
  rw [show x.reads.all validK=true from List.all_eq_true.2 fun y hy=>by obtain ⟨j,hj,rfl⟩:=List.mem_iff_getElem.1 hy;exact hall j _ (by omega) (getElem_some hj)]
  rfl
 refine nx6 ?_;refine WC.cut1e (t:=2) (v:=.bool (recTail x)) (Chg [] w2) ?_<|?_
 ·
  refine nx ?_;refine WP .r (PV.fa fa47_0 rfl)<|WP .r (PV.ldM agg40 hb1.range rfl rfl)<|?_;refine WL.go rfl (OX.call cf22 rfl rfl ((validK_calls (k:=x.key)).mono ?_));rintro _ w3 ⟨rfl,s3⟩;refine ⟨_,rfl,?_⟩;have c3:=c2.trans s3;have hb1:=hb1.ext s3;refine nx ?_;refine WL.gsplit (t:=19) rfl (fun g19=>?_) (fun g19=>?_)
  ·
   refine WP .r (PV.fa fa47_0 rfl)<|WP .r (PV.ldM agg40 hb1.range rfl rfl)<|?_;refine WL.go rfl (OX.call cf23 rfl rfl ((input_calls (k:=x.key)).mono ?_));rintro _ w4 ⟨rfl,s4⟩;refine ⟨_,rfl,?_⟩;have c4:=c3.trans s4;have hb1:=hb1.ext s4;refine nx3 ?_;refine WL.gsplit (t:=25) rfl (fun g25=>?_) (fun g25=>?_)
   ·
    refine WP .r (PV.fa fa47_1 rfl)<|WP .r (V1 one9 hb1.range .r)<|WP .r (PV.lenS und9 rfl)<|nx3 ?_;refine WL.gsplit (t:=31) rfl (fun g31=>?_) (fun g31=>?_)
    ·
     refine WP .r (PV.fa fa47_2 rfl)<|WP .r (V1 one38 hb1.range .r)<|WP .r (PV.len' sl38 rfl)<|nx3 ?_;refine WL.gsplit (t:=37) rfl (fun g37=>?_) (fun g37=>?_)
     ·
      refine WP .r (PV.fa fa47_3 rfl)<|WP .r (V1 one3 hb1.range .r)<|nx3 ?_;refine WL.gsplit (t:=42) rfl (fun g42=>?_) (fun g42=>?_)
      ·
       refine WP .r (PV.fa fa47_3 rfl)<|WP .r (V1 one3 hb1.range .r)<|WP .r (PV.fa fa47_4 rfl)<|WP .r (V1 one3 hb1.range .r)<|nx3 ?_;refine WL.gsplit (t:=49) rfl (fun g49=>?_) (fun g49=>?_)
       ·
        refine WP .r (PV.fa fa47_4 rfl)<|WP .r (V1 one3 hb1.range .r)<|nx3 ?_;refine WL.gsplit (t:=54) rfl (fun g54=>?_) (fun g54=>?_)
        ·
         refine WP .r (PV.fa fa47_5 rfl)<|WP .r (V1 one3 hb1.range .r)<|nx3 ?_;refine WL.gsplit (t:=59) rfl (fun g59=>?_) (fun g59=>?_)
         ·
          refine WP .r (PV.fa fa47_5 rfl)<|WP .r (V1 one3 hb1.range .r)<|nx3 ?_;refine WL.gsplit (t:=64) rfl (fun g64=>?_) (fun g64=>?_)
          ·
           refine WP .r (PV.fa fa47_6 rfl)<|WP .r (V1 one4 hb1.range .r)<|nx2 ?_;refine WL.gsplit (t:=68) rfl (fun g68=>?_) (fun g68=>?_)
           ·
            refine nx7 ?_;exact EX.meet1e 69 rfl rfl rfl (by unfold recTail;simp only [g19,g25,g31,g37,g42,g49,g54,g59,g64,g68,← hlen];first | rfl | simp) (s3.trans s4)
           refine WP .r (PV.fa fa47_0 rfl)<|WP .r (PV.ldM agg40 hb1.range rfl rfl)<|?_;refine WL.go rfl (OX.call cf56 rfl rfl ((cyclic_calls (k:=x.key)).mono ?_));rintro _ w5 ⟨rfl,s5⟩;refine ⟨_,rfl,?_⟩;have c5:=c4.trans s5;have hb1:=hb1.ext s5;refine nx4 ?_;exact EX.meet1e 69 rfl rfl rfl (by unfold recTail;simp only [g19,g25,g31,g37,g42,g49,g54,g59,g64,g68,← hlen];first | rfl | simp) ((s3.trans s4).trans s5)
          refine nx11 ?_;exact EX.meet1e 68 rfl rfl rfl (by unfold recTail;simp only [g19,g25,g31,g37,g42,g49,g54,g59,g64,← hlen];first | rfl | simp) (s3.trans s4)
         refine nx12 ?_;refine nx4 ?_;exact EX.meet1e 67 rfl rfl rfl (by unfold recTail;simp only [g19,g25,g31,g37,g42,g49,g54,g59,← hlen];first | rfl | simp) (s3.trans s4)
        refine nx12 ?_;refine nx9 ?_;exact EX.meet1e 66 rfl rfl rfl (by unfold recTail;simp only [g19,g25,g31,g37,g42,g49,g54,← hlen];first | rfl | simp) (s3.trans s4)
       refine nx12 ?_;refine nx12 ?_;refine nx2 ?_;exact EX.meet1e 65 rfl rfl rfl (by unfold recTail;simp only [g19,g25,g31,g37,g42,g49,← hlen];first | rfl | simp) (s3.trans s4)
      refine nx12 ?_;refine nx12 ?_;refine nx9 ?_;exact EX.meet1e 64 rfl rfl rfl (by unfold recTail;simp only [g19,g25,g31,g37,g42,← hlen];first | rfl | simp) (s3.trans s4)
     refine nx12 ?_;refine nx12 ?_;refine nx12 ?_;refine nx2 ?_;exact EX.meet1e 63 rfl rfl rfl (by unfold recTail;simp only [g19,g25,g31,g37,← hlen];first | rfl | simp) (s3.trans s4)
    refine nx12 ?_;refine nx12 ?_;refine nx12 ?_;refine nx8 ?_;exact EX.meet1e 62 rfl rfl rfl (by unfold recTail;simp only [g19,g25,g31,← hlen];first | rfl | simp) (s3.trans s4)
   refine nx12 ?_;refine nx12 ?_;refine nx12 ?_;refine nx12 ?_;refine nx2 ?_;exact EX.meet1e 61 rfl rfl rfl (by unfold recTail;simp only [g19,g25,← hlen];first | rfl | simp) (s3.trans s4)
  refine nx12 ?_;refine nx12 ?_;refine nx12 ?_;refine nx12 ?_;refine nx8 ?_;exact EX.meet1e 60 rfl rfl rfl (by unfold recTail;simp only [g19,← hlen];first | rfl | simp) s3
 intro w3 s3;have c3:=c2.trans s3;have hb1:=hb1.ext s3;refine nx2 ?_;refine EX.ret1 rfl rfl<|?_;exact ⟨by rw [hv],c3⟩
theorem validList_calls {l:List Rec} {a:Option Addr} {n c:Nat} {w:World} {Z:Nat→Prop} (hl:Rd RR.rcd 8 Z w a n c l):Calls Tryz.prog 47 #[.slice a n c] w fun e w'=>∃b:Bool,e=.returned (.bool b)∧(b=true↔recsOk l)∧Chg [] w w':=by
 have hlen:=SR.len hl;have hle:=SR.le hl;refine enter (args:=[.slice a n c]) Tryz.func47 rfl Tryz.ntmps47 rfl<|?_;have c0:Chg [] w w:=Chg.refl _ _;refine nx9 ?_;refine WP .r (PV.len' sl30 rfl)<|nx4 ?_;refine WC.loop (σ:=Nat) (kvs:=fun i=>[(0,.slice a n c),(5,.slice a n c),(6,.int .i64 (n:Int)),(7,.int .i64 (i:Int))]) (I:=fun i w'=>Chg [] w w'∧i≤n∧∀j y,j<i→l[j]?=some y→recOkAt l j y) (μ:=fun i=>n - i) 0 (Sub.k4 rfl rfl rfl rfl<|Sub.nil) ⟨c0,by omega,fun j y h=>by omega⟩ ?_;rintro i w1 ⟨c1,hi,hall⟩;refine nx6 ?_;refine WC.cd (fun g8=>?_) fun g8=>?_
 ·
  simp at g8
  have hi2:i<l.length:=by omega
  have hl1:=getElem!_pos l i hi2;obtain ⟨bx1,ox1,rx1,ha1,_,⟨q1,q2,q3,rfl,hkq,hk4⟩,hr1,_⟩:=SR.at hl (getElem_some hi2);refine nx5 ?_;have hr1:=range_chg hr1 c1 (by simp);refine nx2 ?_;refine WP .r (PV.ixS sl30 ha1 rfl rfl (by omega))<|WP .r (VA agg47 hr1 .r)<|?_;refine WL.go rfl (OX.alloc zv47 rfl fun b4 w2 nw4 hb4=>?_);have s2:=nw4.ext;have ge_hb4:=nw4.ge' c1;have c2:=c1.trans s2;refine nx ?_;refine WL.go rfl (OX.stW sz47 hb4 rfl rfl rfl rfl rfl fun w3 s3 _ hb4=>?_);have c3:=c2.own s3 ge_hb4;refine nx3 ?_;refine WC.cut1 (t:=30) (v:=.bool (ordBad l i)) (Chg [] w3) ?_<|?_
  ·
   refine WC.drawn (m:=15) (C:=Chg [] w3) (T:=fun _=>Chg []) (E:=lookE [(1,fun v _=>v=.bool (validRec l[i]))]) (lookE_st (⟨fun _ _ _ _ _ _ _ h=>h,trivial⟩)) mixed (by kernel_rfl) (Chg.drew _ _)<|?_;refine DP .r (fun _ hC=>PV.ldA agg47 (hb4.ext hC).range rfl rfl)<|?_;refine DW.e rfl rfl rfl rfl rfl (fun wx hC hF=>OX.call cf85 rfl rfl ((validR_calls (hkq.ext (c3.trans hC))).mono ?_))<|?_
   ·
    rintro _ wy ⟨rfl,hy⟩;exact ⟨_,rfl,hC.trans hy,hy,_,rfl,rfl⟩
   rintro _ wz _ rfl;refine nx2 ?_;refine DW.gsplit (t:=15) rfl (fun g15=>?_) (fun g15=>?_)
   ·
    refine nx11 ?_;refine DW.nil<|?_;rintro w4 s4 _;have c4:=c3.trans s4;have hb4:=hb4.ext s4;refine nx5 ?_;exact EX.meet1 20 rfl rfl rfl (by unfold ordBad;first | (simp only [hl1,hl2,g15];done) | (simp only [hl1,hl2,g15];rfl) | (simp only [hl1,g15];rfl) | (simp only [hl1];rw [Bool.not_eq_true'] at g15;simp [g15]) | (simp only [hl1];simp at g15 g18;simp [g15,g18])) s4
   refine nx3 ?_;refine DW.gsplit (t:=18) rfl (fun g18=>?_) (fun g18=>?_)
   ·
    have hi3:i - 1<l.length:=by omega
    have hl2:=getElem!_pos l (i - 1) hi3;have hpos:=of_decide_eq_true g18;obtain ⟨bx2,ox2,rx2,ha2,_,⟨p1,p2,p3,rfl,_,_⟩,hr2,_⟩:=SR.at hl (getElem_some hi3);have hr2:=range_chg hr2 c3 (by simp);refine nx3 ?_;refine DP .r (fun _ hC=>PV.ixZ sl30 (i - 1) ha2 rfl rfl (by omega) (by omega))<|DP .r (fun _ hC=>PV.fa fa47_0 rfl)<|DP .r (fun _ hC=>PV.ldM agg40 (range_chg hr2 hC (by simp)) rfl rfl)<|DP .r (fun _ hC=>PV.fa fa47_0 rfl)<|DP .r (fun _ hC=>PV.ldM agg40 (hb4.ext hC).range rfl rfl)<|DW.nil<|?_;rintro w4 s4 _;have c4:=c3.trans s4;have hb4:=hb4.ext s4;refine WL.go rfl (OX.call cf25 rfl rfl ((cmp_calls (k:=l[i - 1].key) (q:=l[i].key)).mono ?_));rintro _ w5 ⟨rfl,s5⟩;refine ⟨_,rfl,?_⟩;have c5:=c4.trans s5;have hb4:=hb4.ext s5;refine nx4 ?_;exact EX.meet1 21 rfl rfl rfl (by unfold ordBad;first | (simp only [hl1,hl2,g15,g18];done) | (simp only [hl1,hl2,g15,g18];rfl) | (simp only [hl1,g15,g18];rfl) | (simp only [hl1];rw [Bool.not_eq_true'] at g15;simp [g15]) | (simp only [hl1];simp at g15 g18;simp [g15,g18])) (s4.trans s5)
   refine nx8 ?_;refine DW.nil<|?_;rintro w4 s4 _;have c4:=c3.trans s4;have hb4:=hb4.ext s4;refine nx5 ?_;exact EX.meet1 21 rfl rfl rfl (by unfold ordBad;first | (simp only [hl1,hl2,g15,g18];done) | (simp only [hl1,hl2,g15,g18];rfl) | (simp only [hl1,g15,g18];rfl) | (simp only [hl1];rw [Bool.not_eq_true'] at g15;simp [g15]) | (simp only [hl1];simp at g15 g18;simp [g15,g18])) s4
  intro w4 s4;have c4:=c3.trans s4;have hb4:=hb4.ext s4;refine nx ?_;refine WC.cd (fun g30=>?_) fun g30=>?_
  ·
   skip
   refine nx11 ?_;refine EX.ret1 rfl rfl<|?_;exact ⟨false,rfl,⟨fun h=>(by cases h),fun h=>absurd ((ordBad_false hi2).2 (h.2 i _ (getElem_some hi2))) (by simp [g30])⟩,c4⟩
  refine nx7 ?_;refine EX.again (i+1) (Sub.k2 rfl rfl<|Sub.cons rfl<|Sub.consI rfl (by simp)<|Sub.nil) ⟨c4,by omega,below_succ hi2 hall ((ordBad_false hi2).1 g30)⟩ (by omega)
 ·
  simp at g8
  have hall:∀j y,l[j]?=some y→recOkAt l j y:=fun j x hx=>hall j x (by have:=(List.getElem?_eq_some_iff.1 hx).1;omega) hx;refine nx8 ?_;refine WP .r (PV.len' sl30 rfl)<|nx5 ?_;refine EX.ret1 rfl rfl<|?_;exact ⟨_,rfl,⟨fun h=>⟨by simp at h;omega,hall⟩,fun h=>by have:=h.1;simp;omega⟩,c1⟩
 -- UNUSED ANNOTATIONS G17.T
end Go.Rc

