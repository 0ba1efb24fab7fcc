/- Walks over the program, part WF. Conditions: as each theorem says. -/
import Derived.Test.YthljjmhdkbeghaaGreatDoorIFacts
import Derived.Test.YthljjmhdkbeghaaGreatDoorIWB
import Derived.Test.YthljjmhdkbeghaaGreatDoorIBe
set_option linter.unusedVariables false
set_option linter.unusedSimpArgs false
set_option linter.unusedSectionVars false
namespace Go.Rc
open Go Go.Proofs
set_option maxHeartbeats 400000
theorem copyone_calls {x:Rec} {a:Option Addr} {n c:Nat} {w:World} {M Z:Nat→Prop} (hst:St w M Z w []) (hk:Rd RR.key 2 Z w a n c x.reads) (h4:x.reads.length≤4000):Calls Tryz.prog 100 #[.agg (x.row a n c).toArray] w fun e w'=>∃a' n' c',e=.returned (.agg (x.row a' n' c').toArray)∧St w M Z w' [As.os RR.key 35 2 a' n' c' x.reads]:=by
 have hkn:=hk.len;refine enter Tryz.func100 rfl Tryz.ntmps100 rfl<|?_;have st0:=hst;have st1:=st0.fact (As.mkro hk) (fun _ hx=>hx);have st2:=st1.newN RR.key 35 2;refine nx2 ?_;refine WL.go rfl (OX.box rfl rfl rfl fun b1 w1 nw1 hb1=>?_);have st3:=st2.newB nw1 hb1;refine WL.al st3 fun b2 w2 nw2 hb2 st4=>?_;refine nx5 ?_;refine WP .r (V1 one41 st4.b1 .r)<|?_;refine WL.ap rfl rfl st4.p2 ((As.gr st4.g3)) fun a5 c'5 w3 hf5 hn5 st5=>?_;refine nx ?_;refine WL.s1 st5.p2 fun w4 _ st6=>?_;refine nx4 ?_;refine WP .r (VA agg116 st6.b0 .r)<|?_;refine WL.go rfl (OX.stW sz116 (As.gb st6.g2) rfl rfl rfl rfl rfl fun w5 ss0 _ hs0=>?_);have st7:=st6.p2.updB ss0 hs0;refine nx3 ?_;refine EX.retC agg116 rfl rfl st7.b0 rfl<|?_;exact ⟨_,_,_,rfl,st7.p2.k1⟩
theorem copyR_calls {l:List Rec} {a:Option Addr} {n c:Nat} {w:World} {M Z:Nat→Prop} (hst:St w M Z w []) (hl:Rd RR.rcd 8 Z w a n c l) (h6:l.length≤1000000):Calls Tryz.prog 63 #[.slice a n c] w fun e w'=>∃a' n' c' Z',e=.returned (.slice a' n' c')∧Zle w.heap.size Z Z'∧St w M Z' w' [As.os RR.rcd 116 8 a' n' c' l]:=by
 have hlen:=hl.len;have hle:=hl.le;refine enter Tryz.func63 rfl Tryz.ntmps63 rfl<|?_;have st0:=hst;have st1:=st0.fact (As.mkro hl) (fun _ hx=>hx);have st2:=st1.newN RR.rcd 116 8;refine nx12 ?_;refine nx7 ?_;refine WC.loopS (σ:=Nat × (Nat→Prop) × (List Rec) × (Option Addr) × Nat × Nat) (kvs:=fun (i,Z1,acc,a_ho,n_ho,c_ho)=>[(3,.slice a_ho n_ho c_ho),(6,.slice a n c),(7,.int .i64 (n:Int)),(8,.int .i64 (i:Int))]) (F:=fun (i,Z1,acc,a_ho,n_ho,c_ho)=>[As.os RR.rcd 116 8 a_ho n_ho c_ho (acc)]) (I:=fun (i,Z1,acc,a_ho,n_ho,c_ho)=>(i≤n)∧(Zle w.heap.size Z Z1)∧(acc=l.take i)∧True) (μ:=fun (i,Z1,acc,a_ho,n_ho,c_ho)=>n - i) (Zf:=fun (i,Z1,acc,a_ho,n_ho,c_ho)=>Z1) (0,Z,[],none,0,0) (st2) (Sub.v<|Sub.k2 rfl rfl<|Sub.v<|Sub.nil) (⟨by omega,Zle.refl _ _,by simp,trivial⟩)<|?_;rintro ⟨i,Z1,acc,a_ho,n_ho,c_ho⟩ w1 st3 ⟨hi,hZ,hacc,_⟩;simp only [CA,NA] at st3 hi hZ hacc ⊢;have hnl:=((As.gs st3.g0)).len
 have htk:acc.length≤1000000:=by rw [hacc,List.length_take];omega
 refine nx6 ?_;refine WC.cd (fun g9=>?_) fun g9=>?_
 ·
  simp at g9
  have hi2:i<l.length:=by omega
  refine nx5 ?_;obtain ⟨b_x1,o_x1,r_x1,ha_x1,hl_x1,hR_x1,hr_x1,hz_x1⟩:=Rd.at (As.gr st3.g1) hi2;obtain ⟨q1,q2,q3,rfl,hkq,hk4⟩:=hR_x1;have st4:=st3.fact (As.mkrg hz_x1 (st3.zlt _ hz_x1) hr_x1) (fun _ hx=>hx);have st5:=st4.fact (As.mkro hkq) (fun _ hx=>hx);refine nx ?_;refine WP .r (PV.ixS sl29 ha_x1 rfl rfl (by omega))<|WP .r (VA agg116 (As.grg st5.g1) .r)<|?_;refine WL.al st5 fun b5 w2 nw5 hb5 st6=>?_;refine WL.go rfl (OX.stW sz116 (As.gb st6.g0) rfl rfl rfl rfl rfl fun w3 ss0 _ hs0=>?_);have st7:=st6.updB ss0 hs0;refine nx4 ?_;refine WP .r (VA agg116 st7.b0 .r)<|?_;have st8:=st7;refine WL.go rfl (OX.call cf100 rfl rfl ((copyone_calls st8.e0 (As.gr st8.g1) hk4).mono ?_));rintro _ w4 ⟨e1,e2,e3,rfl,hst4⟩;refine ⟨_,rfl,?_⟩;have st9:=St.leave (l0:=[]) st8 hst4 (Zle.refl _ _);simp only [CA,NA] at st9;have hge:=St.fresh0 hst4;have hsz:=st8.size;have st10:=st9.frzS (by omega);have hZ2:=hZ.trans (Zle.frz (F:=fun x=>x∈oblk e1) hge) hsz;refine WL.go rfl (OX.bslice' (us:=l[i].row e1 e2 e3) bs29_1 rfl rfl rfl rfl fun b15 w5 nw15 hb15=>?_);have st11:=st10.newB nw15 hb15;refine WL.ap rfl rfl st11.p5 (SR.blk1 (A:=fun _=>True) (x:=l[i]) (As.gb st11.g0) trivial rfl (Rec.one _ _ _ _) ⟨e1,e2,e3,rfl,(As.gr st11.g1),hk4⟩) fun a16 c'16 w6 hf16 hn16 st12=>?_;refine nx8 ?_;refine EX.again (i+1,_,acc++[l[i]],a16,(n_ho+1),c'16) (Sub.v<|Sub.k2 rfl rfl<|Sub.v<|Sub.nil) ⟨st12.p6.p1.k2,⟨by omega,hZ2,by rw [hacc,List.take_succ_eq_append_getElem hi2],trivial⟩⟩ (by first | (simp only [];omega) | omega)
 simp at g9
 have hall:acc=l:=by rw [hacc];exact List.take_of_length_le (by omega)
 subst hall;refine nx12 ?_;refine EX.ret1 rfl rfl<|?_;exact ⟨_,_,_,_,rfl,hZ,st3.p1.drop⟩
theorem findR_calls {l:List Rec} {k:Key} {a:Option Addr} {n c:Nat} {w:World} {M Z:Nat→Prop} (hst:St w M Z w []) (hl:Rd RR.rcd 8 Z w a n c l):Calls Tryz.prog 117 #[.slice a n c,k.val] w fun e w'=>∃a' n' c',e=.returned (.tuple #[.agg ((recOf l k).row a' n' c').toArray,.bool (findR l k).isSome])∧(recOf l k).reads.length≤4000∧St w M Z w' [As.os RR.key 35 2 a' n' c' (recOf l k).reads]:=by
 have hlen:=hl.len;have hle:=hl.le;refine enter Tryz.func117 rfl Tryz.ntmps117 rfl<|?_;have st0:=hst;have st1:=st0.fact (As.mkro hl) (fun _ hx=>hx);refine nx2 ?_;refine WL.go rfl (OX.box rfl rfl rfl fun b3 w1 nw3 hb3=>?_);have st2:=st1.newB nw3 hb3;refine WL.al st2 fun b4 w2 nw4 hb4 st3=>?_;refine nx12 ?_;refine WC.loopS1 (σ:=Nat) (kvs:=fun i=>[(3,.pointer (some ⟨b3,0,none⟩)),(4,.pointer (some ⟨b4,0,none⟩)),(8,.slice a n c),(9,.int .i64 (n:Int)),(10,.int .i64 (i:Int))]) (F:=fun i=>[]) (I:=fun i=>(i≤n)∧(∀j x,j<i→l[j]?=some x→(x.key == k)=false)∧True) (μ:=fun i=>n - i) (0) (st3) (Sub.k4 rfl rfl rfl rfl<|Sub.v<|Sub.nil) (⟨by omega,fun j x h=>by omega,trivial⟩)<|?_;rintro i w3 st4 ⟨hi,hno,_⟩;simp only [CA,NA] at st4 hi hno ⊢;refine nx6 ?_;refine WC.cd (fun g11=>?_) fun g11=>?_
 ·
  simp at g11
  have hi2:i<l.length:=by omega
  refine nx5 ?_;obtain ⟨b_x1,o_x1,r_x1,ha_x1,hl_x1,hR_x1,hr_x1,hz_x1⟩:=Rd.at (As.gr st4.g2) hi2;obtain ⟨q1,q2,q3,rfl,hkq,hk4⟩:=hR_x1;have st5:=st4.fact (As.mkrg hz_x1 (st4.zlt _ hz_x1) hr_x1) (fun _ hx=>hx);have st6:=st5.fact (As.mkro hkq) (fun _ hx=>hx);refine nx ?_;refine WP .r (PV.ixS sl29 ha_x1 rfl rfl (by omega))<|WP .r (VA agg116 (As.grg st6.g1) .r)<|?_;refine WL.al st6 fun b7 w4 nw7 hb7 st7=>?_;refine WL.go rfl (OX.stW sz116 (As.gb st7.g0) rfl rfl rfl rfl rfl fun w5 ss0 _ hs0=>?_);have st8:=st7.updB ss0 hs0;refine nx5 ?_;refine WP .r (PV.ldM agg35 st8.b0 rfl rfl)<|WP .r (VA agg35 st8.b4 .r)<|WP .r (PV.eqK keyt35 (p:=l[i].key) (q:=k) rfl rfl)<|nx2 ?_;refine WC.cd (fun g17=>?_) fun g17=>?_
  ·
   simp at g17
   have hf:findR l k=some l[i]:=find_before hi2 hno (by simpa using g17)
   have hrf:recOf l k=l[i]:=by unfold recOf;rw [hf];rfl
   refine nx2 ?_;refine WP .r (VA agg116 st8.b0 .r)<|?_;have st9:=st8;refine WL.go rfl (OX.call cf100 rfl rfl ((copyone_calls st9.e0 (As.gr st9.g1) hk4).mono ?_));rintro _ w6 ⟨e1,e2,e3,rfl,hst6⟩;refine ⟨_,rfl,?_⟩;have st10:=St.leave (l0:=[]) st9 hst6 (Zle.refl _ _);simp only [CA,NA] at st10;refine WL.go rfl (OX.stW sz116 (As.gb st10.g4) rfl rfl rfl rfl rfl fun w7 ss1 _ hs1=>?_);have st11:=st10.p4.updB ss1 hs1;refine nx9 ?_;refine EX.retN rfl (RS.cell agg116 rfl st11.b0 rfl<|RS.tmp rfl<|RS.nil) rfl<|?_;exact ⟨e1,e2,e3,by rw [hf,hrf];rfl,by rw [hrf];exact hk4,by rw [hrf];exact st11.p1.k1⟩
  simp at g17
  refine nx7 ?_;refine EX.again (i+1) (Sub.k4 rfl rfl rfl rfl<|Sub.v<|Sub.nil) ⟨st8.p5.p5.p5.k3,⟨by omega,below_succ hi2 hno (by simpa using g17),trivial⟩⟩ (by first | (simp only [];omega) | omega)
 simp at g11
 have hf:findR l k=none:=find_all (i:=i) (by omega) hno
 have hrf:recOf l k=noRec:=by unfold recOf;rw [hf];rfl
 have st5:=st4.newN RR.key 35 2;refine nx8 ?_;refine WL.go rfl (OX.stW sz116 (As.gb st5.g1) rfl rfl rfl rfl rfl fun w4 ss2 _ hs2=>?_);have st6:=st5.p1.updB ss2 hs2;refine nx4 ?_;refine EX.retN rfl (RS.cell agg116 rfl st6.b0 rfl<|RS.tmp rfl<|RS.nil) rfl<|?_;exact ⟨none,0,0,by rw [hf,hrf];rfl,by rw [hrf];simp [noRec],by rw [hrf];exact st6.p1.k1⟩
theorem findR_calls0 {l:List Rec} {k:Key} {a:Option Addr} {n c:Nat} {w:World} {Z:Nat→Prop} (hl:Rd RR.rcd 8 Z w a n c l):Calls Tryz.prog 117 #[.slice a n c,k.val] w fun e w'=>∃a' n' c',e=.returned (.tuple #[.agg ((recOf l k).row a' n' c').toArray,.bool (findR l k).isSome])∧Chg [] w w':=
 (findR_calls (M:=fun _=>False) (St.start fun _ hx=>hx.2) hl.cut).mono fun _ _ ⟨a',n',c',h1,_,h2⟩=>⟨a',n',c',h1,h2.cg⟩
theorem sizeR_calls {x:Rec} {a:Option Addr} {n c:Nat} {w:World} (h1:x.key.text.size≤4611686018427) (h2:x.value.size≤4611686018427) (h3:n≤4611686018427):Calls Tryz.prog 116 #[.agg (x.row a n c).toArray] w fun e w'=>e=.returned (.int .i64 (16+x.key.text.size+x.value.size+8*n:Int))∧Chg [] w w':=by
 refine enter Tryz.func116 rfl Tryz.ntmps116 rfl<|?_;have c0:Chg [] w w:=Chg.refl _ _;refine nx2 ?_;refine WL.go rfl (OX.box rfl rfl rfl fun b1 w1 nw1 hb1=>?_);have s1:=nw1.ext;have ge_hb1:=nw1.ge' c0;have c1:=c0.trans s1;refine nx5 ?_;refine WP .r (PV.fa fa116_0 rfl)<|WP .r (PV.fa fa35_1 rfl)<|WP .r (V1 one9 hb1.range .r)<|WP .r (PV.lenS und9 rfl)<|nx ?_;refine WP .r (PV.fa fa116_1 rfl)<|WP .r (V1 one9 hb1.range .r)<|WP .r (PV.lenS und9 rfl)<|nx ?_;refine WP .r (PV.fa fa116_2 rfl)<|WP .r (V1 one41 hb1.range .r)<|WP .r (PV.len' sl41 rfl)<|WP .r (PV.mul rfl rfl (by omega) (by omega))<|nx5 ?_;refine EX.ret1 rfl rfl<|?_;exact ⟨rfl,c1⟩
theorem dropR_calls {l:List Rec} {k:Key} {a:Option Addr} {n c:Nat} {w:World} {M Z:Nat→Prop} (hst:St w M Z w []) (hl:Rd RR.rcd 8 Z w a n c l) (h6:l.length≤1000000):Calls Tryz.prog 76 #[.slice a n c,k.val] w fun e w'=>∃a' n' c',e=.returned (.slice a' n' c')∧St w M Z w' [As.os RR.rcd 116 8 a' n' c' (dropR l k)]:=by
 have hlen:=hl.len;refine enter Tryz.func76 rfl Tryz.ntmps76 rfl<|?_;have st0:=hst;have st1:=st0.fact (As.mkro hl) (fun _ hx=>hx);have st2:=st1.newN RR.rcd 116 8;refine nx2 ?_;refine WL.go rfl (OX.box rfl rfl rfl fun b3 w1 nw3 hb3=>?_);have st3:=st2.newB nw3 hb3;refine nx12 ?_;refine nx5 ?_;refine WC.loopS1 (σ:=Nat × (List Rec) × (Option Addr) × Nat × Nat) (kvs:=fun (i,acc,a_ho,n_ho,c_ho)=>[(3,.pointer (some ⟨b3,0,none⟩)),(5,.slice a_ho n_ho c_ho),(8,.slice a n c),(9,.int .i64 (n:Int)),(10,.int .i64 (i:Int))]) (F:=fun (i,acc,a_ho,n_ho,c_ho)=>[As.os RR.rcd 116 8 a_ho n_ho c_ho (acc)]) (I:=fun (i,acc,a_ho,n_ho,c_ho)=>(i≤n)∧(acc=dropR (l.take i) k)∧True) (μ:=fun (i,acc,a_ho,n_ho,c_ho)=>n - i) (0,[],none,0,0) (st3.p1) (Sub.cons rfl<|Sub.v<|Sub.k2 rfl rfl<|Sub.v<|Sub.nil) (⟨by omega,by simp [dropR],trivial⟩)<|?_;rintro ⟨i,acc,a_ho,n_ho,c_ho⟩ w2 st4 ⟨hi,hacc,_⟩;simp only [CA,NA] at st4 hi hacc ⊢;have hnl:=((As.gs st4.g0)).len;have htk:=dropR_len (l.take i) k
 have htk2:acc.length≤1000000:=by rw [List.length_take,← hacc] at htk;omega
 refine nx6 ?_;refine WC.cd (fun g11=>?_) fun g11=>?_
 ·
  simp at g11
  have hi2:i<l.length:=by omega
  have hdr:=dropR_take (k:=k) hi2;refine nx5 ?_;obtain ⟨b_x1,o_x1,r_x1,ha_x1,hl_x1,hR_x1,hr_x1,hz_x1⟩:=Rd.at (As.gr st4.g2) hi2;obtain ⟨q1,q2,q3,rfl,hkq,hk4⟩:=hR_x1;have st5:=st4.fact (As.mkrg hz_x1 (st4.zlt _ hz_x1) hr_x1) (fun _ hx=>hx);have st6:=st5.fact (As.mkro hkq) (fun _ hx=>hx);refine nx ?_;refine WP .r (PV.ixS sl29 ha_x1 rfl rfl (by omega))<|WP .r (VA agg116 (As.grg st6.g1) .r)<|?_;refine WL.al st6 fun b7 w3 nw7 hb7 st7=>?_;refine WL.go rfl (OX.stW sz116 (As.gb st7.g0) rfl rfl rfl rfl rfl fun w4 ss0 _ hs0=>?_);have st8:=st7.updB ss0 hs0;refine nx5 ?_;refine WP .r (PV.ldM agg35 st8.b0 rfl rfl)<|WP .r (VA agg35 st8.b4 .r)<|WP .r (PV.neK keyt35 (p:=l[i].key) (q:=k) rfl rfl)<|nx2 ?_;refine WC.cd (fun g17=>?_) fun g17=>?_
  ·
   simp at g17
   rw [if_neg g17] at hdr;refine nx2 ?_;refine WP .r (VA agg116 st8.b0 .r)<|?_;refine WL.go rfl (OX.bslice' (us:=l[i].row q1 q2 q3) bs29_1 rfl rfl rfl rfl fun b20 w5 nw20 hb20=>?_);have st9:=st8.newB nw20 hb20;refine WL.ap rfl rfl st9.p4 (SR.blk1 (A:=fun _=>True) (x:=l[i]) (As.gb st9.g0) trivial rfl (Rec.one _ _ _ _) ⟨q1,q2,q3,rfl,(As.gr st9.g2),hk4⟩) fun a21 c'21 w6 hf21 hn21 st10=>?_;refine nx8 ?_;refine EX.again (i+1,acc++[l[i]],a21,(n_ho+1),c'21) (Sub.cons rfl<|Sub.v<|Sub.k2 rfl rfl<|Sub.v<|Sub.nil) ⟨st10.p6.p6.p2.k3,⟨by omega,by rw [hdr,hacc],trivial⟩⟩ (by first | (simp only [];omega) | omega)
  simp at g17
  rw [if_pos g17] at hdr;refine nx7 ?_;refine EX.again (i+1,acc,a_ho,n_ho,c_ho) (Sub.cons rfl<|Sub.v<|Sub.k2 rfl rfl<|Sub.v<|Sub.nil) ⟨st8.p5.p5.p5.k3,⟨by omega,by rw [hdr,hacc],trivial⟩⟩ (by first | (simp only [];omega) | omega)
 simp at g11
 have hall:acc=dropR l k:=by rw [hacc,List.take_of_length_le (by omega)]
 subst hall;refine nx12 ?_;refine EX.ret1 rfl rfl<|?_;exact ⟨_,_,_,rfl,st4.p1.drop.p1.drop⟩
theorem putR_calls {l:List Rec} {x:Rec} {a a2:Option Addr} {n c n2 e2:Nat} {w:World} {M Z:Nat→Prop} (hst:St w M Z w []) (hl:Rd RR.rcd 8 Z w a n c l) (h6:l.length≤1000000) (hx:Rd RR.key 2 Z w a2 n2 e2 x.reads) (hx4:x.reads.length≤4000):Calls Tryz.prog 150 #[.slice a n c,.agg (x.row a2 n2 e2).toArray] w fun e w'=>∃a' n' c' Z',e=.returned (.slice a' n' c')∧Zle w.heap.size Z Z'∧St w M Z' w' [As.os RR.rcd 116 8 a' n' c' (putR l x)]:=by
 have hlen:=hl.len;refine enter Tryz.func150 rfl Tryz.ntmps150 rfl<|?_;have st0:=hst;have st1:=st0.fact (As.mkro hl) (fun _ hx=>hx);have st2:=st1.fact (As.mkro hx) (fun _ hx=>hx);have st3:=st2.newN RR.rcd 116 8;refine nx2 ?_;refine WL.go rfl (OX.box rfl rfl rfl fun b3 w1 nw3 hb3=>?_);have st4:=st3.newB nw3 hb3;refine nx12 ?_;refine nx10 ?_;refine WC.loopS (σ:=Nat × Bool × (Nat→Prop) × (List Rec) × (Option Addr) × Nat × Nat) (kvs:=fun (i,put,Z1,out,a_ho,n_ho,c_ho)=>[(3,.pointer (some ⟨b3,0,none⟩)),(5,.slice a_ho n_ho c_ho),(6,.bool put),(10,.slice a n c),(11,.int .i64 (n:Int)),(12,.int .i64 (i:Int))]) (F:=fun (i,put,Z1,out,a_ho,n_ho,c_ho)=>[As.os RR.rcd 116 8 a_ho n_ho c_ho (out)]) (I:=fun (i,put,Z1,out,a_ho,n_ho,c_ho)=>(i≤n)∧(Zle w.heap.size Z Z1)∧(out++putGo x (l.drop i) put=putR l x)∧True) (μ:=fun (i,put,Z1,out,a_ho,n_ho,c_ho)=>n - i) (Zf:=fun (i,put,Z1,out,a_ho,n_ho,c_ho)=>Z1) (0,false,Z,[],none,0,0) (st4.p1) (Sub.cons rfl<|Sub.v<|Sub.v<|Sub.k2 rfl rfl<|Sub.v<|Sub.nil) (⟨by omega,Zle.refl _ _,rfl,trivial⟩)<|?_;rintro ⟨i,put,Z1,out,a_ho,n_ho,c_ho⟩ w2 st5 ⟨hi,hZ,hinv,_⟩;simp only [CA,NA] at st5 hi hZ hinv ⊢;have hnl:=((As.gs st5.g0)).len
 have hol:out.length≤1000001:=by have h1:=congrArg List.length hinv;have h2:=putGo_len x l false;simp only [putR,List.length_append] at h1;omega
 refine nx6 ?_;refine WC.cd (fun g13=>?_) fun g13=>?_
 ·
  simp at g13
  have hi2:i<l.length:=by omega
  have hstep:putGo x (l.drop i) put=(if decide (0≤cmpK l[i].key x.key) && !put then [x] else [])++(if cmpK l[i].key x.key=0 then [] else [l[i]])++putGo x (l.drop (i+1)) (put || decide (0≤cmpK l[i].key x.key)):=by rw [List.drop_eq_getElem_cons hi2];rfl
  refine nx5 ?_;obtain ⟨b_x1,o_x1,r_x1,ha_x1,hl_x1,hR_x1,hr_x1,hz_x1⟩:=Rd.at (As.gr st5.g3) hi2;obtain ⟨q1,q2,q3,rfl,hkq,hk4⟩:=hR_x1;have st6:=st5.fact (As.mkrg hz_x1 (st5.zlt _ hz_x1) hr_x1) (fun _ hx=>hx);have st7:=st6.fact (As.mkro hkq) (fun _ hx=>hx);refine nx ?_;refine WP .r (PV.ixS sl29 ha_x1 rfl rfl (by omega))<|WP .r (VA agg116 (As.grg st7.g1) .r)<|?_;refine WL.al st7 fun b8 w3 nw8 hb8 st8=>?_;refine WL.go rfl (OX.stW sz116 (As.gb st8.g0) rfl rfl rfl rfl rfl fun w4 ss0 _ hs0=>?_);have st9:=st8.updB ss0 hs0;refine nx5 ?_;refine WP .r (PV.ldM agg35 st9.b0 rfl rfl)<|nx ?_;refine WP .r (PV.ldM agg35 st9.b4 rfl rfl)<|?_;refine WL.c0 (cmp_calls (k:=l[i].key) (q:=x.key)) st9 fun w5 s5 st10=>?_;refine nx5 ?_;refine WC.cut1S (t:=26) (v:=.bool (decide (0≤cmpK l[i].key x.key) && !put)) st10 ?_<|?_
  ·
   refine nx4 ?_;refine WL.gsplit (t:=23) rfl (fun g23=>?_) (fun g23=>?_)
   ·
    refine nx4 ?_;exact EX.meet1 7 rfl rfl rfl (by simp only [g23];first | rfl | simp) (st10)
   refine nx4 ?_;exact EX.meet1 7 rfl rfl rfl (by simp only [g23];first | rfl | simp) (st10)
  intro w6 st11;refine nx ?_;refine WC.cd (fun g26=>?_) fun g26=>?_
  ·
   simp at g26
   obtain ⟨hA,hB⟩:=g26;subst hB
   have hs:putGo x (l.drop i) false=[x]++(if cmpK l[i].key x.key=0 then [] else [l[i]])++putGo x (l.drop (i+1)) true:=by rw [hstep];simp [hA]
   refine nx2 ?_;refine WP .r (VA agg116 st11.b4 .r)<|?_;have st12:=st11;refine WL.go rfl (OX.call cf100 rfl rfl ((copyone_calls st12.e0 (As.gr st12.g5) hx4).mono ?_));rintro _ w7 ⟨f1,f2,f3,rfl,hst7⟩;refine ⟨_,rfl,?_⟩;have st13:=St.leave (l0:=[]) st12 hst7 (Zle.refl _ _);simp only [CA,NA] at st13;have hge:=St.fresh0 hst7;have hsz:=st12.size;have st14:=st13.frzS (by omega);have hZ2:=hZ.trans (Zle.frz (F:=fun x=>x∈oblk f1) hge) hsz;refine WL.go rfl (OX.bslice' (us:=x.row f1 f2 f3) bs29_1 rfl rfl rfl rfl fun b30 w8 nw30 hb30=>?_);have st15:=st14.newB nw30 hb30;refine WL.ap rfl rfl st15.p5 (SR.blk1 (A:=fun _=>True) (x:=x) (As.gb st15.g0) trivial rfl (Rec.one _ _ _ _) ⟨f1,f2,f3,rfl,(As.gr st15.g1),hx4⟩) fun a31 c'31 w9 hf31 hn31 st16=>?_;refine nx10 ?_;refine WC.cd (fun g33=>?_) fun g33=>?_
   ·
    simp at g33
    rw [if_neg g33] at hs;refine nx2 ?_;refine WP .r (VA agg116 st16.b3 .r)<|?_;refine WL.go rfl (OX.bslice' (us:=l[i].row q1 q2 q3) bs29_1 rfl rfl rfl rfl fun b36 w10 nw36 hb36=>?_);have st17:=st16.newB nw36 hb36;refine WL.ap rfl rfl st17.p1 (SR.blk1 (A:=fun _=>True) (x:=l[i]) (As.gb st17.g0) trivial rfl (Rec.one _ _ _ _) ⟨q1,q2,q3,rfl,(As.gr st17.g5),hk4⟩) fun a37 c'37 w11 hf37 hn37 st18=>?_;refine nx8 ?_;refine EX.again (i+1,true,_,_,a37,((n_ho+1)+1),c'37) (Sub.cons rfl<|Sub.v<|Sub.v<|Sub.k2 rfl rfl<|Sub.v<|Sub.nil) ⟨st18.p9.p9.p9.p3.k4,⟨by omega,hZ2,by rw [← hinv,hs];simp,trivial⟩⟩ (by first | (simp only [];omega) | omega)
   simp at g33
   rw [if_pos g33] at hs;refine nx7 ?_;refine EX.again (i+1,true,_,_,a31,(n_ho+1),c'31) (Sub.cons rfl<|Sub.v<|Sub.v<|Sub.k2 rfl rfl<|Sub.v<|Sub.nil) ⟨st16.p8.p8.p8.p3.k4,⟨by omega,hZ2,by rw [← hinv,hs];simp,trivial⟩⟩ (by first | (simp only [];omega) | omega)
  have hs:putGo x (l.drop i) put=[]++(if cmpK l[i].key x.key=0 then [] else [l[i]])++putGo x (l.drop (i+1)) put:=by
   rw [hstep]
   cases put
   ·
    simp at g26;rw [decide_eq_false (by omega)];rfl
   simp
  refine nx8 ?_;refine WC.cd (fun g33=>?_) fun g33=>?_
  ·
   simp at g33
   rw [if_neg g33] at hs;refine nx2 ?_;refine WP .r (VA agg116 st11.b0 .r)<|?_;refine WL.go rfl (OX.bslice' (us:=l[i].row q1 q2 q3) bs29_1 rfl rfl rfl rfl fun b36 w7 nw36 hb36=>?_);have st12:=st11.newB nw36 hb36;refine WL.ap rfl rfl st12.p4 (SR.blk1 (A:=fun _=>True) (x:=l[i]) (As.gb st12.g0) trivial rfl (Rec.one _ _ _ _) ⟨q1,q2,q3,rfl,(As.gr st12.g2),hk4⟩) fun a37 c'37 w8 hf37 hn37 st13=>?_;refine nx8 ?_;refine EX.again (i+1,put,_,_,a37,(n_ho+1),c'37) (Sub.cons rfl<|Sub.v<|Sub.v<|Sub.k2 rfl rfl<|Sub.v<|Sub.nil) ⟨st13.p7.p7.p7.p3.k4,⟨by omega,hZ,by rw [← hinv,hs];simp,trivial⟩⟩ (by first | (simp only [];omega) | omega)
  simp at g33
  rw [if_pos g33] at hs;refine nx7 ?_;refine EX.again (i+1,put,_,_,a_ho,n_ho,c_ho) (Sub.cons rfl<|Sub.v<|Sub.v<|Sub.k2 rfl rfl<|Sub.v<|Sub.nil) ⟨st11.p6.p6.p6.p6.k4,⟨by omega,hZ,by rw [← hinv,hs];simp,trivial⟩⟩ (by first | (simp only [];omega) | omega)
 simp at g13
 have hall:l.drop i=[]:=List.drop_eq_nil_of_le (by omega);rw [hall] at hinv;refine nx12 ?_;refine WC.cd (fun g40=>?_) fun g40=>?_
 ·
  simp at g40
  subst g40;refine nx2 ?_;refine WP .r (VA agg116 st5.b1 .r)<|?_;have st6:=st5;refine WL.go rfl (OX.call cf100 rfl rfl ((copyone_calls st6.e0 (As.gr st6.g2) hx4).mono ?_));rintro _ w3 ⟨f1,f2,f3,rfl,hst3⟩;refine ⟨_,rfl,?_⟩;have st7:=St.leave (l0:=[]) st6 hst3 (Zle.refl _ _);simp only [CA,NA] at st7;have hge:=St.fresh0 hst3;have hsz:=st6.size;have st8:=st7.frzS (by omega);have hZ2:=hZ.trans (Zle.frz (F:=fun x=>x∈oblk f1) hge) hsz;refine WL.go rfl (OX.bslice' (us:=x.row f1 f2 f3) bs29_1 rfl rfl rfl rfl fun b44 w4 nw44 hb44=>?_);have st9:=st8.newB nw44 hb44;refine WL.ap rfl rfl st9.p2 (SR.blk1 (A:=fun _=>True) (x:=x) (As.gb st9.g0) trivial rfl (Rec.one _ _ _ _) ⟨f1,f2,f3,rfl,(As.gr st9.g1),hx4⟩) fun a45 c'45 w5 hf45 hn45 st10=>?_;refine nx10 ?_;refine EX.ret1 rfl rfl<|?_;exact ⟨_,_,_,_,rfl,hZ2,by rw [← hinv];exact st10.k1⟩
 simp at g40
 subst g40;refine nx9 ?_;refine EX.ret1 rfl rfl<|?_;exact ⟨_,_,_,_,rfl,hZ,by rw [← hinv];simp only [putGo,List.append_nil,if_true];exact st5.k1⟩
theorem validR_calls {x:Rec} {a:Option Addr} {n c:Nat} {w:World} {Z:Nat→Prop} (hk:Rd RR.key 2 Z w a n c x.reads):Calls Tryz.prog 101 #[.agg (x.row a n c).toArray] w fun e w'=>e=.returned (.bool (validRec x))∧Chg [] w w':=by
 have hlen:=SR.len hk;have hle:=SR.le hk;refine enter Tryz.func101 rfl Tryz.ntmps101 rfl<|?_;have c0:Chg [] w w:=Chg.refl _ _;refine nx2 ?_;refine WL.go rfl (OX.box rfl rfl rfl fun b1 w1 nw1 hb1=>?_);have s1:=nw1.ext;have ge_hb1:=nw1.ge' c0;have c1:=c0.trans s1;refine nx6 ?_;refine WP .r (PV.fa fa116_2 rfl)<|WP .r (V1 one41 hb1.range .r)<|WP .r (PV.len' sl41 rfl)<|nx4 ?_;refine WC.loop (σ:=Nat) (kvs:=fun i=>[(1,.pointer (some ⟨b1,0,none⟩)),(6,.slice a n c),(7,.int .i64 (n:Int)),(8,.int .i64 (i:Int))]) (I:=fun i w'=>Chg [] w w'∧Blk w' b1 116 (x.row a n c)∧i≤n∧∀j y,j<i→x.reads[j]?=some y→validK y=true) (μ:=fun i=>n - i) 0 (Sub.k4 rfl rfl rfl rfl<|Sub.nil) ⟨c1,hb1,by omega,fun j y h=>by omega⟩ ?_;rintro i w2 ⟨c2,hb1,hi,hall⟩;refine nx6 ?_;refine WC.cd (fun g9=>?_) fun g9=>?_
 ·
  simp at g9
  have hi2:i<x.reads.length:=by omega
  refine nx5 ?_;obtain ⟨bx1,ox1,rx1,ha1,_,hrx,hr1,_⟩:=SR.at hk (getElem_some hi2);have hrx:=RR.flat_eq hrx;subst hrx;have hr1:=range_chg hr1 c2 (by simp);refine nx ?_;refine WP .r (PV.ixS sl41 ha1 rfl rfl (by omega))<|WP .r (VA agg35 hr1 .r)<|?_;refine WL.go rfl (OX.alloc zv35 rfl fun b4 w3 nw4 hb4=>?_);have s3:=nw4.ext;have ge_hb4:=nw4.ge' c2;have ne_hb1_hb4:b1≠b4:=nw4.ne hb1.lt;have ne_hb4_hb1:b4≠b1:=Ne.symm ne_hb1_hb4;have c3:=c2.trans s3;have hb1:=hb1.ext s3;refine WL.go rfl (OX.stW sz35 hb4 rfl rfl rfl rfl rfl fun w4 s4 _ hb4=>?_);have c4:=c3.own s4 ge_hb4;have hb1:=hb1.chg s4 (by simp [ne_hb1_hb4]);refine nx4 ?_;refine WP .r (VA agg35 hb4.range .r)<|?_;refine WL.go rfl (OX.call cf18 rfl rfl ((validK_calls (k:=x.reads[i])).mono ?_));rintro _ w5 ⟨rfl,s5⟩;refine ⟨_,rfl,?_⟩;have c5:=c4.trans s5;have hb1:=hb1.ext s5;have hb4:=hb4.ext s5;refine nx3 ?_;refine WC.cd (fun g14=>?_) fun g14=>?_
  ·
   simp at g14
   have hv:validRec x=false:=by unfold validRec;rw [Bool.and_eq_false_iff];left;rw [List.all_eq_false];exact ⟨_,List.getElem_mem hi2,by simp [g14]⟩
   refine nx11 ?_;refine EX.ret1 rfl rfl<|?_;exact ⟨by rw [hv],c5⟩
  simp at g14
  refine nx7 ?_;refine EX.again (i+1) (Sub.k2 rfl rfl<|Sub.cons rfl<|Sub.consI rfl (by simp)<|Sub.nil) ⟨c5,hb1,by omega,below_succ hi2 hall g14⟩ (by omega)
 simp at g9
 have hv:validRec x=recTail x:=by
  unfold validRec
  rw [show x.reads.all validK=true from List.all_eq_true.2 fun y hy=>by obtain ⟨j,hj,rfl⟩:=List.mem_iff_getElem.1 hy;exact hall j _ (by omega) (getElem_some hj)]
  rfl
 refine nx6 ?_;refine WC.cut1e (t:=2) (v:=.bool (recTail x)) (Chg [] w2) ?_<|?_
 ·
  refine nx ?_;refine WP .r (PV.fa fa116_0 rfl)<|WP .r (PV.ldM agg35 hb1.range rfl rfl)<|?_;refine WL.go rfl (OX.call cf18 rfl rfl ((validK_calls (k:=x.key)).mono ?_));rintro _ w3 ⟨rfl,s3⟩;refine ⟨_,rfl,?_⟩;have c3:=c2.trans s3;have hb1:=hb1.ext s3;refine nx ?_;refine WL.gsplit (t:=19) rfl (fun g19=>?_) (fun g19=>?_)
  ·
   refine WP .r (PV.fa fa116_0 rfl)<|WP .r (PV.ldM agg35 hb1.range rfl rfl)<|?_;refine WL.go rfl (OX.call cf25 rfl rfl ((input_calls (k:=x.key)).mono ?_));rintro _ w4 ⟨rfl,s4⟩;refine ⟨_,rfl,?_⟩;have c4:=c3.trans s4;have hb1:=hb1.ext s4;refine nx3 ?_;refine WL.gsplit (t:=25) rfl (fun g25=>?_) (fun g25=>?_)
   ·
    refine WP .r (PV.fa fa116_1 rfl)<|WP .r (V1 one9 hb1.range .r)<|WP .r (PV.lenS und9 rfl)<|nx3 ?_;refine WL.gsplit (t:=31) rfl (fun g31=>?_) (fun g31=>?_)
    ·
     refine WP .r (PV.fa fa116_2 rfl)<|WP .r (V1 one41 hb1.range .r)<|WP .r (PV.len' sl41 rfl)<|nx3 ?_;refine WL.gsplit (t:=37) rfl (fun g37=>?_) (fun g37=>?_)
     ·
      refine WP .r (PV.fa fa116_3 rfl)<|WP .r (V1 one3 hb1.range .r)<|nx3 ?_;refine WL.gsplit (t:=42) rfl (fun g42=>?_) (fun g42=>?_)
      ·
       refine WP .r (PV.fa fa116_3 rfl)<|WP .r (V1 one3 hb1.range .r)<|WP .r (PV.fa fa116_4 rfl)<|WP .r (V1 one3 hb1.range .r)<|nx3 ?_;refine WL.gsplit (t:=49) rfl (fun g49=>?_) (fun g49=>?_)
       ·
        refine WP .r (PV.fa fa116_4 rfl)<|WP .r (V1 one3 hb1.range .r)<|nx3 ?_;refine WL.gsplit (t:=54) rfl (fun g54=>?_) (fun g54=>?_)
        ·
         refine WP .r (PV.fa fa116_5 rfl)<|WP .r (V1 one3 hb1.range .r)<|nx3 ?_;refine WL.gsplit (t:=59) rfl (fun g59=>?_) (fun g59=>?_)
         ·
          refine WP .r (PV.fa fa116_5 rfl)<|WP .r (V1 one3 hb1.range .r)<|nx3 ?_;refine WL.gsplit (t:=64) rfl (fun g64=>?_) (fun g64=>?_)
          ·
           refine WP .r (PV.fa fa116_6 rfl)<|WP .r (V1 one4 hb1.range .r)<|nx2 ?_;refine WL.gsplit (t:=68) rfl (fun g68=>?_) (fun g68=>?_)
           ·
            refine nx7 ?_;exact EX.meet1e 69 rfl rfl rfl (by unfold recTail;simp only [g19,g25,g31,g37,g42,g49,g54,g59,g64,g68,← hlen];first | rfl | simp) (s3.trans s4)
           refine WP .r (PV.fa fa116_0 rfl)<|WP .r (PV.ldM agg35 hb1.range rfl rfl)<|?_;refine WL.go rfl (OX.call cf75 rfl rfl ((cyclic_calls (k:=x.key)).mono ?_));rintro _ w5 ⟨rfl,s5⟩;refine ⟨_,rfl,?_⟩;have c5:=c4.trans s5;have hb1:=hb1.ext s5;refine nx4 ?_;exact EX.meet1e 69 rfl rfl rfl (by unfold recTail;simp only [g19,g25,g31,g37,g42,g49,g54,g59,g64,g68,← hlen];first | rfl | simp) ((s3.trans s4).trans s5)
          refine nx11 ?_;exact EX.meet1e 68 rfl rfl rfl (by unfold recTail;simp only [g19,g25,g31,g37,g42,g49,g54,g59,g64,← hlen];first | rfl | simp) (s3.trans s4)
         refine nx12 ?_;refine nx4 ?_;exact EX.meet1e 67 rfl rfl rfl (by unfold recTail;simp only [g19,g25,g31,g37,g42,g49,g54,g59,← hlen];first | rfl | simp) (s3.trans s4)
        refine nx12 ?_;refine nx9 ?_;exact EX.meet1e 66 rfl rfl rfl (by unfold recTail;simp only [g19,g25,g31,g37,g42,g49,g54,← hlen];first | rfl | simp) (s3.trans s4)
       refine nx12 ?_;refine nx12 ?_;refine nx2 ?_;exact EX.meet1e 65 rfl rfl rfl (by unfold recTail;simp only [g19,g25,g31,g37,g42,g49,← hlen];first | rfl | simp) (s3.trans s4)
      refine nx12 ?_;refine nx12 ?_;refine nx9 ?_;exact EX.meet1e 64 rfl rfl rfl (by unfold recTail;simp only [g19,g25,g31,g37,g42,← hlen];first | rfl | simp) (s3.trans s4)
     refine nx12 ?_;refine nx12 ?_;refine nx12 ?_;refine nx2 ?_;exact EX.meet1e 63 rfl rfl rfl (by unfold recTail;simp only [g19,g25,g31,g37,← hlen];first | rfl | simp) (s3.trans s4)
    refine nx12 ?_;refine nx12 ?_;refine nx12 ?_;refine nx8 ?_;exact EX.meet1e 62 rfl rfl rfl (by unfold recTail;simp only [g19,g25,g31,← hlen];first | rfl | simp) (s3.trans s4)
   refine nx12 ?_;refine nx12 ?_;refine nx12 ?_;refine nx12 ?_;refine nx2 ?_;exact EX.meet1e 61 rfl rfl rfl (by unfold recTail;simp only [g19,g25,← hlen];first | rfl | simp) (s3.trans s4)
  refine nx12 ?_;refine nx12 ?_;refine nx12 ?_;refine nx12 ?_;refine nx8 ?_;exact EX.meet1e 60 rfl rfl rfl (by unfold recTail;simp only [g19,← hlen];first | rfl | simp) s3
 intro w3 s3;have c3:=c2.trans s3;have hb1:=hb1.ext s3;refine nx2 ?_;refine EX.ret1 rfl rfl<|?_;exact ⟨by rw [hv],c3⟩
theorem validList_calls {l:List Rec} {a:Option Addr} {n c:Nat} {w:World} {Z:Nat→Prop} (hl:Rd RR.rcd 8 Z w a n c l):Calls Tryz.prog 64 #[.slice a n c] w fun e w'=>∃b:Bool,e=.returned (.bool b)∧(b=true↔recsOk l)∧Chg [] w w':=by
 have hlen:=SR.len hl;have hle:=SR.le hl;refine enter Tryz.func64 rfl Tryz.ntmps64 rfl<|?_;have c0:Chg [] w w:=Chg.refl _ _;refine nx9 ?_;refine WP .r (PV.len' sl29 rfl)<|nx4 ?_;refine WC.loop (σ:=Nat) (kvs:=fun i=>[(0,.slice a n c),(5,.slice a n c),(6,.int .i64 (n:Int)),(7,.int .i64 (i:Int))]) (I:=fun i w'=>Chg [] w w'∧i≤n∧∀j y,j<i→l[j]?=some y→recOkAt l j y) (μ:=fun i=>n - i) 0 (Sub.k4 rfl rfl rfl rfl<|Sub.nil) ⟨c0,by omega,fun j y h=>by omega⟩ ?_;rintro i w1 ⟨c1,hi,hall⟩;refine nx6 ?_;refine WC.cd (fun g8=>?_) fun g8=>?_
 ·
  simp at g8
  have hi2:i<l.length:=by omega
  have hl1:=getElem!_pos l i hi2;obtain ⟨bx1,ox1,rx1,ha1,_,⟨q1,q2,q3,rfl,hkq,hk4⟩,hr1,_⟩:=SR.at hl (getElem_some hi2);refine nx5 ?_;have hr1:=range_chg hr1 c1 (by simp);refine nx2 ?_;refine WP .r (PV.ixS sl29 ha1 rfl rfl (by omega))<|WP .r (VA agg116 hr1 .r)<|?_;refine WL.go rfl (OX.alloc zv116 rfl fun b4 w2 nw4 hb4=>?_);have s2:=nw4.ext;have ge_hb4:=nw4.ge' c1;have c2:=c1.trans s2;refine nx ?_;refine WL.go rfl (OX.stW sz116 hb4 rfl rfl rfl rfl rfl fun w3 s3 _ hb4=>?_);have c3:=c2.own s3 ge_hb4;refine nx3 ?_;refine WC.cut1 (t:=30) (v:=.bool (ordBad l i)) (Chg [] w3) ?_<|?_
  ·
   refine WC.drawn (m:=15) (C:=Chg [] w3) (T:=fun _=>Chg []) (E:=lookE [(1,fun v _=>v=.bool (validRec l[i]))]) (lookE_st (⟨fun _ _ _ _ _ _ _ h=>h,trivial⟩)) mixed (by kernel_rfl) (Chg.drew _ _)<|?_;refine DP .r (fun _ hC=>PV.ldA agg116 (hb4.ext hC).range rfl rfl)<|?_;refine DW.e rfl rfl rfl rfl rfl (fun wx hC hF=>OX.call cf101 rfl rfl ((validR_calls (hkq.ext (c3.trans hC))).mono ?_))<|?_
   ·
    rintro _ wy ⟨rfl,hy⟩;exact ⟨_,rfl,hC.trans hy,hy,_,rfl,rfl⟩
   rintro _ wz _ rfl;refine nx2 ?_;refine DW.gsplit (t:=15) rfl (fun g15=>?_) (fun g15=>?_)
   ·
    refine nx11 ?_;refine DW.nil<|?_;rintro w4 s4 _;have c4:=c3.trans s4;have hb4:=hb4.ext s4;refine nx5 ?_;exact EX.meet1 20 rfl rfl rfl (by unfold ordBad;first | (simp only [hl1,hl2,g15];done) | (simp only [hl1,hl2,g15];rfl) | (simp only [hl1,g15];rfl) | (simp only [hl1];rw [Bool.not_eq_true'] at g15;simp [g15]) | (simp only [hl1];simp at g15 g18;simp [g15,g18])) s4
   refine nx3 ?_;refine DW.gsplit (t:=18) rfl (fun g18=>?_) (fun g18=>?_)
   ·
    have hi3:i - 1<l.length:=by omega
    have hl2:=getElem!_pos l (i - 1) hi3;have hpos:=of_decide_eq_true g18;obtain ⟨bx2,ox2,rx2,ha2,_,⟨p1,p2,p3,rfl,_,_⟩,hr2,_⟩:=SR.at hl (getElem_some hi3);have hr2:=range_chg hr2 c3 (by simp);refine nx3 ?_;refine DP .r (fun _ hC=>PV.ixZ sl29 (i - 1) ha2 rfl rfl (by omega) (by omega))<|DP .r (fun _ hC=>PV.fa fa116_0 rfl)<|DP .r (fun _ hC=>PV.ldM agg35 (range_chg hr2 hC (by simp)) rfl rfl)<|DP .r (fun _ hC=>PV.fa fa116_0 rfl)<|DP .r (fun _ hC=>PV.ldM agg35 (hb4.ext hC).range rfl rfl)<|DW.nil<|?_;rintro w4 s4 _;have c4:=c3.trans s4;have hb4:=hb4.ext s4;refine WL.go rfl (OX.call cf24 rfl rfl ((cmp_calls (k:=l[i - 1].key) (q:=l[i].key)).mono ?_));rintro _ w5 ⟨rfl,s5⟩;refine ⟨_,rfl,?_⟩;have c5:=c4.trans s5;have hb4:=hb4.ext s5;refine nx4 ?_;exact EX.meet1 21 rfl rfl rfl (by unfold ordBad;first | (simp only [hl1,hl2,g15,g18];done) | (simp only [hl1,hl2,g15,g18];rfl) | (simp only [hl1,g15,g18];rfl) | (simp only [hl1];rw [Bool.not_eq_true'] at g15;simp [g15]) | (simp only [hl1];simp at g15 g18;simp [g15,g18])) (s4.trans s5)
   refine nx8 ?_;refine DW.nil<|?_;rintro w4 s4 _;have c4:=c3.trans s4;have hb4:=hb4.ext s4;refine nx5 ?_;exact EX.meet1 21 rfl rfl rfl (by unfold ordBad;first | (simp only [hl1,hl2,g15,g18];done) | (simp only [hl1,hl2,g15,g18];rfl) | (simp only [hl1,g15,g18];rfl) | (simp only [hl1];rw [Bool.not_eq_true'] at g15;simp [g15]) | (simp only [hl1];simp at g15 g18;simp [g15,g18])) s4
  intro w4 s4;have c4:=c3.trans s4;have hb4:=hb4.ext s4;refine nx ?_;refine WC.cd (fun g30=>?_) fun g30=>?_
  ·
   skip
   refine nx11 ?_;refine EX.ret1 rfl rfl<|?_;exact ⟨false,rfl,⟨fun h=>(by cases h),fun h=>absurd ((ordBad_false hi2).2 (h.2 i _ (getElem_some hi2))) (by simp [g30])⟩,c4⟩
  refine nx7 ?_;refine EX.again (i+1) (Sub.k2 rfl rfl<|Sub.cons rfl<|Sub.consI rfl (by simp)<|Sub.nil) ⟨c4,by omega,below_succ hi2 hall ((ordBad_false hi2).1 g30)⟩ (by omega)
 ·
  simp at g8
  have hall:∀j y,l[j]?=some y→recOkAt l j y:=fun j x hx=>hall j x (by have:=(List.getElem?_eq_some_iff.1 hx).1;omega) hx;refine nx8 ?_;refine WP .r (PV.len' sl29 rfl)<|nx5 ?_;refine EX.ret1 rfl rfl<|?_;exact ⟨_,rfl,⟨fun h=>⟨by simp at h;omega,hall⟩,fun h=>by have:=h.1;simp;omega⟩,c1⟩
 -- UNUSED ANNOTATIONS G17.T
set_option maxHeartbeats 400000
theorem validList_calls' {l:List Rec} {a:Option Addr} {n c:Nat} {w:World} {Z:Nat→Prop} (hl:Rd RR.rcd 8 Z w a n c l):Calls Tryz.prog 64 #[.slice a n c] w fun e w'=>e=.returned (.bool (recsOkB l))∧Chg [] w w':=
 (validList_calls hl).mono fun _ _ ⟨b,h1,h2,h3⟩=>⟨by rw [h1,recsOkB_of h2],h3⟩
theorem copyB_calls {x:Bas} {a1 a2:Option Addr} {n1 e1 n2 e2:Nat} {w:World} {M Z:Nat→Prop} (hst:St w M Z w []) (hi:Rd RR.inp 4 Z w a1 n1 e1 x.inputs) (hr:Rd RR.rcd 8 Z w a2 n2 e2 x.recs) (h6:x.recs.length≤1000000) (h7:x.inputs.length≤1000000):Calls Tryz.prog 35 #[.agg (x.row a1 n1 e1 a2 n2 e2).toArray] w fun e w'=>∃a1' n1' e1' a2' n2' e2' Z',e=.returned (.agg (x.row a1' n1' e1' a2' n2' e2').toArray)∧Zle w.heap.size Z Z'∧St w M Z' w' [As.os RR.inp 86 4 a1' n1' e1' x.inputs,As.os RR.rcd 116 8 a2' n2' e2' x.recs]:=by
 have hil:=hi.len;have hrl:=hr.len;refine enter Tryz.func35 rfl Tryz.ntmps35 rfl<|?_;have st0:=hst;have st1:=st0.fact (As.mkro hi) (fun _ hx=>hx);have st2:=st1.fact (As.mkro hr) (fun _ hx=>hx);have st3:=st2.newN RR.inp 86 4;refine nx2 ?_;refine WL.go rfl (OX.box rfl rfl rfl fun b1 w1 nw1 hb1=>?_);have st4:=st3.newB nw1 hb1;refine WL.al st4 fun b2 w2 nw2 hb2 st5=>?_;refine nx5 ?_;refine WP .r (V1 one28 st5.b1 .r)<|?_;refine WL.ap rfl rfl st5.p2 ((As.gr st5.g4)) fun a5 c'5 w3 hf5 hn5 st6=>?_;refine nx ?_;refine WL.s1 st6.p2 fun w4 _ st7=>?_;refine nx5 ?_;refine WP .r (V1 one29 st7.b0 .r)<|?_;have st8:=st7;refine WL.go rfl (OX.call cf63 rfl rfl ((copyR_calls st8.e0 (As.gr st8.g3) h6).mono ?_));rintro _ w5 ⟨f1,f2,f3,Z1,rfl,hZ1,hst5⟩;refine ⟨_,rfl,?_⟩;have st9:=St.leave (l0:=[]) st8 hst5 hZ1;simp only [CA,NA] at st9;have hZ2:=hZ1.le st8.size;refine nx ?_;refine WL.s1 st9.p1 fun w6 _ st10=>?_;refine nx4 ?_;refine WP .r (VA agg31 st10.b0 .r)<|?_;refine WL.go rfl (OX.stW sz31 (As.gb st10.g3) rfl rfl rfl rfl rfl fun w7 ss0 _ hs0=>?_);have st11:=st10.p3.updB ss0 hs0;refine nx3 ?_;refine EX.retC agg31 rfl rfl st11.b0 rfl<|?_;exact ⟨_,_,_,_,_,_,_,rfl,hZ2,st11.p2.p3.k2⟩
theorem findI_calls {x:Bas} {a1 a2:Option Addr} {n1 e1 n2 e2:Nat} {w:World} {Z:Nat→Prop} (hi:Rd RR.inp 4 Z w a1 n1 e1 x.inputs) (hr:Rd RR.rcd 8 Z w a2 n2 e2 x.recs) {k:Key}:Calls Tryz.prog 65 #[.agg (x.row a1 n1 e1 a2 n2 e2).toArray,k.val] w fun e w'=>e=.returned (.agg (findI x.inputs k).cells.toArray)∧Chg [] w w':=by
 have hlen:=SR.len hi;have hle:=SR.le hi;refine enter Tryz.func65 rfl Tryz.ntmps65 rfl<|?_;have c0:Chg [] w w:=Chg.refl _ _;refine nx2 ?_;refine WL.go rfl (OX.box rfl rfl rfl fun b2 w1 nw2 hb2=>?_);have s1:=nw2.ext;have ge_hb2:=nw2.ge' c0;have c1:=c0.trans s1;refine WL.go rfl (OX.box rfl rfl rfl fun b3 w2 nw3 hb3=>?_);have s2:=nw3.ext;have ge_hb3:=nw3.ge' c1;have ne_hb2_hb3:b2≠b3:=nw3.ne hb2.lt;have ne_hb3_hb2:b3≠b2:=Ne.symm ne_hb2_hb3;have c2:=c1.trans s2;have hb2:=hb2.ext s2;refine WL.go rfl (OX.alloc zv86 rfl fun b4 w3 nw4 hb4=>?_);have s3:=nw4.ext;have ge_hb4:=nw4.ge' c2;have ne_hb2_hb4:b2≠b4:=nw4.ne hb2.lt;have ne_hb4_hb2:b4≠b2:=Ne.symm ne_hb2_hb4;have ne_hb3_hb4:b3≠b4:=nw4.ne hb3.lt;have ne_hb4_hb3:b4≠b3:=Ne.symm ne_hb3_hb4;have c3:=c2.trans s3;have hb2:=hb2.ext s3;have hb3:=hb3.ext s3;refine nx5 ?_;refine WP .r (PV.fa fa31_1 rfl)<|WP .r (V1 one28 hb2.range .r)<|WP .r (PV.len' sl28 rfl)<|nx4 ?_;refine WC.loop (σ:=Nat) (kvs:=fun i=>[(3,.pointer (some ⟨b3,0,none⟩)),(4,.pointer (some ⟨b4,0,none⟩)),(8,.slice a1 n1 e1),(9,.int .i64 (n1:Int)),(10,.int .i64 (i:Int))]) (I:=fun i w'=>Chg [] w w'∧Blk w' b3 35 [.int .i64 k.kind,.string k.text]∧Blk w' b4 86 [.int .i64 0,.string ⟨#[]⟩,.string ⟨#[]⟩,.int .i64 0]∧i≤n1∧(∀j y,j<i→x.inputs[j]?=some y→(y.key == k)=false)) (μ:=fun i=>n1 - i) 0 (Sub.k4 rfl rfl rfl rfl<|Sub.cons rfl<|Sub.nil) ⟨c3,hb3,hb4,by omega,fun j x h=>by omega⟩ ?_;rintro i w4 ⟨c4,hb3,hb4,hi1,hno⟩;refine nx6 ?_;refine WC.cd (fun g11=>?_) fun g11=>?_
 ·
  simp at g11
  have hi2:i<x.inputs.length:=by omega
  refine nx5 ?_;obtain ⟨bx1,ox1,rx1,ha1,_,hrx,hr1,_⟩:=SR.at hi (getElem_some hi2);have hrx:=RR.flat_eq hrx;subst hrx;have hr1:=range_chg hr1 c4 (by simp);refine nx ?_;refine WP .r (PV.ixS sl28 ha1 rfl rfl (by omega))<|WP .r (VA agg86 hr1 .r)<|?_;refine WL.go rfl (OX.alloc zv86 rfl fun b6 w5 nw6 hb6=>?_);have s5:=nw6.ext;have ge_hb6:=nw6.ge' c4;have ne_hb3_hb6:b3≠b6:=nw6.ne hb3.lt;have ne_hb6_hb3:b6≠b3:=Ne.symm ne_hb3_hb6;have ne_hb4_hb6:b4≠b6:=nw6.ne hb4.lt;have ne_hb6_hb4:b6≠b4:=Ne.symm ne_hb4_hb6;have c5:=c4.trans s5;have hb3:=hb3.ext s5;have hb4:=hb4.ext s5;refine WL.go rfl (OX.stW sz86 hb6 rfl rfl rfl rfl rfl fun w6 s6 _ hb6=>?_);have c6:=c5.own s6 ge_hb6;have hb3:=hb3.chg s6 (by simp [ne_hb3_hb6]);have hb4:=hb4.chg s6 (by simp [ne_hb4_hb6]);refine nx4 ?_;refine WP .r (PV.fa fa86_0 rfl)<|WP .r (PV.ldM agg35 hb6.range rfl rfl)<|WP .r (VA agg35 hb3.range .r)<|WP .r (PV.eqK keyt35 (p:=x.inputs[i].key) (q:=k) rfl rfl)<|nx2 ?_;refine WC.cd (fun g17=>?_) fun g17=>?_
  ·
   simp at g17
   have hf:findI x.inputs k=x.inputs[i]:=by unfold findI;rw [find_before hi2 hno (by simpa using g17)];rfl
   refine nx2 ?_;refine WP .r (VA agg86 hb6.range .r)<|?_;refine WL.go rfl (OX.stW sz86 hb4 rfl rfl rfl rfl rfl fun w7 s7 _ hb4=>?_);have c7:=c6.own s7 ge_hb4;have hb3:=hb3.chg s7 (by simp [ne_hb3_hb4]);have hb6:=hb6.chg s7 (by simp [ne_hb6_hb4]);refine nx8 ?_;refine EX.retC agg86 rfl rfl hb4.range rfl<|?_;exact ⟨by rw [hf],c7⟩
  simp at g17
  refine nx7 ?_;refine EX.again (i+1) (Sub.k4 rfl rfl rfl rfl<|Sub.consI rfl (by simp)<|Sub.nil) ⟨c6,hb3,hb4,by omega,below_succ hi2 hno (by simpa using g17)⟩ (by omega)
 simp at g11
 have hf:findI x.inputs k=⟨k,⟨#[]⟩,0⟩:=by unfold findI;rw [find_all (i:=i) (by omega) hno];rfl
 refine nx7 ?_;refine WP .r (VA agg35 hb3.range .r)<|WP .r (PV.build' (us:=(Inp.mk k ⟨#[]⟩ 0).cells) bt86 rfl rfl rfl)<|?_;refine WL.go rfl (OX.stW sz86 hb4 rfl rfl rfl rfl rfl fun w5 s5 _ hb4=>?_);have c5:=c4.own s5 ge_hb4;have hb3:=hb3.chg s5 (by simp [ne_hb3_hb4]);refine nx3 ?_;refine EX.retC agg86 rfl rfl hb4.range rfl<|?_;exact ⟨by rw [hf],c5⟩
theorem get_calls {x:Bas} {a1 a2:Option Addr} {n1 e1 n2 e2:Nat} {w:World} {Z:Nat→Prop} (hi:Rd RR.inp 4 Z w a1 n1 e1 x.inputs) (hr:Rd RR.rcd 8 Z w a2 n2 e2 x.recs) {k:Key}:Calls Tryz.prog 37 #[.agg (x.row a1 n1 e1 a2 n2 e2).toArray,k.val] w fun e w'=>e=.returned (.string (findI x.inputs k).value)∧Chg [] w w':=by
 refine enter Tryz.func37 rfl Tryz.ntmps37 rfl<|?_;have c0:Chg [] w w:=Chg.refl _ _;refine nx2 ?_;refine WL.go rfl (OX.box rfl rfl rfl fun b2 w1 nw2 hb2=>?_);have s1:=nw2.ext;have ge_hb2:=nw2.ge' c0;have c1:=c0.trans s1;refine WL.go rfl (OX.box rfl rfl rfl fun b3 w2 nw3 hb3=>?_);have s2:=nw3.ext;have ge_hb3:=nw3.ge' c1;have ne_hb2_hb3:b2≠b3:=nw3.ne hb2.lt;have ne_hb3_hb2:b3≠b2:=Ne.symm ne_hb2_hb3;have c2:=c1.trans s2;have hb2:=hb2.ext s2;refine nx5 ?_;refine WP .r (VA agg31 hb2.range .r)<|WP .r (VA agg35 hb3.range .r)<|?_;refine WL.go rfl (OX.call cf65 rfl rfl ((findI_calls (k:=k) (hi.ext c2) (hr.ext c2)).mono ?_));rintro _ w3 ⟨rfl,s3⟩;refine ⟨_,rfl,?_⟩;have c3:=c2.trans s3;have hb2:=hb2.ext s3;have hb3:=hb3.ext s3;refine WP .r (PV.fieldL (fs:=[_,_,_]) (f:=1) (off:=2) (T:=86) Tryz.underlying86 rfl rfl (show ∀w,(isAgg 9).run _ w=.ok false w from Tryz.isAgg9) rfl rfl)<|nx4 ?_;refine EX.ret1 rfl rfl<|?_;exact ⟨rfl,c3⟩
theorem since_calls {x:Bas} {a1 a2:Option Addr} {n1 e1 n2 e2:Nat} {w:World} {Z:Nat→Prop} (hi:Rd RR.inp 4 Z w a1 n1 e1 x.inputs) (hr:Rd RR.rcd 8 Z w a2 n2 e2 x.recs) {k:Key}:Calls Tryz.prog 181 #[.agg (x.row a1 n1 e1 a2 n2 e2).toArray,k.val] w fun e w'=>e=.returned (.int .i64 (findI x.inputs k).changed)∧Chg [] w w':=by
 refine enter Tryz.func181 rfl Tryz.ntmps181 rfl<|?_;have c0:Chg [] w w:=Chg.refl _ _;refine nx2 ?_;refine WL.go rfl (OX.box rfl rfl rfl fun b2 w1 nw2 hb2=>?_);have s1:=nw2.ext;have ge_hb2:=nw2.ge' c0;have c1:=c0.trans s1;refine WL.go rfl (OX.box rfl rfl rfl fun b3 w2 nw3 hb3=>?_);have s2:=nw3.ext;have ge_hb3:=nw3.ge' c1;have ne_hb2_hb3:b2≠b3:=nw3.ne hb2.lt;have ne_hb3_hb2:b3≠b2:=Ne.symm ne_hb2_hb3;have c2:=c1.trans s2;have hb2:=hb2.ext s2;refine nx5 ?_;refine WP .r (VA agg31 hb2.range .r)<|WP .r (VA agg35 hb3.range .r)<|?_;refine WL.go rfl (OX.call cf65 rfl rfl ((findI_calls (k:=k) (hi.ext c2) (hr.ext c2)).mono ?_));rintro _ w3 ⟨rfl,s3⟩;refine ⟨_,rfl,?_⟩;have c3:=c2.trans s3;have hb2:=hb2.ext s3;have hb3:=hb3.ext s3;refine WP .r (PV.fieldL (fs:=[_,_,_]) (f:=2) (off:=3) (T:=86) Tryz.underlying86 rfl rfl (show ∀w,(isAgg 3).run _ w=.ok false w from Tryz.isAgg3) rfl rfl)<|nx4 ?_;refine EX.ret1 rfl rfl<|?_;exact ⟨rfl,c3⟩
theorem validB_calls {x:Bas} {a1 a2:Option Addr} {n1 e1 n2 e2:Nat} {w:World} {Z:Nat→Prop} (hi:Rd RR.inp 4 Z w a1 n1 e1 x.inputs) (hr:Rd RR.rcd 8 Z w a2 n2 e2 x.recs):Calls Tryz.prog 36 #[.agg (x.row a1 n1 e1 a2 n2 e2).toArray] w fun e w'=>∃b:Bool,e=.returned (.bool b)∧(b=true↔basOk x)∧Chg [] w w':=by
 have hlen:=SR.len hi;have hle:=SR.le hi;have hlen2:=SR.len hr;have hle2:=SR.le hr;refine enter Tryz.func36 rfl Tryz.ntmps36 rfl<|?_;have c0:Chg [] w w:=Chg.refl _ _;refine nx2 ?_;refine WL.go rfl (OX.box rfl rfl rfl fun b1 w1 nw1 hb1=>?_);have s1:=nw1.ext;have ge_hb1:=nw1.ge' c0;have c1:=c0.trans s1;refine nx6 ?_;refine WP .r (PV.fa fa31_1 rfl)<|WP .r (V1 one28 hb1.range .r)<|WP .r (PV.len' sl28 rfl)<|nx4 ?_;refine WC.loop (σ:=Nat) (kvs:=fun i=>[(1,.pointer (some ⟨b1,0,none⟩)),(8,.slice a1 n1 e1),(9,.int .i64 (n1:Int)),(10,.int .i64 (i:Int))]) (I:=fun i w'=>Chg [] w w'∧Blk w' b1 31 (x.row a1 n1 e1 a2 n2 e2)∧i≤n1∧∀j y,j<i→x.inputs[j]?=some y→inpBad x.revision x.inputs j=false) (μ:=fun i=>n1 - i) 0 (Sub.k4 rfl rfl rfl rfl<|Sub.nil) ⟨c1,hb1,by omega,fun j y h=>by omega⟩ ?_;rintro i w2 ⟨c2,hb1,hin,hall⟩;refine nx6 ?_;refine WC.cd (fun g11=>?_) fun g11=>?_
 ·
  simp at g11
  have hi2:i<x.inputs.length:=by omega
  have hl1:=getElem!_pos x.inputs i hi2;obtain ⟨bx1,ox1,rx1,ha1,_,hrx,hr1,_⟩:=SR.at hi (getElem_some hi2);have hrx:=RR.flat_eq hrx;subst hrx;refine nx5 ?_;have hr1:=range_chg hr1 c2 (by simp);refine nx2 ?_;refine WP .r (PV.ixS sl28 ha1 rfl rfl (by omega))<|WP .r (VA agg86 hr1 .r)<|?_;refine WL.go rfl (OX.alloc zv86 rfl fun b4 w3 nw4 hb4=>?_);have s3:=nw4.ext;have ge_hb4:=nw4.ge' c2;have ne_hb1_hb4:b1≠b4:=nw4.ne hb1.lt;have ne_hb4_hb1:b4≠b1:=Ne.symm ne_hb1_hb4;have c3:=c2.trans s3;have hb1:=hb1.ext s3;refine nx ?_;refine WL.go rfl (OX.stW sz86 hb4 rfl rfl rfl rfl rfl fun w4 s4 _ hb4=>?_);have c4:=c3.own s4 ge_hb4;have hb1:=hb1.chg s4 (by simp [ne_hb1_hb4]);refine nx3 ?_;refine WC.cut1 (t:=59) (v:=.bool (inpBad x.revision x.inputs i)) (Chg [] w4) ?_<|?_
  ·
   refine WC.drawn (m:=43) (C:=Chg [] w4) (T:=fun _=>Chg []) (E:=lookE [(2,fun v _=>v=.bool (validK x.inputs[i].key)),(7,fun v _=>v=.bool (isInput x.inputs[i].key)),(23,fun v _=>v=.int .i64 (cmpK x.inputs[i - 1].key x.inputs[i].key))]) (lookE_st (⟨fun _ _ _ _ _ _ _ h=>h,⟨fun _ _ _ _ _ _ _ h=>h,⟨fun _ _ _ _ _ _ _ h=>h,trivial⟩⟩⟩)) mixed (by kernel_rfl) (Chg.drew _ _)<|?_;refine DP .r (fun _ hC=>PV.fa fa86_0 rfl)<|DP .r (fun _ hC=>PV.ldM agg35 (hb4.ext hC).range rfl rfl)<|?_;refine DW.e rfl rfl rfl rfl rfl (fun wx hC hF=>OX.call cf18 rfl rfl ((validK_calls (k:=x.inputs[i].key)).mono ?_))<|?_
   ·
    rintro _ wy ⟨rfl,hy⟩;exact ⟨_,rfl,hC.trans hy,hy,_,rfl,rfl⟩
   rintro _ wz _ rfl;refine nx2 ?_;refine DW.gsplit (t:=19) rfl (fun g19=>?_) (fun g19=>?_)
   ·
    refine nx12 ?_;refine nx12 ?_;refine nx12 ?_;refine nx2 ?_;refine DW.nil<|?_;rintro w5 s5 _;have c5:=c4.trans s5;have hb1:=hb1.ext s5;have hb4:=hb4.ext s5;refine nx3 ?_;exact EX.meet1 46 rfl rfl rfl (by unfold inpBad;first | (simp only [hl1,hl2,g19];done) | (simp only [hl1,hl2,g19];rfl) | (simp only [hl1,g19];rfl) | (simp only [hl1,g19];done)) s5
   refine DP .r (fun _ hC=>PV.fa fa86_0 rfl)<|DP .r (fun _ hC=>PV.ldM agg35 (hb4.ext hC).range rfl rfl)<|?_;refine DW.e rfl rfl rfl rfl rfl (fun wx hC hF=>OX.call cf25 rfl rfl ((input_calls (k:=x.inputs[i].key)).mono ?_))<|?_
   ·
    rintro _ wy ⟨rfl,hy⟩;exact ⟨_,rfl,hC.trans hy,hy,_,rfl,rfl⟩
   rintro _ wz _ rfl;refine nx3 ?_;refine DW.gsplit (t:=25) rfl (fun g25=>?_) (fun g25=>?_)
   ·
    refine nx12 ?_;refine nx12 ?_;refine nx8 ?_;refine DW.nil<|?_;rintro w5 s5 _;have c5:=c4.trans s5;have hb1:=hb1.ext s5;have hb4:=hb4.ext s5;refine nx3 ?_;exact EX.meet1 47 rfl rfl rfl (by unfold inpBad;first | (simp only [hl1,hl2,g19,g25];done) | (simp only [hl1,hl2,g19,g25];rfl) | (simp only [hl1,g19,g25];rfl) | (simp only [hl1,g19,g25];done)) s5
   refine nx3 ?_;refine DW.gsplit (t:=28) rfl (fun g28=>?_) (fun g28=>?_)
   ·
    have hi3:i - 1<x.inputs.length:=by omega
    have hl2:=getElem!_pos x.inputs (i - 1) hi3;have hpos:=of_decide_eq_true g28;obtain ⟨bx2,ox2,rx2,ha2,_,hrx2,hr2,_⟩:=SR.at hi (getElem_some hi3);have hrx2:=RR.flat_eq hrx2;subst hrx2;have hr2:=range_chg hr2 c4 (by simp);refine DP .r (fun _ hC=>PV.fa fa31_1 rfl)<|DP .r (fun _ hC=>PV.ld1 one28 (hb1.ext hC).range rfl rfl)<|nx2 ?_;refine DP .r (fun _ hC=>PV.ixZ sl28 (i - 1) ha2 rfl rfl (by omega) (by omega))<|DP .r (fun _ hC=>PV.fa fa86_0 rfl)<|DP .r (fun _ hC=>PV.ldM agg35 (range_chg hr2 hC (by simp)) rfl rfl)<|DP .r (fun _ hC=>PV.fa fa86_0 rfl)<|DP .r (fun _ hC=>PV.ldM agg35 (hb4.ext hC).range rfl rfl)<|?_;refine DW.e rfl rfl rfl rfl rfl (fun wx hC hF=>OX.call cf24 rfl rfl ((cmp_calls (k:=x.inputs[i - 1].key) (q:=x.inputs[i].key)).mono ?_))<|?_
    ·
     rintro _ wy ⟨rfl,hy⟩;exact ⟨_,rfl,hC.trans hy,hy,_,rfl,rfl⟩
    rintro _ wz _ rfl;refine nx4 ?_;refine DW.gsplit (t:=42) rfl (fun g42=>?_) (fun g42=>?_)
    ·
     refine nx12 ?_;refine nx3 ?_;refine DW.nil<|?_;rintro w5 s5 _;have c5:=c4.trans s5;have hb1:=hb1.ext s5;have hb4:=hb4.ext s5;refine nx3 ?_;exact EX.meet1 49 rfl rfl rfl (by unfold inpBad;first | (simp only [hl1,hl2,g19,g25,g28,g42];done) | (simp only [hl1,hl2,g19,g25,g28,g42];rfl) | (simp only [hl1,g19,g25,g28,g42];rfl) | (simp only [hl1,g19,g25,g28,g42];done)) s5
    refine DP .r (fun _ hC=>PV.fa fa86_1 rfl)<|DP .r (fun _ hC=>PV.ld1 one9 (hb4.ext hC).range rfl rfl)<|DP .r (fun _ hC=>PV.lenS und9 rfl)<|nx3 ?_;refine DW.gsplit (t:=48) rfl (fun g48=>?_) (fun g48=>?_)
    ·
     refine nx9 ?_;refine DW.nil<|?_;rintro w5 s5 _;have c5:=c4.trans s5;have hb1:=hb1.ext s5;have hb4:=hb4.ext s5;refine nx3 ?_;exact EX.meet1 50 rfl rfl rfl (by unfold inpBad;first | (simp only [hl1,hl2,g19,g25,g28,g42,g48];done) | (simp only [hl1,hl2,g19,g25,g28,g42,g48];rfl) | (simp only [hl1,g19,g25,g28,g42,g48];rfl) | (simp only [hl1,g19,g25,g28,g42,g48];done)) s5
    refine DP .r (fun _ hC=>PV.fa fa86_2 rfl)<|DP .r (fun _ hC=>PV.ld1 one3 (hb4.ext hC).range rfl rfl)<|nx3 ?_;refine DW.gsplit (t:=53) rfl (fun g53=>?_) (fun g53=>?_)
    ·
     refine nx4 ?_;refine DW.nil<|?_;rintro w5 s5 _;have c5:=c4.trans s5;have hb1:=hb1.ext s5;have hb4:=hb4.ext s5;refine nx3 ?_;exact EX.meet1 51 rfl rfl rfl (by unfold inpBad;first | (simp only [hl1,hl2,g19,g25,g28,g42,g48,g53];done) | (simp only [hl1,hl2,g19,g25,g28,g42,g48,g53];rfl) | (simp only [hl1,g19,g25,g28,g42,g48,g53];rfl) | (simp only [hl1,g19,g25,g28,g42,g48,g53];done)) s5
    refine DP .r (fun _ hC=>PV.fa fa86_2 rfl)<|DP .r (fun _ hC=>PV.ld1 one3 (hb4.ext hC).range rfl rfl)<|DP .r (fun _ hC=>PV.fa fa31_0 rfl)<|DP .r (fun _ hC=>PV.ld1 one3 (hb1.ext hC).range rfl rfl)<|DW.nil<|?_;rintro w5 s5 _;have c5:=c4.trans s5;have hb1:=hb1.ext s5;have hb4:=hb4.ext s5;refine nx3 ?_;exact EX.meet1 51 rfl rfl rfl (by unfold inpBad;first | (simp only [hl1,hl2,g19,g25,g28,g42,g48,g53];done) | (simp only [hl1,hl2,g19,g25,g28,g42,g48,g53];rfl) | (simp only [hl1,g19,g25,g28,g42,g48,g53];rfl) | (simp only [hl1,g19,g25,g28,g42,g48,g53];done)) s5
   refine nx12 ?_;refine nx2 ?_;refine DP .r (fun _ hC=>PV.fa fa86_1 rfl)<|DP .r (fun _ hC=>PV.ld1 one9 (hb4.ext hC).range rfl rfl)<|DP .r (fun _ hC=>PV.lenS und9 rfl)<|nx3 ?_;refine DW.gsplit (t:=48) rfl (fun g48=>?_) (fun g48=>?_)
   ·
    refine nx9 ?_;refine DW.nil<|?_;rintro w5 s5 _;have c5:=c4.trans s5;have hb1:=hb1.ext s5;have hb4:=hb4.ext s5;refine nx3 ?_;exact EX.meet1 49 rfl rfl rfl (by unfold inpBad;first | (simp only [hl1,hl2,g19,g25,g28,g48];done) | (simp only [hl1,hl2,g19,g25,g28,g48];rfl) | (simp only [hl1,g19,g25,g28,g48];rfl) | (simp only [hl1,g19,g25,g28,g48];done)) s5
   refine DP .r (fun _ hC=>PV.fa fa86_2 rfl)<|DP .r (fun _ hC=>PV.ld1 one3 (hb4.ext hC).range rfl rfl)<|nx3 ?_;refine DW.gsplit (t:=53) rfl (fun g53=>?_) (fun g53=>?_)
   ·
    refine nx4 ?_;refine DW.nil<|?_;rintro w5 s5 _;have c5:=c4.trans s5;have hb1:=hb1.ext s5;have hb4:=hb4.ext s5;refine nx3 ?_;exact EX.meet1 50 rfl rfl rfl (by unfold inpBad;first | (simp only [hl1,hl2,g19,g25,g28,g48,g53];done) | (simp only [hl1,hl2,g19,g25,g28,g48,g53];rfl) | (simp only [hl1,g19,g25,g28,g48,g53];rfl) | (simp only [hl1,g19,g25,g28,g48,g53];done)) s5
   refine DP .r (fun _ hC=>PV.fa fa86_2 rfl)<|DP .r (fun _ hC=>PV.ld1 one3 (hb4.ext hC).range rfl rfl)<|DP .r (fun _ hC=>PV.fa fa31_0 rfl)<|DP .r (fun _ hC=>PV.ld1 one3 (hb1.ext hC).range rfl rfl)<|DW.nil<|?_;rintro w5 s5 _;have c5:=c4.trans s5;have hb1:=hb1.ext s5;have hb4:=hb4.ext s5;refine nx3 ?_;exact EX.meet1 50 rfl rfl rfl (by unfold inpBad;first | (simp only [hl1,hl2,g19,g25,g28,g48,g53];done) | (simp only [hl1,hl2,g19,g25,g28,g48,g53];rfl) | (simp only [hl1,g19,g25,g28,g48,g53];rfl) | (simp only [hl1,g19,g25,g28,g48,g53];done)) s5
  intro w5 s5;have c5:=c4.trans s5;have hb1:=hb1.ext s5;have hb4:=hb4.ext s5;refine nx ?_;refine WC.cd (fun g59=>?_) fun g59=>?_
  ·
   skip
   refine nx11 ?_;refine EX.ret1 rfl rfl<|?_;exact ⟨false,rfl,⟨fun h=>(by cases h),fun h=>absurd (h.1 i _ (getElem_some hi2)) (by simp [g59])⟩,c5⟩
  refine nx7 ?_;refine EX.again (i+1) (Sub.k2 rfl rfl<|Sub.cons rfl<|Sub.consI rfl (by simp)<|Sub.nil) ⟨c5,hb1,by omega,below_succ (P:=fun j _=>inpBad x.revision x.inputs j=false) hi2 hall g59⟩ (by omega)
 simp at g11
 have hall:inpsOk x.revision x.inputs:=fun j y hx=>hall j y (by have:=(List.getElem?_eq_some_iff.1 hx).1;omega) hx;refine nx8 ?_;refine WP .r (PV.fa fa31_2 rfl)<|WP .r (V1 one29 hb1.range .r)<|WP .r (PV.len' sl29 rfl)<|nx4 ?_;refine WC.loop (σ:=Nat) (kvs:=fun i=>[(1,.pointer (some ⟨b1,0,none⟩)),(62,.slice a2 n2 e2),(63,.int .i64 (n2:Int)),(64,.int .i64 (i:Int))]) (I:=fun i w'=>Chg [] w w'∧Blk w' b1 31 (x.row a1 n1 e1 a2 n2 e2)∧i≤n2∧∀(j:Nat) (y:Rec),j<i→x.recs[j]?=some y→y.verified≤x.revision) (μ:=fun i=>n2 - i) 0 (Sub.k4 rfl rfl rfl rfl<|Sub.nil) ⟨c2,hb1,by omega,fun j y h=>by omega⟩ ?_;rintro i2 w3 ⟨c3,hb1,hin2,hall2⟩;refine nx6 ?_;refine WC.cd (fun g65=>?_) fun g65=>?_
 ·
  simp at g65
  have hi2:i2<x.recs.length:=by omega
  obtain ⟨bx1,ox1,rx1,ha1,_,⟨q1,q2,q3,rfl,hkq,hk4⟩,hr1,_⟩:=SR.at hr (getElem_some hi2);refine nx5 ?_;have hr1:=range_chg hr1 c3 (by simp);refine nx ?_;refine WP .r (PV.ixS sl29 ha1 rfl rfl (by omega))<|WP .r (VA agg116 hr1 .r)<|?_;refine WL.go rfl (OX.alloc zv116 rfl fun b6 w4 nw6 hb6=>?_);have s4:=nw6.ext;have ge_hb6:=nw6.ge' c3;have ne_hb1_hb6:b1≠b6:=nw6.ne hb1.lt;have ne_hb6_hb1:b6≠b1:=Ne.symm ne_hb1_hb6;have c4:=c3.trans s4;have hb1:=hb1.ext s4;refine WL.go rfl (OX.stW sz116 hb6 rfl rfl rfl rfl rfl fun w5 s5 _ hb6=>?_);have c5:=c4.own s5 ge_hb6;have hb1:=hb1.chg s5 (by simp [ne_hb1_hb6]);refine nx4 ?_;refine WP .r (PV.fa fa116_4 rfl)<|WP .r (V1 one3 hb6.range .r)<|WP .r (PV.fa fa31_0 rfl)<|WP .r (V1 one3 hb1.range .r)<|nx3 ?_;refine WC.cd (fun g72=>?_) fun g72=>?_
  ·
   simp at g72
   refine nx11 ?_;refine EX.ret1 rfl rfl<|?_;exact ⟨false,rfl,⟨fun h=>(by cases h),fun h=>absurd (h.2.1 i2 _ (getElem_some hi2)) (by omega)⟩,c5⟩
  simp at g72
  refine nx7 ?_;refine EX.again (i2+1) (Sub.k2 rfl rfl<|Sub.cons rfl<|Sub.consI rfl (by simp)<|Sub.nil) ⟨c5,hb1,by omega,below_succ (P:=fun _ (y:Rec)=>y.verified≤x.revision) hi2 hall2 g72⟩ (by omega)
 simp at g65
 have hall2:∀(j:Nat) (y:Rec),x.recs[j]?=some y→y.verified≤x.revision:=fun j y hx=>hall2 j y (by have:=(List.getElem?_eq_some_iff.1 hx).1;omega) hx;refine nx6 ?_;refine WC.cut1e (t:=2) (v:=.bool (basTail x)) (Chg [] w3) ?_<|?_
 ·
  refine nx ?_;refine WP .r (PV.fa fa31_0 rfl)<|WP .r (V1 one3 hb1.range .r)<|nx2 ?_;refine WL.gsplit (t:=77) rfl (fun g77=>?_) (fun g77=>?_)
  ·
   refine WP .r (PV.fa fa31_0 rfl)<|WP .r (V1 one3 hb1.range .r)<|nx3 ?_;refine WL.gsplit (t:=82) rfl (fun g82=>?_) (fun g82=>?_)
   ·
    refine WP .r (PV.fa fa31_1 rfl)<|WP .r (V1 one28 hb1.range .r)<|WP .r (PV.len' sl28 rfl)<|nx3 ?_;refine WL.gsplit (t:=88) rfl (fun g88=>?_) (fun g88=>?_)
    ·
     refine WP .r (PV.fa fa31_2 rfl)<|WP .r (V1 one29 hb1.range .r)<|?_;refine WL.go rfl (OX.call cf64 rfl rfl ((validList_calls' (hr.ext c3)).mono ?_));rintro _ w4 ⟨rfl,s4⟩;refine ⟨_,rfl,?_⟩;have c4:=c3.trans s4;have hb1:=hb1.ext s4;refine nx3 ?_;exact EX.meet1e 23 rfl rfl rfl (by unfold basTail;simp only [g77,g82,g88,← hlen];first | rfl | simp) s4
    refine nx6 ?_;exact EX.meet1e 23 rfl rfl rfl (by unfold basTail;simp only [g77,g82,g88,← hlen];first | rfl | simp) (Chg.refl _ _)
   refine nx12 ?_;exact EX.meet1e 22 rfl rfl rfl (by unfold basTail;simp only [g77,g82,← hlen];first | rfl | simp) (Chg.refl _ _)
  refine nx12 ?_;refine nx5 ?_;exact EX.meet1e 21 rfl rfl rfl (by unfold basTail;simp only [g77,← hlen];first | rfl | simp) (Chg.refl _ _)
 intro w4 s4;have c4:=c3.trans s4;have hb1:=hb1.ext s4;refine nx2 ?_;refine EX.ret1 rfl rfl<|?_;exact ⟨_,rfl,⟨fun h=>by have:=(basTail_iff x).1 h;exact ⟨hall,hall2,this⟩,fun h=>(basTail_iff x).2 h.2.2⟩,c4⟩
end Go.Rc

