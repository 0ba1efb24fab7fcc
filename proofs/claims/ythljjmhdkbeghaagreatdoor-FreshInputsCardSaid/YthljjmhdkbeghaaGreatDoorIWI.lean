/- Walks over the program, part WI. Conditions: as each theorem says. -/
import Derived.Test.YthljjmhdkbeghaaGreatDoorIFacts
import Derived.Test.YthljjmhdkbeghaaGreatDoorIWH
import Derived.Test.YthljjmhdkbeghaaGreatDoorIBf
set_option linter.unusedVariables false
set_option linter.unusedSimpArgs false
set_option linter.unusedSectionVars false
namespace Go.Rc
open Go Go.Proofs
set_option maxHeartbeats 400000
theorem newS_calls {x:Bas} {ar a1 a2:Option Addr} {r cr n1 c1 n2 c2:Nat} {w:World} {M Z:Nat→Prop} (hst:St w M Z w []):Calls Tryz.prog 73 #[.slice ar r cr,.agg (x.row a1 n1 c1 a2 n2 c2).toArray] w fun e w'=>∃s m q,e=.returned (.pointer (some ⟨s,0,none⟩))∧St w M Z w' [As.blk s 157 (SD.cells ⟨ar,a1,a2,r,cr,n1,c1,n2,c2,m,q,s⟩ x),As.map Key.val m [],As.map Key.val q []]:=by
 refine enter Tryz.func73 rfl Tryz.ntmps73 rfl<|?_;have st0:=hst;refine nx2 ?_;refine WL.go rfl (OX.box rfl rfl rfl fun b3 w1 nw3 hb3=>?_);have st1:=st0.newB nw3 hb3;refine nx6 ?_;refine WP .r (VA agg31 st1.b0 .r)<|?_;refine WL.mm Key.val st1 fun b7 w2 nw7 hm7 st2=>?_;refine WL.mm Key.val st2 fun b8 w3 nw8 hm8 st3=>?_;refine WP .r (PV.build' (us:=(SD.cells ⟨ar,a1,a2,r,cr,n1,c1,n2,c2,b7,b8,0⟩ x)) bt157 rfl rfl rfl)<|?_;refine WL.go rfl (OX.box rfl rfl rfl fun b10 w4 nw10 hb10=>?_);have st4:=st3.newB nw10 hb10;refine nx4 ?_;refine EX.ret1 rfl rfl<|?_;exact ⟨_,_,_,rfl,st4.p3.drop.p2.p1⟩
def ValC (rules:List Rule) (x:Bas) (D:SD) (k:Key):Prop:=∀(w:World) (M Z:Nat→Prop) (ml:List (Key × Value)),St w M Z w [As.blk D.s 157 (D.cells x),As.map Key.val D.m ml]→(D.F Tryz.prog rules x).p Z w→MemoOk rules x.inputs ml→
 Calls Tryz.prog 179 #[.pointer (some ⟨D.s,0,none⟩),k.val] w fun e w'=>∃ml',e=.returned (.string (valOf rules x.inputs k))∧MemoOk rules x.inputs ml'∧MLe ml ml'∧St w M Z w' [As.blk D.s 157 (D.cells x),As.map Key.val D.m ml']
def SolC (rules:List Rule) (x:Bas) (D:SD) (k:Key):Prop:=∀(w:World) (M Z:Nat→Prop) (ml:List (Key × Value)),St w M Z w [As.blk D.s 157 (D.cells x),As.map Key.val D.m ml]→(D.F Tryz.prog rules x).p Z w→MemoOk rules x.inputs ml→
 Calls Tryz.prog 205 #[.pointer (some ⟨D.s,0,none⟩),k.val] w fun e w'=>∃ml',e=.returned (.tuple #[])∧MemoOk rules x.inputs ml'∧MLe ml ml'∧mget ml' k=some (.string (valOf rules x.inputs k))∧St w M Z w' [As.blk D.s 157 (D.cells x),As.map Key.val D.m ml']
theorem valueIn_calls {rules:List Rule} {x:Bas} {D:SD} {w:World} {M Z:Nat→Prop} {ml:List (Key × Value)} {k:Key} (hst:St w M Z w [As.blk D.s 157 (D.cells x),As.map Key.val D.m ml]) (hf:(D.F Tryz.prog rules x).p Z w) (hm:MemoOk rules x.inputs ml) (hk:isInput k=true):Calls Tryz.prog 179 #[.pointer (some ⟨D.s,0,none⟩),k.val] w fun e w'=>∃ml',e=.returned (.string (valOf rules x.inputs k))∧MemoOk rules x.inputs ml'∧MLe ml ml'∧St w M Z w' [As.blk D.s 157 (D.cells x),As.map Key.val D.m ml']:=by
 refine enter Tryz.func179 rfl Tryz.ntmps179 rfl<|?_;have st0:=hst;have st1:=st0.fact (B:=As.fz (D.F Tryz.prog rules x)) hf (fun _ hx=>hx);refine nx2 ?_;refine WL.go rfl (OX.box rfl rfl rfl fun b3 w1 nw3 hb3=>?_);have st2:=st1.newB nw3 hb3;refine nx6 ?_;refine WP .r (VA agg35 st2.b0 .r)<|?_;refine WL.c0 (input_calls (k:=k)) st2 fun w2 s2 st3=>?_;refine nx2 ?_;refine WC.cd (fun g10=>?_) fun g10=>?_
 ·
  refine nx ?_;have hN2:=st3.fplt;refine WC.drawnS (m:=5) (E:=lookE []) st3 (lookE_st (trivial)) mixed (by kernel_rfl)<|nx3 ?_;refine DP .r (fun _ hC=>PV.ldM agg31 (Blk.range (As.gb hC.2.g2)) rfl rfl)<|DP .r (fun _ hC=>VA agg35 (Blk.range (As.gb hC.2.g0)) .r)<|DW.nil<|?_;rintro w3 ⟨hsz2,st4⟩ _;refine WL.c0 (get_calls (k:=k) (SD.hi (As.gf st4.g1)) (SD.hr (As.gf st4.g1))) st4 fun w4 s4 st5=>?_;refine nx5 ?_;refine EX.ret1 rfl rfl<|?_;exact ⟨ml,by unfold valOf cellOf;rw [if_pos hk],hm,MLe.refl _,st5.drop.drop⟩
 rw [hk] at g10;cases g10
theorem valueR_calls {rules:List Rule} {x:Bas} {D:SD} {w:World} {M Z:Nat→Prop} {ml:List (Key × Value)} {i:Nat} (hst:St w M Z w [As.blk D.s 157 (D.cells x),As.map Key.val D.m ml]) (hf:(D.F Tryz.prog rules x).p Z w) (hm:MemoOk rules x.inputs ml) (hR:rulesOk rules) (hi:i<rules.length) (hsol:isCyclic (ofK rules (i:Int))=true→SolC rules x D (ofK rules (i:Int))) (ih:∀a,MayAsk rules i a→isCyclic (ofK rules (i:Int))=false→ValC rules x D a):Calls Tryz.prog 179 #[.pointer (some ⟨D.s,0,none⟩),(ofK rules (i:Int)).val] w fun e w'=>∃ml',e=.returned (.string (valOf rules x.inputs (ofK rules (i:Int))))∧MemoOk rules x.inputs ml'∧MLe ml ml'∧St w M Z w' [As.blk D.s 157 (D.cells x),As.map Key.val D.m ml']:=by
 have h24:=hR.len
 have h99:i≤99:=by omega
 obtain ⟨k,hk⟩:∃k,ofK rules (i:Int)=k:=⟨_,rfl⟩;have hin:=isInput_ofK hi h99;have ha6:=asksN_le hR hi;rw [hk] at hin hsol ih ⊢;refine enter Tryz.func179 rfl Tryz.ntmps179 rfl<|?_;have st0:=hst;have st1:=st0.fact (B:=As.fz (D.F Tryz.prog rules x)) hf (fun _ hx=>hx);refine nx2 ?_;refine WL.go rfl (OX.box rfl rfl rfl fun b3 w1 nw3 hb3=>?_);have st2:=st1.newB nw3 hb3;refine nx6 ?_;refine WP .r (VA agg35 st2.b0 .r)<|?_;refine WL.c0 (input_calls (k:=k)) st2 fun w2 s2 st3=>?_;refine nx2 ?_;refine WC.cd (fun g10=>?_) fun g10=>?_
 ·
  rw [hin] at g10;cases g10
 refine nx4 ?_;have hN3:=st3.fplt;refine WC.drawnS (m:=10) (E:=lookE []) st3 (lookE_st (trivial)) mixed (by kernel_rfl)<|nx3 ?_;refine DP .r (fun _ hC=>V1 one106 (Blk.range (As.gb hC.2.g2)) .r)<|DP .r (fun _ hC=>VA agg35 (Blk.range (As.gb hC.2.g0)) .r)<|DP .r (fun _ hC=>PV.lookOk kk35 und106 zvv9 (As.gm hC.2.g3) rfl rfl)<|nx4 ?_;refine DW.nil<|?_;rintro w3 ⟨hsz3,st4⟩ _;refine nx8 ?_;refine WC.cd (fun g26=>?_) fun g26=>?_
 ·
  obtain ⟨vv,hvv⟩:=Option.isSome_iff_exists.1 g26;have hvm:=hm k vv hvv;refine nx8 ?_;refine EX.ret1 rfl rfl<|?_;exact ⟨ml,by rw [hvv,hvm];rfl,hm,MLe.refl _,st4.drop.drop⟩
 refine nx5 ?_;refine WP .r (VA agg35 st4.b0 .r)<|?_;refine WL.c0 (cyclic_calls (k:=k)) st4 fun w4 s4 st5=>?_;refine nx2 ?_;refine WC.cd (fun g29=>?_) fun g29=>?_
 ·
  refine nx3 ?_;refine WP .r (VA agg35 st5.b0 .r)<|?_;have st6:=st5.p3.p3;refine WL.go rfl (OX.call cf205 rfl rfl ((hsol g29 _ _ _ _ st6.e2 (As.gf st6.g3) hm).mono ?_));rintro _ w5 ⟨ml2,rfl,hm2,hle2,hget,hst5⟩;refine ⟨_,rfl,?_⟩;have st7:=St.leave (l0:=[_,_]) st6 hst5 (Zle.refl _ _);simp only [CA,NA] at st7;refine nx3 ?_;have hN8:=st7.fplt;refine WC.drawnS (m:=5) (E:=lookE []) st7 (lookE_st (trivial)) mixed (by kernel_rfl)<|nx3 ?_;refine DP .r (fun _ hC=>V1 one106 (Blk.range (As.gb hC.2.g0)) .r)<|DP .r (fun _ hC=>VA agg35 (Blk.range (As.gb hC.2.g2)) .r)<|DW.nil<|?_;rintro w6 ⟨hsz8,st8⟩ _;refine WP .r (PV.look kk35 und106 zvv9 (As.gm st8.g1) rfl rfl)<|nx5 ?_;refine EX.ret1 rfl rfl<|?_;exact ⟨ml2,by rw [hget];rfl,hm2,hle2,st8.p2.drop.p2.drop⟩
 have st6:=st5.newN RR.str 9 1;refine nx8 ?_;refine WC.loopS1 (σ:=Nat × (List (Key × Value)) × (List ByteArray) × (Option Addr) × Nat × Nat) (kvs:=fun (n,ml1,acc,a_ans,n_ans,c_ans)=>[(0,.pointer (some ⟨D.s,0,none⟩)),(3,.pointer (some ⟨b3,0,none⟩)),(7,.slice a_ans n_ans c_ans)]) (F:=fun (n,ml1,acc,a_ans,n_ans,c_ans)=>[As.os RR.str 9 1 a_ans n_ans c_ans (acc),As.map Key.val D.m ml1]) (I:=fun (n,ml1,acc,a_ans,n_ans,c_ans)=>(n≤asksN rules i)∧(MemoOk rules x.inputs ml1)∧(MLe ml ml1)∧(acc=(runA (turnV rules k) (valOf rules x.inputs) n).2)∧True) (μ:=fun (n,ml1,acc,a_ans,n_ans,c_ans)=>asksN rules i - n) (0,ml,[],none,0,0) (st6.p4.p1) (Sub.k2 rfl rfl<|Sub.v<|Sub.nil) (⟨by omega,hm,MLe.refl _,rfl,trivial⟩)<|?_;rintro ⟨n,ml1,acc,a_ans,n_ans,c_ans⟩ w5 st7 ⟨hn,hm1,hle1,hacc,_⟩;simp only [CA,NA] at st7 hn hm1 hle1 hacc ⊢;have hnl:=((As.gs st7.g0)).len
 have hal:acc.length=n:=by rw [hacc];exact (runA_len _ _ n).2
 obtain ⟨t,ht0⟩:∃t,turn28 rules k acc=t:=⟨_,rfl⟩
 have ht1:turnV rules k acc=t:=by rw [← ht0,← hk,turn28_ofK hi h99]
 refine nx2 ?_;have hN10:=st7.fplt;have hzN10:=st7.zlt;have h0N10:=st7.size;refine WC.drawnS (m:=8) (E:=lookE [(6,fun v _=>v=t.val),(7,PB w5.heap.size 65 [.bool false,.string ⟨#[]⟩,.int .i64 0,.string ⟨#[]⟩])]) st7 (lookE_st (⟨fun _ _ _ _ _ _ _ h=>h,⟨fun _ _ _ _ _ _ c h=>PB.st hN10 c h,trivial⟩⟩)) mixed (by kernel_rfl)<|nx3 ?_;refine DP .r (fun _ hC=>V1 one27 (Blk.range (As.gb hC.2.g4)) .r)<|DP .r (fun _ hC=>VA agg35 (Blk.range (As.gb hC.2.g2)) .r)<|nx ?_;refine DW.c1 (fun wx hC hF=>turn28_calls (k:=k) (SD.ht (As.gf hC.2.g3)) (SD.hu (As.gf hC.2.g3)) (Ow.rd (As.gs hC.2.g0) (by omega)) hR.hb (hk ▸ notLang_ofK hi h99)) (by rw [ht0])<|?_;refine DW.e rfl rfl rfl rfl rfl (fun wx hC hF=>OX.alloc zv65 rfl fun b wy nw hb=>⟨⟨Nat.le_trans hC.1 nw.ext.size,hC.2.step nw.ext⟩,nw.ext.p0,_,rfl,_,rfl,Nat.le_trans hC.1 nw.ge,hb⟩)<|?_;rintro _ wz _ ⟨b8,rfl,_,_⟩;refine DW.nil<|?_;rintro w6 ⟨hsz10,st8⟩ ⟨hF7,⟨_,_⟩⟩;have st9:=st8.addB hF7 hN10 hzN10 h0N10;refine WL.go rfl (OX.stW sz65 (As.gb st9.g0) rfl rfl rfl rfl rfl fun w7 ss0 _ hs0=>?_);have st10:=st9.updB ss0 hs0;refine nx6 ?_;refine WP .r (V1 one4 st10.b0 .r)<|nx2 ?_;refine WC.cd (fun g47=>?_) fun g47=>?_
 ·
  have hn2:n=asksN rules i:=by
   rcases Nat.lt_or_ge n (asksN rules i) with h | h
   ·
    obtain ⟨a,h1,_⟩:=turn_ask hR hi (answers:=acc) (by omega);rw [hk,ht1] at h1;rw [h1] at g47;cases g47
   omega
  have hval:t.value=valOf rules x.inputs k:=by
   have h1:=valOf_turn (inp:=x.inputs) hR hi;rw [hk,← hn2,← hacc,ht1] at h1;rw [h1]
  refine nx ?_;have hN12:=st10.fplt;refine WC.drawnS (m:=7) (E:=lookE []) st10 (lookE_st (trivial)) mixed (by kernel_rfl)<|nx3 ?_;refine DP .r (fun _ hC=>V1 one106 (Blk.range (As.gb hC.2.g5)) .r)<|DP .r (fun _ hC=>VA agg35 (Blk.range (As.gb hC.2.g3)) .r)<|nx ?_;refine DP .r (fun _ hC=>V1 one9 (Blk.range (As.gb hC.2.g0)) .r)<|DW.nil<|?_;rintro w8 ⟨hsz12,st11⟩ _;refine WL.go rfl (OX.put kk35 und106 (As.gm st11.g2) rfl rfl rfl fun w9 smp1 hmp1=>?_);have st12:=st11.p2.updM smp1 hmp1;refine nx5 ?_;refine WP .r (V1 one9 st12.b1 .r)<|nx8 ?_;refine EX.ret1 rfl rfl<|?_;exact ⟨_,by rw [hval],by rw [hval];exact hm1.put k,by rw [hval];exact hle1.trans (MLe.put hm1 k),st12.p5.k2⟩
 have hn2:n<asksN rules i:=by
  rcases Nat.lt_or_ge n (asksN rules i) with h | h
  ·
   exact h
  have h1:=turn_end hR hi (answers:=acc) (by omega);rw [hk,ht1] at h1;rw [h1] at g47;cases g47
 obtain ⟨a,ha1,ha2,_⟩:=turn_ask hR hi (answers:=acc) (by omega);rw [hk,ht1] at ha1
 have hta:t.ask=a:=by rw [ha1]
 refine nx6 ?_;refine WP .r (PV.ldM agg35 st10.b0 rfl rfl)<|?_;have st11:=st10.p2.p5;refine WL.go rfl (OX.call cf179 rfl rfl ((ih t.ask (by rw [hta];exact ha2) g29 _ _ _ _ st11.e2 (As.gf st11.g5) hm1).mono ?_));rintro _ w8 ⟨ml2,rfl,hm2,hle2,hst8⟩;refine ⟨_,rfl,?_⟩;have st12:=St.leave (l0:=[_,_]) st11 hst8 (Zle.refl _ _);simp only [CA,NA] at st12;refine WL.go rfl (OX.bslice' (us:=[.string (valOf rules x.inputs t.ask)]) bs63_1 rfl rfl rfl rfl fun b62 w9 nw62 hb62=>?_);have st13:=st12.newB nw62 hb62;refine WL.ap rfl rfl st13.p4 (SR.blk1 (A:=fun _=>True) (x:=valOf rules x.inputs t.ask) (As.gb st13.g0) trivial rfl (by simp [Value.oneCell']) rfl) fun a63 c'63 w10 hf63 hn63 st14=>?_;refine nx3 ?_;refine EX.again (n+1,ml2,acc++[valOf rules x.inputs t.ask],a63,(n_ans+1),c'63) (Sub.k2 rfl rfl<|Sub.v<|Sub.nil) ⟨st14.p1.drop.p3.drop.p4.p4.p4.p3,⟨by omega,hm2,hle1.trans hle2,by simp only [runA];rw [← hacc,ht1],trivial⟩⟩ (by first | (simp only [];omega) | omega)
set_option maxHeartbeats 1600000 in
theorem solve_calls {rules:List Rule} {x:Bas} {D:SD} {w:World} {M Z:Nat→Prop} {ml:List (Key × Value)} {i0:Nat} (hst:St w M Z w [As.blk D.s 157 (D.cells x),As.map Key.val D.m ml]) (hf:(D.F Tryz.prog rules x).p Z w) (hm:MemoOk rules x.inputs ml) (hR:rulesOk rules) (hi:i0<rules.length) (hr0:ringAt rules i0=true) (hv:∀j a,RReach rules i0 j→MayAsk rules j a→isCyclic a=false→ValC rules x D a):Calls Tryz.prog 205 #[.pointer (some ⟨D.s,0,none⟩),(ofK rules (i0:Int)).val] w fun e w'=>∃ml',e=.returned (.tuple #[])∧MemoOk rules x.inputs ml'∧MLe ml ml'∧mget ml' (ofK rules (i0:Int))=some (.string (valOf rules x.inputs (ofK rules (i0:Int))))∧St w M Z w' [As.blk D.s 157 (D.cells x),As.map Key.val D.m ml']:=by
 have h24:=hR.len
 have h99:i0≤99:=by omega
 have hleast:=leastK_ring hi h99 hr0;refine enter Tryz.func205 rfl Tryz.ntmps205 rfl<|?_;have st0:=hst;have st1:=st0.fact (B:=As.fz (D.F Tryz.prog rules x)) hf (fun _ hx=>hx);refine nx2 ?_;refine WL.go rfl (OX.box rfl rfl rfl fun b3 w1 nw3 hb3=>?_);have st2:=st1.newB nw3 hb3;refine nx3 ?_;have hN1:=st2.fplt;have hzN1:=st2.zlt;have h0N1:=st2.size;refine WC.drawnS (m:=4) (E:=lookE [(0,PM Key.val w1.heap.size),(3,fun v _=>v=.string ⟨#[48]⟩)]) st2 (lookE_st (⟨fun _ _ _ _ _ _ c h=>PM.st hN1 c h,⟨fun _ _ _ _ _ _ _ h=>h,trivial⟩⟩)) mixed (by kernel_rfl)<|?_;refine DW.e rfl rfl rfl rfl rfl (fun wx hC hF=>OX.makeMap Key.val rfl fun b wy nw hb=>⟨⟨Nat.le_trans hC.1 nw.ext.size,hC.2.step nw.ext⟩,nw.ext.p0,_,rfl,_,rfl,Nat.le_trans hC.1 nw.ge,hb⟩)<|?_;rintro _ wz _ ⟨b16,rfl,_,_⟩;refine DP .r (fun _ hC=>VA agg35 (Blk.range (As.gb hC.2.g0)) .r)<|DP .r (fun _ hC=>VA agg35 (Blk.range (As.gb hC.2.g0)) .r)<|?_;refine DW.c1 (fun wx hC hF=>leastK_calls (k:=(ofK rules (i0:Int)))) (by rw [hleast])<|?_;refine DW.nil<|?_;rintro w2 ⟨hsz1,st3⟩ ⟨_,⟨hF0,_⟩⟩;have st4:=st3.addM hF0 hN1 hzN1 h0N1;refine WL.go rfl (OX.ins kk35 und106 (As.gm st4.g0) rfl rfl rfl fun w3 smp0 hmp0=>?_);have st5:=st4.updM smp0 hmp0;refine nx6 ?_;refine WP .r (VA agg35 st5.b1 .r)<|?_;refine WL.go rfl (OX.bslice' (us:=(ofK rules (i0:Int)).cells) bs41_1 rfl rfl rfl rfl fun b22 w4 nw22 hb22=>?_);have st6:=St.newS (R:=RR.key) (E:=35) (k:=2) (a:=some ⟨b22,0,none⟩) (n:=1) (c:=1) (xs:=[(ofK rules (i0:Int))]) st5 nw22.ext (OR.blk1 hb22 (Nat.zero_le _) rfl (by simp [Key.cells,Value.oneCell']) rfl) (fun x hx=>by simp [oblk] at hx;subst hx;exact nw22.ge);refine nx10 ?_;refine WC.loopS1 (σ:=(List Nat) × (Nat→Nat) × (List (Key × Value)) × Bool × (List (Key × Value)) × (Option Addr) × Nat × Nat) (kvs:=fun (L,u,am,ch,ml1,a_list,n_list,c_list)=>[(0,.pointer (some ⟨D.s,0,none⟩)),(4,.map (some b16)),(5,.slice a_list n_list c_list),(6,.bool ch)]) (F:=fun (L,u,am,ch,ml1,a_list,n_list,c_list)=>[As.os RR.key 35 2 a_list n_list c_list (L.map fun j:Nat=>ofK rules (j:Int)),As.map Key.val D.m ml1,As.map Key.val b16 am]) (I:=fun (L,u,am,ch,ml1,a_list,n_list,c_list)=>(Rounds rules x.inputs i0 L u)∧(UpOk rules x.inputs L u ml1)∧(AtOk rules L u am)∧(MemoOk rules x.inputs ml1)∧(MLe ml ml1)∧(ch=false→∀j∈L,Settled rules x.inputs L u j)∧True) (μ:=fun (L,u,am,ch,ml1,a_list,n_list,c_list)=>2*pot rules L u+(if ch then 1 else 0)) ([i0],fun _=>0,mput [] (ofK rules (i0:Int)) (.string ⟨#[48]⟩),true,ml,(some ⟨b22,0,none⟩),1,1) (st6.p1.p5.p2) (Sub.k2 rfl rfl<|Sub.v<|Sub.v<|Sub.nil) (⟨Rounds.start hi hr0,UpOk.start,⟨fun j hj=>by simp at hj;subst hj;rw [show itoa ((0:Nat):Int)=⟨#[48]⟩ by decide +kernel];simp [mput,mget],fun k hk=>by simp [mput,mget];intro e;exact hk i0 (by simp) e.symm⟩,hm,MLe.refl _,(fun h=>by cases h),trivial⟩)<|?_;rintro ⟨L,u,am,ch,ml1,a_list,n_list,c_list⟩ w5 st7 ⟨hrd,hup,hat,hm1,hle1,hch,_⟩;simp only [CA,NA] at st7 hrd hup hat hm1 hle1 hch ⊢;refine nx6 ?_;refine WC.cd (fun g23=>?_) fun g23=>?_
 ·
  have g23:ch=true:=g23;subst g23
  clear hch
  refine nx12 ?_;refine nx2 ?_;refine WC.loopS1 (σ:=Nat × (List Nat) × (Nat→Nat) × (List (Key × Value)) × Bool × (List (Key × Value)) × (Option Addr) × Nat × Nat) (kvs:=fun (idx,L1,u1,am1,ch1,ml2,a_list,n_list,c_list)=>[(0,.pointer (some ⟨D.s,0,none⟩)),(4,.map (some b16)),(5,.slice a_list n_list c_list),(6,.bool ch1),(7,.int .i64 (idx:Int))]) (F:=fun (idx,L1,u1,am1,ch1,ml2,a_list,n_list,c_list)=>[As.os RR.key 35 2 a_list n_list c_list (L1.map fun j:Nat=>ofK rules (j:Int)),As.map Key.val D.m ml2,As.map Key.val b16 am1]) (I:=fun (idx,L1,u1,am1,ch1,ml2,a_list,n_list,c_list)=>(idx≤L1.length)∧(Rounds rules x.inputs i0 L1 u1)∧(UpOk rules x.inputs L1 u1 ml2)∧(AtOk rules L1 u1 am1)∧(MemoOk rules x.inputs ml2)∧(MLe ml ml2)∧(pot rules L1 u1≤pot rules L u∧(ch1=true→pot rules L1 u1<pot rules L u))∧(ch1=false→∀m j,m<idx→L1[m]?=some j→Settled rules x.inputs L1 u1 j)∧True) (μ:=fun (idx,L1,u1,am1,ch1,ml2,a_list,n_list,c_list)=>rules.length - idx) (0,L,u,am,false,ml1,a_list,n_list,c_list) (st7.p2.p2.p2) (Sub.k2 rfl rfl<|Sub.v<|Sub.v<|Sub.v<|Sub.nil) (⟨by omega,hrd,hup,hat,hm1,hle1,⟨Nat.le_refl _,(fun h=>by cases h)⟩,fun _ m j h=>by omega,trivial⟩)<|?_;rintro ⟨idx,L1,u1,am1,ch1,ml2,a_list,n_list,c_list⟩ w6 st8 ⟨hidx,hrd1,hup1,hat1,hm2,hle2,hp1,hset1,_⟩;simp only [CA,NA] at st8 hidx hrd1 hup1 hat1 hm2 hle2 hp1 hset1 ⊢;have hnl:=((As.gs st8.g0)).len;rw [List.length_map] at hnl;have hL1:=hrd1.len;refine nx9 ?_;refine WC.cd (fun g27=>?_) fun g27=>?_
  ·
   simp at g27
   have hidx2:idx<L1.length:=by omega
   obtain ⟨j,hLj0⟩:∃j,L1[idx]=j:=⟨_,rfl⟩
   have hLj:L1[idx]?=some j:=by rw [getElem_some hidx2,hLj0]
   have hjm:j∈L1:=hLj0 ▸ List.getElem_mem hidx2;obtain ⟨hjl,hjr⟩:=hrd1.ring j hjm
   have hj99:j≤99:=by omega
   have hja:=asksN_le hR hjl;rw [asksN_eq hjl] at hja;have st9:=st8.newN RR.str 9 1;refine nx10 ?_;obtain ⟨t,ht0⟩:∃t,turn28 rules (ofK rules (j:Int)) []=t:=⟨_,rfl⟩
   have hx1:(L1.map fun j:Nat=>ofK rules (j:Int))[idx]?=some (ofK rules (j:Int)):=by rw [List.getElem?_map,hLj];rfl
   obtain ⟨b_x1,ha_x1⟩:=Ow.addr (As.gs st9.g1) hx1;have hN10:=st9.fplt;have hzN10:=st9.zlt;have h0N10:=st9.size;refine WC.drawnS (m:=11) (E:=lookE [(9,fun v _=>v=t.val),(10,PB w6.heap.size 65 [.bool false,.string ⟨#[]⟩,.int .i64 0,.string ⟨#[]⟩])]) st9 (lookE_st (⟨fun _ _ _ _ _ _ _ h=>h,⟨fun _ _ _ _ _ _ c h=>PB.st hN10 c h,trivial⟩⟩)) mixed (by kernel_rfl)<|nx3 ?_;refine DP .r (fun _ hC=>V1 one27 (Blk.range (As.gb hC.2.g6)) .r)<|nx2 ?_;refine DP .r (fun _ hC=>PV.ixS sl41 ha_x1 rfl rfl (by omega))<|DP .r (fun _ hC=>VA agg35 (Ow.rng (As.gs hC.2.g1) (by rw [List.length_map];omega) ha_x1 hx1) .r)<|nx ?_;refine DW.c1 (fun wx hC hF=>turn28_calls (k:=(ofK rules (j:Int))) (SD.ht (As.gf hC.2.g5)) (SD.hu (As.gf hC.2.g5)) (Ow.rd (As.gs hC.2.g0) (by simp)) hR.hb (notLang_ofK hjl hj99)) (by rw [ht0])<|?_;refine DW.e rfl rfl rfl rfl rfl (fun wx hC hF=>OX.alloc zv65 rfl fun b wy nw hb=>⟨⟨Nat.le_trans hC.1 nw.ext.size,hC.2.step nw.ext⟩,nw.ext.p0,_,rfl,_,rfl,Nat.le_trans hC.1 nw.ge,hb⟩)<|?_;rintro _ wz _ ⟨b9,rfl,_,_⟩;refine DW.nil<|?_;rintro w7 ⟨hsz10,st10⟩ ⟨hF10,⟨_,_⟩⟩;have st11:=st10.addB hF10 hN10 hzN10 h0N10;refine WL.go rfl (OX.stW sz65 (As.gb st11.g0) rfl rfl rfl rfl rfl fun w8 ss1 _ hs1=>?_);have st12:=st11.updB ss1 hs1;refine nx4 ?_;refine WC.loopS1 (σ:=Nat × Turn × (List Nat) × (List (Key × Value)) × Bool × (List (Key × Value)) × (List ByteArray) × (Option Addr) × Nat × Nat × (Option Addr) × Nat × Nat) (kvs:=fun (n,t,L2,am2,ch2,ml3,acc,a_list,n_list,c_list,a_ans,n_ans,c_ans)=>[(0,.pointer (some ⟨D.s,0,none⟩)),(4,.map (some b16)),(5,.slice a_list n_list c_list),(6,.bool ch2),(7,.int .i64 (idx:Int)),(8,.slice a_ans n_ans c_ans),(9,.pointer (some ⟨b9,0,none⟩))]) (F:=fun (n,t,L2,am2,ch2,ml3,acc,a_list,n_list,c_list,a_ans,n_ans,c_ans)=>[As.os RR.key 35 2 a_list n_list c_list (L2.map fun j:Nat=>ofK rules (j:Int)),As.os RR.str 9 1 a_ans n_ans c_ans (acc),As.map Key.val D.m ml3,As.map Key.val b16 am2,As.blk b9 65 [.bool t.done,.string t.value,.int .i64 t.ask.kind,.string t.ask.text]]) (I:=fun (n,t,L2,am2,ch2,ml3,acc,a_list,n_list,c_list,a_ans,n_ans,c_ans)=>(n≤rules[j].asks.length)∧(Rounds rules x.inputs i0 L2 u1)∧(UpOk rules x.inputs L2 u1 ml3)∧(AtOk rules L2 u1 am2)∧(MemoOk rules x.inputs ml3)∧(MLe ml2 ml3)∧(pot rules L2 u1≤pot rules L1 u1∧(ch2=true→ch1=true∨pot rules L2 u1<pot rules L1 u1))∧(ch2=false→L2=L1∧ch1=false)∧(L1 <+: L2)∧(Ev rules x.inputs u1 L2 ml2 ml3 rules[j].asks n acc)∧(turnV rules (ofK rules (j:Int)) acc=t)∧True) (μ:=fun (n,t,L2,am2,ch2,ml3,acc,a_list,n_list,c_list,a_ans,n_ans,c_ans)=>rules[j].asks.length - n) (0,t,L1,am1,ch1,ml2,[],a_list,n_list,c_list,none,0,0) (st12.p4.p4.p3.p4) (Sub.k2 rfl rfl<|Sub.v<|Sub.v<|Sub.cons rfl<|Sub.v<|Sub.cons rfl<|Sub.nil) (⟨by omega,hrd1,hup1,hat1,hm2,MLe.refl _,⟨Nat.le_refl _,fun h=>.inl h⟩,fun h=>⟨rfl,h⟩,List.prefix_refl _,Ev.start,by rw [← ht0,turn28_ofK hjl hj99],trivial⟩)<|?_;rintro ⟨n,t,L2,am2,ch2,ml3,acc,a_list,n_list,c_list,a_ans,n_ans,c_ans⟩ w9 st13 ⟨hn,hrd2,hup2,hat2,hm3,hle3,hp2,hc2,hpre,hev,ht,_⟩;simp only [CA,NA] at st13 hn hrd2 hup2 hat2 hm3 hle3 hp2 hc2 hpre hev ht ⊢;have hnl2:=((As.gs st13.g0)).len;rw [List.length_map] at hnl2;have hna:=((As.gs st13.g1)).len;have hL2:=hrd2.len;have hal:=hev.len;have hpl0:=hpre.length_le;have hp3:pot rules L2 u1≤pot rules L u∧(ch2=true→pot rules L2 u1<pot rules L u):=⟨by omega,fun h=>by rcases hp2.2 h with h1 | h1;have:=hp1.2 h1;omega;omega⟩;refine nx4 ?_;refine WP .r (V1 one4 st13.b4 .r)<|nx3 ?_;refine WC.cd (fun g42=>?_) fun g42=>?_
   ·
    simp at g42
    have hn2:n<rules[j].asks.length:=by
     rcases Nat.lt_or_ge n rules[j].asks.length with h | h
     ·
      exact h
     have h1:=turn_end hR hjl (answers:=acc) (by rw [asksN_eq hjl];omega);rw [ht] at h1;rw [h1] at g42;cases g42
    obtain ⟨a,ha1,ha2,ha3⟩:=turn_ask hR hjl (answers:=acc) (by rw [asksN_eq hjl];omega);obtain ⟨xq,hxq,hax⟩:=ha3 hjr;rw [hal,getElem_some hn2] at hxq
    simp at hxq
    rw [ht] at ha1
    have hta:t.ask=a:=by rw [ha1]
    have htx:askKey rules rules[j].asks[n]=t.ask:=by rw [hta,hax,hxq]
    have hmem:rules[j].asks[n]∈rules[j].asks:=List.getElem_mem hn2;have hjreach:=hrd1.reach j hjm;refine nx4 ?_;have hN12:=st13.fplt;refine WC.drawnS (m:=11) (E:=lookE []) st13 (lookE_st (trivial)) mixed (by kernel_rfl)<|nx3 ?_;refine DP .r (fun _ hC=>V1 one106 (Blk.range (As.gb hC.2.g7)) .r)<|nx ?_;refine DP .r (fun _ hC=>PV.ldM agg35 (Blk.range (As.gb hC.2.g4)) rfl rfl)<|DP .r (fun _ hC=>PV.lookOk kk35 und106 zvv9 (As.gm hC.2.g2) rfl rfl)<|nx4 ?_;refine DW.nil<|?_;rintro w10 ⟨hsz12,st14⟩ _;refine nx11 ?_;refine WC.cd (fun g77=>?_) fun g77=>?_
    ·
     obtain ⟨vv,hvv⟩:=Option.isSome_iff_exists.1 g77;have hvm:=hm3 _ vv hvv;obtain ⟨sv,hsv⟩:∃s,s=valOf rules x.inputs t.ask:=⟨_,rfl⟩
     have hevn:=hev.snoc sv (fun _ _=>by rw [htx];exact hsv) (fun h ho k hk=>.inl (by
      obtain ⟨hk1,hk2,hk3⟩:=inside_key hR hjl hjr hmem ho hk;rw [htx] at hk3;rw [hk3] at hvv hsv;exact ⟨by rw [hsv,valOf_ofK hR hk1,valI_ring hR hk1 hk2],by rw [hvv];rfl⟩))
     refine WC.eqv (t:=10) (v':=.string sv) rfl (by rw [hvv,hvm,hsv];rfl)<|nx7 ?_;refine WL.go rfl (OX.bslice' (us:=[.string sv]) bs63_1 rfl rfl rfl rfl fun b90 w11 nw90 hb90=>?_);have st15:=st14.newB nw90 hb90;refine WL.ap rfl rfl st15.p2 (SR.blk1 (A:=fun _=>True) (x:=sv) (As.gb st15.g0) trivial rfl (by simp [Value.oneCell']) rfl) fun a91 c'91 w12 hf91 hn91 st16=>?_;refine nx3 ?_;obtain ⟨t2,ht2⟩:∃t,turn28 rules (ofK rules (j:Int)) (acc++[sv])=t:=⟨_,rfl⟩
     have hLj2:∀Lx:List Nat,L1 <+: Lx→(Lx.map fun j:Nat=>ofK rules (j:Int))[idx]?=some (ofK rules (j:Int)):=fun Lx h=>by
      rw [List.getElem?_map]
      have:=h.getElem hidx2
      obtain ⟨q,rfl⟩:=h;rw [List.getElem?_append_left hidx2,hLj];rfl
     obtain ⟨b_x2,ha_x2⟩:=Ow.addr (As.gs st16.g2) (hLj2 _ (by first | exact hpre | exact hpre.trans (List.prefix_append _ _)));have hN22:=st16.fplt;refine WC.drawnS (m:=9) (E:=lookE []) st16 (lookE_st (trivial)) mixed (by kernel_rfl)<|nx3 ?_;refine DP .r (fun _ hC=>V1 one27 (Blk.range (As.gb hC.2.g8)) .r)<|nx2 ?_;refine DP .r (fun _ hC=>PV.ixS sl41 ha_x2 rfl rfl (by omega))<|DP .r (fun _ hC=>VA agg35 (Ow.rng (As.gs hC.2.g2) (by simp only [List.length_map,List.length_append,List.length_cons,List.length_nil];omega) ha_x2 (hLj2 _ (by first | exact hpre | exact hpre.trans (List.prefix_append _ _)))) .r)<|nx ?_;refine DW.nil<|?_;rintro w13 ⟨hsz22,st17⟩ _;refine WL.c1 (u:=t2.val) (turn28_calls (k:=(ofK rules (j:Int))) (SD.ht (As.gf st17.g7)) (SD.hu (As.gf st17.g7)) (Ow.rd (As.gs st17.g0) (by simp;omega)) hR.hb (notLang_ofK hjl hj99)) (by rw [ht2]) st17 fun w14 s14 st18=>?_;refine WL.go rfl (OX.stW sz65 (As.gb st18.g5) rfl rfl rfl rfl rfl fun w15 ss2 _ hs2=>?_);have st19:=st18.p5.updB ss2 hs2;refine nx2 ?_;refine EX.again (n+1,t2,L2,am2,ch2,ml3,_,a_list,n_list,c_list,a91,(n_ans+1),c'91) (Sub.k2 rfl rfl<|Sub.v<|Sub.v<|Sub.cons rfl<|Sub.v<|Sub.cons rfl<|Sub.nil) ⟨st19.p2.drop.p4.p4.p3.p4,⟨by omega,hrd2,hup2,hat2,hm3,hle3,hp2,hc2,hpre,hevn,by rw [← ht2,turn28_ofK hjl hj99],trivial⟩⟩ (by first | (simp only [];omega) | omega)
    have g77:mget ml3 t.ask=none:=by simpa using g77
    refine nx3 ?_;refine WP .r (PV.ldM agg35 st14.b4 rfl rfl)<|?_;refine WL.c0 (cyclic_calls (k:=t.ask)) st14 fun w11 s11 st15=>?_;refine nx4 ?_;refine WC.cd (fun g79=>?_) fun g79=>?_
    ·
     simp at g79
     refine nx3 ?_;refine WP .r (PV.ldM agg35 st15.b4 rfl rfl)<|?_;have st16:=st15.p2.p7;refine WL.go rfl (OX.call cf179 rfl rfl ((hv j t.ask hjreach (by rw [hta];exact ha2) g79 _ _ _ _ st16.e2 (As.gf st16.g7) hm3).mono ?_));rintro _ w12 ⟨ml4,rfl,hm4,hle4,hst12⟩;refine ⟨_,rfl,?_⟩;have st17:=St.leave (l0:=[_,_]) st16 hst12 (Zle.refl _ _);simp only [CA,NA] at st17;refine nx2 ?_;obtain ⟨sv,hsv⟩:∃s,s=valOf rules x.inputs t.ask:=⟨_,rfl⟩
     have hevn:=(hev.mono (fun _ h=>h) hle4).snoc sv (fun _ _=>by rw [htx];exact hsv) (fun h ho k hk=>by
      obtain ⟨hk1,hk2,hk3⟩:=inside_key hR hjl hjr hmem ho hk;rw [htx] at hk3;rw [hk3,isCyclic_ofK hk1 (by omega),hk2] at g79;cases g79)
     refine EX.eqv (t:=10) (v':=.string sv) rfl (by rw [hsv])<|nx6 ?_;refine WL.go rfl (OX.bslice' (us:=[.string sv]) bs63_1 rfl rfl rfl rfl fun b90 w13 nw90 hb90=>?_);have st18:=st17.newB nw90 hb90;refine WL.ap rfl rfl st18.p4 (SR.blk1 (A:=fun _=>True) (x:=sv) (As.gb st18.g0) trivial rfl (by simp [Value.oneCell']) rfl) fun a91 c'91 w14 hf91 hn91 st19=>?_;refine nx3 ?_;obtain ⟨t2,ht2⟩:∃t,turn28 rules (ofK rules (j:Int)) (acc++[sv])=t:=⟨_,rfl⟩
     have hLj2:∀Lx:List Nat,L1 <+: Lx→(Lx.map fun j:Nat=>ofK rules (j:Int))[idx]?=some (ofK rules (j:Int)):=fun Lx h=>by
      rw [List.getElem?_map]
      have:=h.getElem hidx2
      obtain ⟨q,rfl⟩:=h;rw [List.getElem?_append_left hidx2,hLj];rfl
     obtain ⟨b_x2,ha_x2⟩:=Ow.addr (As.gs st19.g4) (hLj2 _ (by first | exact hpre | exact hpre.trans (List.prefix_append _ _)));have hN22:=st19.fplt;refine WC.drawnS (m:=9) (E:=lookE []) st19 (lookE_st (trivial)) mixed (by kernel_rfl)<|nx3 ?_;refine DP .r (fun _ hC=>V1 one27 (Blk.range (As.gb hC.2.g2)) .r)<|nx2 ?_;refine DP .r (fun _ hC=>PV.ixS sl41 ha_x2 rfl rfl (by omega))<|DP .r (fun _ hC=>VA agg35 (Ow.rng (As.gs hC.2.g4) (by simp only [List.length_map,List.length_append,List.length_cons,List.length_nil];omega) ha_x2 (hLj2 _ (by first | exact hpre | exact hpre.trans (List.prefix_append _ _)))) .r)<|nx ?_;refine DW.nil<|?_;rintro w15 ⟨hsz22,st20⟩ _;refine WL.c1 (u:=t2.val) (turn28_calls (k:=(ofK rules (j:Int))) (SD.ht (As.gf st20.g8)) (SD.hu (As.gf st20.g8)) (Ow.rd (As.gs st20.g0) (by simp;omega)) hR.hb (notLang_ofK hjl hj99)) (by rw [ht2]) st20 fun w16 s16 st21=>?_;refine WL.go rfl (OX.stW sz65 (As.gb st21.g6) rfl rfl rfl rfl rfl fun w17 ss3 _ hs3=>?_);have st22:=st21.p6.updB ss3 hs3;refine nx2 ?_;refine EX.again (n+1,t2,L2,am2,ch2,ml4,_,a_list,n_list,c_list,a91,(n_ans+1),c'91) (Sub.k2 rfl rfl<|Sub.v<|Sub.v<|Sub.cons rfl<|Sub.v<|Sub.cons rfl<|Sub.nil) ⟨st22.p2.drop.p7.p7.p2.p7.p6.p5.p7,⟨by omega,hrd2,hup2.mono hR hrd2 hle4,hat2,hm4,hle3.trans hle4,hp2,hc2,hpre,hevn,by rw [← ht2,turn28_ofK hjl hj99],trivial⟩⟩ (by first | (simp only [];omega) | omega)
    simp at g79
    have hout:outside rules rules[j].asks[n]=false:=by
     cases ho:outside rules rules[j].asks[n]
     ·
      rfl
     have:=askKey_out hR hjl hjr hmem ho;rw [htx,g79] at this;cases this
    obtain ⟨kk,hkk,hka,hkl⟩:=inside_ask hR hjl hjr hmem hout;rw [htx] at hka;have hkr:=hkk.lt.2.2.2
    have hml2:mget ml2 (ofK rules (kk:Int))=none:=by
     cases h:mget ml2 (ofK rules (kk:Int)) with
     | none=>rfl
     | some v=>have:=hle3 _ _ h;rw [← hka,g77] at this;cases this
    have hkn:∀k:Nat,rules[j].asks[n].n=k→k=kk:=fun k hk=>by
     obtain ⟨hk1,hk2,hk3⟩:=inside_key hR hjl hjr hmem hout hk;rw [htx,hka] at hk3;exact (ofK_inj hR hkl hk1 hk3).symm
    refine nx5 ?_;refine WP .r (PV.ldM agg35 st15.b4 rfl rfl)<|WP .r (PV.lookOk kk35 und106 zvv9 (As.gm st15.g3) rfl rfl)<|?_;refine nx12 ?_;refine nx ?_;refine WC.cd (fun g61=>?_) fun g61=>?_
    ·
     simp at g61
     have hkL:kk∉L2:=fun h=>by have:=hat2.1 kk h;rw [← hka,g61] at this;cases this
     have hk0:=hrd2.out kk hkL;have hre:RReach rules i0 kk:=.step (hrd2.reach j (hpre.subset hjm)) hkk;have hrd3:=hrd2.meet hkl hkr hkL hre;have hlt:=hrd2.meet_lt hkl hkr hkL hre;have hpm:=pot_meet (v:=u1) (j:=kk) hlt;have hat3:=hat2.meet hR (fun k hk=>(hrd2.ring k hk).1) hkl hkL hk0;rw [← hka] at hat3
     have hleast2:leastK t.ask=⟨#[48]⟩:=by rw [hka];exact leastK_ring hkl (by omega) hkr
     refine nx ?_;have hN15:=st15.fplt;refine WC.drawnS (m:=6) (E:=lookE [(5,fun v _=>v=.string ⟨#[48]⟩)]) st15 (lookE_st (⟨fun _ _ _ _ _ _ _ h=>h,trivial⟩)) mixed (by kernel_rfl)<|nx2 ?_;refine DP .r (fun _ hC=>PV.ldM agg35 (Blk.range (As.gb hC.2.g4)) rfl rfl)<|nx ?_;refine DP .r (fun _ hC=>PV.ldM agg35 (Blk.range (As.gb hC.2.g4)) rfl rfl)<|?_;refine DW.c1 (fun wx hC hF=>leastK_calls (k:=t.ask)) (by rw [hleast2])<|?_;refine DW.nil<|?_;rintro w12 ⟨hsz15,st16⟩ ⟨_,_⟩;refine WL.go rfl (OX.put kk35 und106 (As.gm st16.g3) rfl rfl rfl fun w13 smp4 hmp4=>?_);have st17:=st16.p3.updM smp4 hmp4;refine nx5 ?_;refine WP .r (PV.ldM agg35 st17.b4 rfl rfl)<|?_;refine WL.go rfl (OX.bslice' (us:=t.ask.cells) bs41_1 rfl rfl rfl rfl fun b71 w14 nw71 hb71=>?_);have st18:=st17.newB nw71 hb71;refine WL.ap rfl rfl st18.p2 (SR.blk1 (A:=fun _=>True) (x:=t.ask) (As.gb st18.g0) trivial rfl (by simp [Key.cells,Value.oneCell']) rfl) fun a72 c'72 w15 hf72 hn72 st19=>?_;refine nx3 ?_;have st20:=st19.eqS (show (L2.map fun j:Nat=>ofK rules (j:Int))++[t.ask]=(L2++[kk]).map fun j:Nat=>ofK rules (j:Int) by rw [List.map_append,hka];rfl);have hget17:=hat3.1 kk (by simp);rw [← hka] at hget17;have hsn:∀s,s=itoa (u1 kk:Int)→Ev rules x.inputs u1 (L2++[kk]) ml2 ml3 rules[j].asks (n+1) (acc++[s]):=fun s hs=>(hev.mono (fun _ h=>by simp [h]) (MLe.refl _)).snoc s (fun h ho=>by rw [hout] at ho;cases ho) (fun h ho k hk=>by have:=hkn k hk;subst this;exact .inr ⟨hs,by simp,hml2⟩);refine nx4 ?_;refine WP .r (PV.ldM agg35 st20.b5 rfl rfl)<|WP .r (PV.lookV kk35 und106 zvv9 (As.gm st20.g2) (hget17) rfl rfl)<|nx2 ?_;obtain ⟨sv,hsv⟩:∃s,s=itoa (u1 kk:Int):=⟨_,rfl⟩;have hevn:=hsn sv hsv;refine EX.eqv (t:=10) (v':=.string sv) rfl (by rw [hsv])<|nx6 ?_;refine WL.go rfl (OX.bslice' (us:=[.string sv]) bs63_1 rfl rfl rfl rfl fun b90 w16 nw90 hb90=>?_);have st21:=st20.newB nw90 hb90;refine WL.ap rfl rfl st21.p4 (SR.blk1 (A:=fun _=>True) (x:=sv) (As.gb st21.g0) trivial rfl (by simp [Value.oneCell']) rfl) fun a91 c'91 w17 hf91 hn91 st22=>?_;refine nx3 ?_;obtain ⟨t2,ht2⟩:∃t,turn28 rules (ofK rules (j:Int)) (acc++[sv])=t:=⟨_,rfl⟩
     have hLj2:∀Lx:List Nat,L1 <+: Lx→(Lx.map fun j:Nat=>ofK rules (j:Int))[idx]?=some (ofK rules (j:Int)):=fun Lx h=>by
      rw [List.getElem?_map]
      have:=h.getElem hidx2
      obtain ⟨q,rfl⟩:=h;rw [List.getElem?_append_left hidx2,hLj];rfl
     obtain ⟨b_x2,ha_x2⟩:=Ow.addr (As.gs st22.g2) (hLj2 _ (by first | exact hpre | exact hpre.trans (List.prefix_append _ _)));have hN22:=st22.fplt;refine WC.drawnS (m:=9) (E:=lookE []) st22 (lookE_st (trivial)) mixed (by kernel_rfl)<|nx3 ?_;refine DP .r (fun _ hC=>V1 one27 (Blk.range (As.gb hC.2.g9)) .r)<|nx2 ?_;refine DP .r (fun _ hC=>PV.ixS sl41 ha_x2 rfl rfl (by omega))<|DP .r (fun _ hC=>VA agg35 (Ow.rng (As.gs hC.2.g2) (by simp only [List.length_map,List.length_append,List.length_cons,List.length_nil];omega) ha_x2 (hLj2 _ (by first | exact hpre | exact hpre.trans (List.prefix_append _ _)))) .r)<|nx ?_;refine DW.nil<|?_;rintro w18 ⟨hsz22,st23⟩ _;refine WL.c1 (u:=t2.val) (turn28_calls (k:=(ofK rules (j:Int))) (SD.ht (As.gf st23.g8)) (SD.hu (As.gf st23.g8)) (Ow.rd (As.gs st23.g0) (by simp;omega)) hR.hb (notLang_ofK hjl hj99)) (by rw [ht2]) st23 fun w19 s19 st24=>?_;refine WL.go rfl (OX.stW sz65 (As.gb st24.g6) rfl rfl rfl rfl rfl fun w20 ss5 _ hs5=>?_);have st25:=st24.p6.updB ss5 hs5;refine nx2 ?_;refine EX.again (n+1,t2,L2++[kk],_,true,ml3,_,a72,(n_list+1),c'72,a91,(n_ans+1),c'91) (Sub.k2 rfl rfl<|Sub.v<|Sub.v<|Sub.cons rfl<|Sub.v<|Sub.cons rfl<|Sub.nil) ⟨st25.p2.drop.p3.drop.p3.p4.p3.p4,⟨by omega,hrd3,hup2.meet hk0,hat3,hm3,hle3,⟨Nat.le_of_lt (Nat.lt_of_lt_of_le hpm hp2.1),fun _=>.inr (Nat.lt_of_lt_of_le hpm hp2.1)⟩,(fun h=>by cases h),hpre.trans (List.prefix_append _ _),hevn,by rw [← ht2,turn28_ofK hjl hj99],trivial⟩⟩ (by first | (simp only [];omega) | omega)
    simp at g61
    have hkL:kk∈L2:=by
     by_cases h:kk∈L2
     ·
      exact h
     have:=hat2.2 (ofK rules (kk:Int)) (fun k hk e=>h (by have:=ofK_inj hR hkl (hrd2.ring k hk).1 e;rw [this];exact hk));rw [← hka] at this;rw [this] at g61;cases g61
    have hget17:=hat2.1 kk hkL;rw [← hka] at hget17;have hsn:∀s,s=itoa (u1 kk:Int)→Ev rules x.inputs u1 L2 ml2 ml3 rules[j].asks (n+1) (acc++[s]):=fun s hs=>hev.snoc s (fun h ho=>by rw [hout] at ho;cases ho) (fun h ho k hk=>by have:=hkn k hk;subst this;exact .inr ⟨hs,hkL,hml2⟩);refine nx5 ?_;refine WP .r (PV.ldM agg35 st15.b4 rfl rfl)<|WP .r (PV.lookV kk35 und106 zvv9 (As.gm st15.g3) (hget17) rfl rfl)<|nx2 ?_;obtain ⟨sv,hsv⟩:∃s,s=itoa (u1 kk:Int):=⟨_,rfl⟩;have hevn:=hsn sv hsv;refine EX.eqv (t:=10) (v':=.string sv) rfl (by rw [hsv])<|nx6 ?_;refine WL.go rfl (OX.bslice' (us:=[.string sv]) bs63_1 rfl rfl rfl rfl fun b90 w12 nw90 hb90=>?_);have st16:=st15.newB nw90 hb90;refine WL.ap rfl rfl st16.p2 (SR.blk1 (A:=fun _=>True) (x:=sv) (As.gb st16.g0) trivial rfl (by simp [Value.oneCell']) rfl) fun a91 c'91 w13 hf91 hn91 st17=>?_;refine nx3 ?_;obtain ⟨t2,ht2⟩:∃t,turn28 rules (ofK rules (j:Int)) (acc++[sv])=t:=⟨_,rfl⟩
    have hLj2:∀Lx:List Nat,L1 <+: Lx→(Lx.map fun j:Nat=>ofK rules (j:Int))[idx]?=some (ofK rules (j:Int)):=fun Lx h=>by
     rw [List.getElem?_map]
     have:=h.getElem hidx2
     obtain ⟨q,rfl⟩:=h;rw [List.getElem?_append_left hidx2,hLj];rfl
    obtain ⟨b_x2,ha_x2⟩:=Ow.addr (As.gs st17.g2) (hLj2 _ (by first | exact hpre | exact hpre.trans (List.prefix_append _ _)));have hN22:=st17.fplt;refine WC.drawnS (m:=9) (E:=lookE []) st17 (lookE_st (trivial)) mixed (by kernel_rfl)<|nx3 ?_;refine DP .r (fun _ hC=>V1 one27 (Blk.range (As.gb hC.2.g8)) .r)<|nx2 ?_;refine DP .r (fun _ hC=>PV.ixS sl41 ha_x2 rfl rfl (by omega))<|DP .r (fun _ hC=>VA agg35 (Ow.rng (As.gs hC.2.g2) (by simp only [List.length_map,List.length_append,List.length_cons,List.length_nil];omega) ha_x2 (hLj2 _ (by first | exact hpre | exact hpre.trans (List.prefix_append _ _)))) .r)<|nx ?_;refine DW.nil<|?_;rintro w14 ⟨hsz22,st18⟩ _;refine WL.c1 (u:=t2.val) (turn28_calls (k:=(ofK rules (j:Int))) (SD.ht (As.gf st18.g7)) (SD.hu (As.gf st18.g7)) (Ow.rd (As.gs st18.g0) (by simp;omega)) hR.hb (notLang_ofK hjl hj99)) (by rw [ht2]) st18 fun w15 s15 st19=>?_;refine WL.go rfl (OX.stW sz65 (As.gb st19.g5) rfl rfl rfl rfl rfl fun w16 ss6 _ hs6=>?_);have st20:=st19.p5.updB ss6 hs6;refine nx2 ?_;refine EX.again (n+1,t2,L2,am2,ch2,ml3,_,a_list,n_list,c_list,a91,(n_ans+1),c'91) (Sub.k2 rfl rfl<|Sub.v<|Sub.v<|Sub.cons rfl<|Sub.v<|Sub.cons rfl<|Sub.nil) ⟨st20.p2.drop.p4.p4.p3.p4,⟨by omega,hrd2,hup2,hat2,hm3,hle3,hp2,hc2,hpre,hevn,by rw [← ht2,turn28_ofK hjl hj99],trivial⟩⟩ (by first | (simp only [];omega) | omega)
   simp at g42
   have hn2:n=rules[j].asks.length:=by
    rcases Nat.lt_or_ge n rules[j].asks.length with h | h
    ·
     obtain ⟨a,h1,_⟩:=turn_ask hR hjl (answers:=acc) (by rw [asksN_eq hjl];omega);rw [ht] at h1;rw [h1] at g42;cases g42
    omega
   subst hn2;obtain ⟨hv1,hv2,hv30,hv4,hv5⟩:=hev.val hR hrd2 hjl hjr;have hv3:sub16 (u1 j) (bitsV rules[j].c.toNat (acc.map valS)):=fun b hb=>hv30 b (hup1 j hjm b hb);obtain ⟨val,hval⟩:∃v,bitsV rules[j].c.toNat (acc.map valS)=v:=⟨_,rfl⟩;rw [hval] at hv1 hv2 hv3 hv4 hv5
   have htv:t.value=itoa (val:Int):=by
    have h1:=turn_end hR hjl (answers:=acc) (by rw [asksN_eq hjl];omega);rw [ht] at h1;rw [h1,(ring_c hR hjl hjr).1,← hval];rfl
   have hj2:j∈L2:=hpre.subset hjm;have hpl:=hpre.length_le
   have hlj2:L2[idx]?=some j:=by obtain ⟨q,rfl⟩:=hpre;rw [List.getElem?_append_left hidx2];exact hLj
   have hx3:(L2.map fun j:Nat=>ofK rules (j:Int))[idx]?=some (ofK rules (j:Int)):=by rw [List.getElem?_map,hlj2];rfl
   refine nx6 ?_;obtain ⟨b_x3,ha_x3⟩:=Ow.addr (As.gs st13.g0) hx3;have hN23:=st13.fplt;refine WC.drawnS (m:=8) (E:=lookE []) st13 (lookE_st (trivial)) mixed (by kernel_rfl)<|nx3 ?_;refine DP .r (fun _ hC=>PV.ixS sl41 ha_x3 rfl rfl (by omega))<|DP .r (fun _ hC=>VA agg35 (Ow.rng (As.gs hC.2.g0) (by rw [List.length_map];omega) ha_x3 hx3) .r)<|DP .r (fun _ hC=>PV.lookV kk35 und106 zvv9 (As.gm hC.2.g3) (hat2.1 j hj2) rfl rfl)<|nx ?_;refine DP .r (fun _ hC=>V1 one9 (Blk.range (As.gb hC.2.g4)) .r)<|DW.nil<|?_;rintro w10 ⟨hsz23,st14⟩ _;refine nx3 ?_;refine WC.cd (fun g110=>?_) fun g110=>?_
   ·
    simp at g110
    rw [htv] at g110;have hne:u1 j≠val:=fun e=>g110 (by rw [e]);have hps:=pot_set hrd2 hj2 hv1 hv3 hne;obtain ⟨b_x4,ha_x4⟩:=Ow.addr (As.gs st14.g0) hx3;have hN24:=st14.fplt;refine WC.drawnS (m:=9) (E:=lookE [(7,fun v w'=>∃vv st,v=.tuple #[vv,.int .i64 ((st:Nat):Int)]∧KE Key.val w' b16 am2 (ofK rules (j:Int)) st)]) st14 (lookE_stP (⟨⟨trivial,trivial⟩,trivial⟩)) mixed (by kernel_rfl)<|nx3 ?_;refine DP .r (fun _ hC=>PV.ixS sl41 ha_x4 rfl rfl (by omega))<|DP .r (fun _ hC=>VA agg35 (Ow.rng (As.gs hC.2.g0) (by rw [List.length_map];omega) ha_x4 hx3) .r)<|nx ?_;refine DP .r (fun _ hC=>V1 one9 (Blk.range (As.gb hC.2.g4)) .r)<|?_;refine DW.e rfl rfl rfl rfl rfl (fun wx hC hF=>OX.ment kk35 und106 zvv9 (As.gm hC.2.g3) rfl rfl rfl fun wy st vv sx hsz hke=>?_)<|?_
    ·
     have hg:=hat2.1 j hj2;rw [hg] at hke;rw [Option.getD_some,mput_self hg] at hke;exact ⟨⟨Nat.le_trans hC.1 sx.size,hC.2.same (A:=As.map Key.val b16 am2) (by simp) (sx.p.mono fun x _ hx=>by simpa [As.map] using hx) hke.km⟩,sx.p.mono (fun x _ hx=>fps_mem (A:=As.map Key.val b16 am2) (by simp) (by simpa [As.map] using hx)),_,rfl,_,_,rfl,hke⟩
    rintro _ wz _ ⟨vv24,st24,rfl,_⟩;refine nx ?_;refine DW.nil<|?_;rintro w11 ⟨hsz24,st15⟩ ⟨hF7,_⟩;obtain ⟨_,_,he24,hke24⟩:=hF7;simp only [Value.tuple.injEq,Array.mk.injEq,List.cons.injEq,Value.int.injEq,true_and,and_true] at he24;have he25:=Int.natCast_inj.1 he24.2;rw [← he25] at hke24;refine WL.go rfl (OX.estore hke24 rfl rfl rfl fun w12 se24 _ hm24=>?_);have st16:=st15.p3.updM se24 hm24;rw [htv] at st16;refine nx9 ?_;refine EX.again (idx+1,L2,setV u1 j val,mput am2 (ofK rules (j:Int)) (.string (itoa (val:Int))),true,ml3,a_list,n_list,c_list) (Sub.k2 rfl rfl<|Sub.v<|Sub.v<|Sub.v<|Sub.nil) ⟨st16.p2.drop.p3.drop.p2.p2,⟨Nat.le_trans hidx2 hpl,hrd2.set hj2 hv1 hv2,hup2.set hR hrd2 hj2 hv1 hv2 hv3 hv4,hat2.set hR (fun k hk=>(hrd2.ring k hk).1) hj2 val,hm3,hle2.trans hle3,⟨Nat.le_of_lt (Nat.lt_of_lt_of_le hps hp3.1),fun _=>Nat.lt_of_lt_of_le hps hp3.1⟩,(fun h=>by cases h),trivial⟩⟩ (by first | (simp only [];omega) | omega)
   simp at g110
   rw [htv] at g110;have g110:u1 j=val:=itoa_inj (by have:=hrd2.le j;omega) (by omega) g110;refine nx8 ?_
   refine EX.again (idx+1,L2,u1,am2,ch2,ml3,a_list,n_list,c_list) (Sub.k2 rfl rfl<|Sub.v<|Sub.v<|Sub.v<|Sub.nil) ⟨st14.p1.drop.p3.drop,⟨Nat.le_trans hidx2 hpl,hrd2,hup2,hat2,hm3,hle2.trans hle3,hp3,fun h m k hm hk=>by
      obtain ⟨e1,e2⟩:=hc2 h;subst e1
      by_cases e:m=idx
      ·
       subst e;rw [hLj] at hk
       simp at hk;subst hk
       exact hv5 (g110 ▸ rfl)
      exact hset1 e2 m k (by omega) hk,trivial⟩⟩ (by first | (simp only [];omega) | omega)
  simp at g27
  refine nx5 ?_;refine EX.again (L1,u1,am1,ch1,ml2,a_list,n_list,c_list) (Sub.k2 rfl rfl<|Sub.v<|Sub.v<|Sub.nil) ⟨st8,⟨hrd1,hup1,hat1,hm2,hle2,fun h j hj=>by obtain ⟨m,hm,rfl⟩:=List.mem_iff_getElem.1 (show j∈L1 from hj);exact hset1 h m _ (by omega) (getElem_some hm),trivial⟩⟩ (by simp only [];cases ch1 <;> simp at hp1 ⊢ <;> omega)
 have g23:ch=false:=g23;have hset:=hch g23;have hdone:=hrd.done hR hset;refine nx6 ?_;have hnl7:=((As.gs st7.g0)).len;rw [List.length_map] at hnl7;have hL7:=hrd.len;refine nx7 ?_;refine WC.loopS1 (σ:=Nat × (List (Key × Value))) (kvs:=fun (i7,ml7)=>[(0,.pointer (some ⟨D.s,0,none⟩)),(4,.map (some b16)),(120,.slice a_list n_list c_list),(121,.int .i64 (n_list:Int)),(122,.int .i64 (i7:Int))]) (F:=fun (i7,ml7)=>[As.map Key.val D.m ml7]) (I:=fun (i7,ml7)=>(i7≤L.length)∧(MemoOk rules x.inputs ml7)∧(MLe ml ml7)∧(∀m j,m<i7→L[m]?=some j→mget ml7 (ofK rules (j:Int))=some (.string (valOf rules x.inputs (ofK rules (j:Int)))))∧True) (μ:=fun (i7,ml7)=>L.length - i7) (0,ml1) (st7.p1) (Sub.k4 rfl rfl rfl rfl<|Sub.v<|Sub.nil) (⟨by omega,hm1,hle1,fun m j h=>by omega,trivial⟩)<|?_;rintro ⟨i7,ml7⟩ w6 st8 ⟨hi7,hm7,hle7,hd7,_⟩;simp only [CA,NA] at st8 hi7 hm7 hle7 hd7 ⊢;refine nx6 ?_;refine WC.cd (fun g123=>?_) fun g123=>?_
 ·
  simp at g123
  have hi72:i7<L.length:=by omega
  obtain ⟨j,hLj0⟩:∃j,L[i7]=j:=⟨_,rfl⟩
  have hLj:L[i7]?=some j:=by rw [getElem_some hi72,hLj0]
  have hjm:j∈L:=hLj0 ▸ List.getElem_mem hi72;obtain ⟨hjl,hjr⟩:=hrd.ring j hjm;have hatj:=hat.1 j hjm;rw [hdone j hjm,← valI_ring hR hjl hjr,← valOf_ofK hR hjl] at hatj;refine nx5 ?_
  have hx7:(L.map fun j:Nat=>ofK rules (j:Int))[i7]?=some (ofK rules (j:Int)):=by rw [List.getElem?_map,hLj];rfl
  obtain ⟨b_x7,ha_x7⟩:=Ow.addr (As.gs st8.g1) hx7;refine nx ?_;refine WP .r (PV.ixS sl41 ha_x7 rfl rfl (by omega))<|WP .r (VA agg35 (Ow.rng (As.gs st8.g1) (by rw [List.length_map];omega) ha_x7 hx7) .r)<|?_;refine WL.al st8 fun b15 w7 nw15 hb15 st9=>?_;refine WL.go rfl (OX.stW sz35 (As.gb st9.g0) rfl rfl rfl rfl rfl fun w8 ss7 _ hs7=>?_);have st10:=st9.updB ss7 hs7;refine nx2 ?_;have hN28:=st10.fplt;refine WC.drawnS (m:=8) (E:=lookE []) st10 (lookE_st (trivial)) mixed (by kernel_rfl)<|nx3 ?_;refine DP .r (fun _ hC=>V1 one106 (Blk.range (As.gb hC.2.g6)) .r)<|DP .r (fun _ hC=>VA agg35 (Blk.range (As.gb hC.2.g0)) .r)<|nx ?_;refine DP .r (fun _ hC=>VA agg35 (Blk.range (As.gb hC.2.g0)) .r)<|DP .r (fun _ hC=>PV.lookV kk35 und106 zvv9 (As.gm hC.2.g3) (hatj) rfl rfl)<|DW.nil<|?_;rintro w9 ⟨hsz28,st11⟩ _;refine WL.go rfl (OX.put kk35 und106 (As.gm st11.g1) rfl rfl rfl fun w10 smp8 hmp8=>?_);have st12:=st11.p1.updM smp8 hmp8;refine nx7 ?_
  refine EX.again (i7+1,_) (Sub.k4 rfl rfl rfl rfl<|Sub.v<|Sub.nil) ⟨st12.p1.drop,⟨by omega,hm7.put _,hle7.trans (MLe.put hm7 _),fun m k hm hk=>by
     rw [mget_put]
     split
     ·
      rename_i e;rw [e]
     rename_i e
     refine hd7 m k ?_ hk
     rcases Nat.lt_or_ge m i7 with h | h
     ·
      exact h
     have:m=i7:=by omega
     subst this;rw [hLj] at hk;simp at hk;subst hk;exact absurd rfl e,trivial⟩⟩ (by first | (simp only [];omega) | omega)
 simp at g123
 obtain ⟨mm,hmm,hmi⟩:=List.mem_iff_getElem.1 hrd.first;have hfin:=hd7 mm i0 (by omega) (by rw [getElem_some hmm,hmi]);refine nx4 ?_;refine EX.ret0 (.inr rfl) rfl<|?_;exact ⟨ml7,rfl,hm7,hle7,hfin,st8.p5.k2⟩
theorem val_rule {rules:List Rule} {x:Bas} {D:SD} (hR:rulesOk rules):∀i,i<rules.length→ValC rules x D (ofK rules (i:Int)):=by
 intro i
 induction i using Nat.strongRecOn with
 | _ i ih=>
  intro hi;have h24:=hR.len
  have hlow:∀a,isCyclic a=false→(isInput a=true∨∃m,m<i∧m<rules.length∧a=ofK rules (m:Int))→ValC rules x D a:=fun a _ ha w M Z ml h1 h2 h3=>by
   rcases ha with ha | ⟨m,hm,hml,rfl⟩
   ·
    exact valueIn_calls h1 h2 h3 ha
   exact ih m hm hml w M Z ml h1 h2 h3
  have hlo:∀a,(isInput a=true∨∃m,m<i∧m<rules.length∧a=ofK rules (m:Int))→ValC rules x D a:=fun a ha w M Z ml h1 h2 h3=>by
   rcases ha with ha | ⟨m,hm,hml,rfl⟩
   ·
    exact valueIn_calls h1 h2 h3 ha
   exact ih m hm hml w M Z ml h1 h2 h3
  intro w M Z ml h1 h2 h3;refine valueR_calls h1 h2 h3 hR hi (fun hc w M Z ml h1 h2 h3=>?_) fun a ha hc=>hlo a ?_
  ·
   rw [isCyclic_ofK hi (by omega)] at hc;refine solve_calls h1 h2 h3 hR hi hc fun j a hre hma hcy=>hlow a hcy ?_;have hj:=reach_ring hi hc hre;have hlo:=reach_lo hR hre;have hle:=blockLo_le rules i
   rcases hma with ⟨n,h4,rfl⟩ | ⟨m,h4,rfl,_,_,_,h5⟩
   ·
    exact .inl (isInput_cellK (by omega))
   rw [isCyclic_ofK h4 (by omega)] at hcy;exact .inr ⟨m,by have:=h5 hcy hj.2;omega,h4,rfl⟩
  rw [isCyclic_ofK hi (by omega)] at hc
  rcases ha with ⟨n,h4,rfl⟩ | ⟨m,h4,rfl,_,h5,_⟩
  ·
   exact .inl (isInput_cellK (by omega))
  exact .inr ⟨m,h5 hc,h4,rfl⟩
theorem val_calls {rules:List Rule} {x:Bas} {D:SD} (hR:rulesOk rules) {k:Key} (hk:Knd rules k):ValC rules x D k:=by
 cases hk with
 | cell h=>exact fun w M Z ml h1 h2 h3=>valueIn_calls h1 h2 h3 (isInput_cellK h)
 | rule h _=>exact val_rule hR _ h
end Go.Rc

