/- Walks over the program, part WK. Conditions: as each theorem says. -/
import Derived.Test.YthljjmhdkbeghaaGreatDoorIFacts
import Derived.Test.YthljjmhdkbeghaaGreatDoorIWH
import Derived.Test.YthljjmhdkbeghaaGreatDoorIBf
import Derived.Test.YthljjmhdkbeghaaGreatDoorIWI
import Derived.Test.YthljjmhdkbeghaaGreatDoorIWF
set_option linter.unusedVariables false
set_option linter.unusedSimpArgs false
set_option linter.unusedSectionVars false
namespace Go.Rc
open Go Go.Proofs
set_option maxHeartbeats 400000
set_option maxHeartbeats 1600000 in
theorem sorted_calls {l:List Key} {a:Option Addr} {n c:Nat} {w:World} {M Z A:Nat→Prop} (hst:St w M Z w []) (hl0:Rd RR.key 2 A w a n c l) (hA:∀x,A x→x<w.heap.size→Z x) (h6:l.length≤1000000):Calls Tryz.prog 80 #[.slice a n c] w fun e w'=>∃a' n' c',e=.returned (.slice a' n' c')∧St w M Z w' [As.os RR.key 35 2 a' n' c' (sortK l)]:=by
 have hl:Rd RR.key 2 Z w a n c l:=SR.mono hl0 hA fun _ _ h=>h
 have hlen:=hl.len;have hle:=hl.le;refine enter Tryz.func80 rfl Tryz.ntmps80 rfl<|?_;have st0:=hst;have st1:=st0.fact (As.mkro hl) (fun _ hx=>hx);have st2:=st1.newN RR.key 35 2;refine nx12 ?_;refine nx7 ?_;refine WC.loopS1 (σ:=Nat × (List Key) × (Option Addr) × Nat × Nat) (kvs:=fun (i,out,a_ho,n_ho,c_ho)=>[(3,.slice a_ho n_ho c_ho),(7,.slice a n c),(8,.int .i64 (n:Int)),(9,.int .i64 (i:Int))]) (F:=fun (i,out,a_ho,n_ho,c_ho)=>[As.os RR.key 35 2 a_ho n_ho c_ho (out)]) (I:=fun (i,out,a_ho,n_ho,c_ho)=>(i≤n)∧(out=sortK (l.take i))∧True) (μ:=fun (i,out,a_ho,n_ho,c_ho)=>n - i) (0,[],none,0,0) (st2) (Sub.v<|Sub.k2 rfl rfl<|Sub.v<|Sub.nil) (⟨by omega,rfl,trivial⟩)<|?_;rintro ⟨i,out,a_ho,n_ho,c_ho⟩ w1 st3 ⟨hi,hout,_⟩;simp only [CA,NA] at st3 hi hout ⊢;have hnl:=((As.gs st3.g0)).len
 have hol:out.length≤1000000:=by have:=sortK_len (l.take i);rw [← hout,List.length_take] at this;omega
 refine nx6 ?_;refine WC.cd (fun g10=>?_) fun g10=>?_
 ·
  simp at g10
  have hi2:i<l.length:=by omega
  refine nx5 ?_;obtain ⟨b_x1,o_x1,r_x1,ha_x1,hl_x1,hR_x1,hr_x1,hz_x1⟩:=Rd.at (As.gr st3.g1) hi2;have hR_x1:=RR.flat_eq hR_x1;subst hR_x1;have st4:=st3.fact (As.mkrg hz_x1 (st3.zlt _ hz_x1) hr_x1) (fun _ hx=>hx);refine nx ?_;refine WP .r (PV.ixS sl41 ha_x1 rfl rfl (by omega))<|WP .r (VA agg35 (As.grg st4.g0) .r)<|?_;refine WL.al st4 fun b5 w2 nw5 hb5 st5=>?_;refine WL.go rfl (OX.stW sz35 (As.gb st5.g0) rfl rfl rfl rfl rfl fun w3 ss0 _ hs0=>?_);have st6:=st5.updB ss0 hs0;refine nx9 ?_;refine WC.loopS1 (σ:=Nat) (kvs:=fun p=>[(3,.slice a_ho n_ho c_ho),(5,.pointer (some ⟨b5,0,none⟩)),(6,.int .i64 (p:Int)),(7,.slice a n c),(8,.int .i64 (n:Int)),(9,.int .i64 (i:Int))]) (F:=fun p=>[]) (I:=fun p=>(p≤out.length)∧(∀q x,q<p→out[q]?=some x→cmpK x l[i]<0)∧True) (μ:=fun p=>out.length - p) (0) (st6) (Sub.k2 rfl rfl<|Sub.v<|Sub.k2 rfl rfl<|Sub.cons rfl<|Sub.nil) (⟨by omega,fun q x h=>by omega,trivial⟩)<|?_;rintro p w4 st7 ⟨hp,hlt,_⟩;simp only [CA,NA] at st7 hp hlt ⊢;have hnl2:=((As.gs st7.g2)).len;refine nx2 ?_;refine WC.cut1S (t:=25) (v:=.bool (ltAt out p l[i])) st7 ?_<|?_
  ·
   have hN6:=st7.fplt;refine WC.drawnS (m:=10) (E:=lookE []) st7 (lookE_st (trivial)) mixed (by kernel_rfl)<|nx5 ?_;refine DW.gsplit (t:=17) rfl (fun g17=>?_) (fun g17=>?_)
   ·
    simp at g17
    have hp2:p<out.length:=by omega
    have hx2:=getElem_some hp2;obtain ⟨b_x2,ha_x2⟩:=Ow.addr (As.gs st7.g2) hx2
    have hq:ltAt out p l[i]=decide (cmpK out[p] l[i]<0):=by unfold ltAt;rw [hx2]
    refine nx2 ?_;refine DP .r (fun _ hC=>PV.ixS sl41 ha_x2 rfl rfl (by omega))<|DP .r (fun _ hC=>VA agg35 (Ow.rng (As.gs hC.2.g2) (by omega) ha_x2 hx2) .r)<|DP .r (fun _ hC=>VA agg35 (Blk.range (As.gb hC.2.g0)) .r)<|DW.nil<|?_;rintro w5 ⟨hsz6,st8⟩ _;refine WL.c0 (cmp_calls (k:=out[p]) (q:=l[i])) st8 fun w6 s6 st9=>?_;refine nx3 ?_;exact EX.meet1 14 rfl rfl rfl (by rw [hq]) (st9)
   simp at g17
   have hq:ltAt out p l[i]=false:=by unfold ltAt;rw [List.getElem?_eq_none (by omega)]
   refine nx5 ?_;refine DW.nil<|?_;rintro w5 ⟨hsz6,st8⟩ _;refine nx4 ?_;exact EX.meet1 14 rfl rfl rfl (by rw [hq]) (st8)
  intro w5 st8;refine nx ?_;refine WC.cd (fun g25=>?_) fun g25=>?_
  ·
   have hp2:p<out.length:=by
    rcases Nat.lt_or_ge p out.length with h | h
    ·
     exact h
    unfold ltAt at g25;rw [List.getElem?_eq_none h] at g25;cases g25
   have hcm:cmpK out[p] l[i]<0:=by unfold ltAt at g25;rw [getElem_some hp2] at g25;simpa using g25
   refine nx9 ?_;refine EX.again (p+1) (Sub.k2 rfl rfl<|Sub.v<|Sub.k2 rfl rfl<|Sub.cons rfl<|Sub.nil) ⟨st8,⟨by omega,below_succ (P:=fun _ x=>cmpK x l[i]<0) hp2 hlt hcm,trivial⟩⟩ (by first | (simp only [];omega) | omega)
  have hge:∀x,out[p]?=some x→0≤cmpK x l[i]:=fun x hx=>by unfold ltAt at g25;rw [hx] at g25;simp at g25;omega
  have hins:=insK_at out l[i] p hp hlt hge;refine nx6 ?_;refine WC.cut1S (t:=39) (v:=.bool (decide (out[p]?≠some l[i]))) st8 ?_<|?_
  ·
   have hN8:=st8.fplt;refine WC.drawnS (m:=10) (E:=lookE []) st8 (lookE_st (trivial)) mixed (by kernel_rfl)<|nx5 ?_;refine DW.gsplit (t:=32) rfl (fun g32=>?_) (fun g32=>?_)
   ·
    simp at g32
    have hq:out[p]?=none:=List.getElem?_eq_none (by omega);refine nx5 ?_;refine DW.nil<|?_;rintro w6 ⟨hsz8,st9⟩ _;refine nx3 ?_;exact EX.meet1 13 rfl rfl rfl (by first | (rw [hq];rfl) | (rw [hx2];simp)) (st9)
   simp at g32
   have hp2:p<out.length:=by omega
   have hx2:=getElem_some hp2;obtain ⟨b_x3,ha_x3⟩:=Ow.addr (As.gs st8.g2) hx2;refine nx2 ?_;refine DP .r (fun _ hC=>PV.ixS sl41 ha_x3 rfl rfl (by omega))<|DP .r (fun _ hC=>VA agg35 (Ow.rng (As.gs hC.2.g2) (by omega) ha_x3 hx2) .r)<|DP .r (fun _ hC=>VA agg35 (Blk.range (As.gb hC.2.g0)) .r)<|DW.nil<|?_;rintro w6 ⟨hsz8,st9⟩ _;refine WP .r (PV.neK keyt35 (p:=out[p]) (q:=l[i]) rfl rfl)<|nx2 ?_;exact EX.meet1 13 rfl rfl rfl (by first | (rw [hq];rfl) | (rw [hx2];simp)) (st9)
  intro w6 st9;refine nx ?_;refine WC.cd (fun g39=>?_) fun g39=>?_
  ·
   have g39:¬out[p]?=some l[i]:=by simpa using g39
   obtain ⟨N,hN⟩:∃N,N=w6.heap.size:=⟨_,rfl⟩;have hzN:=st9.zlt;have h0N:=st9.size;have hlN:=st9.fplt;have hnl3:=((As.gs st9.g2)).len;rw [← hN] at hzN h0N hlN;have hN9:=st9.fplt;refine WC.drawnT (m:=10) (fun j w w'=>match j with | 6=>Pfx N 35 (p*2) 2 w w' | _=>Chg [] w w') (E:=lookE [(3,fun v w'=>∃a c,v=.slice a p c∧(∀x∈oblk a,N≤x)∧(p=0→a=none)∧Ow RR.key 35 2 Z w' a p c (out.take p)),(5,fun v w'=>∃b,v=.slice (some ⟨b,0,none⟩) 1 1∧N≤b∧Blk w' b 35 l[i].cells),(6,fun v w'=>∃a c,v=.slice a (p+1) c∧(∀x∈oblk a,N≤x)∧Ow RR.key 35 2 Z w' a (p+1) c (out.take p++[l[i]]))]) st9 (lookE_stP (⟨⟨trivial,⟨fun _ _ _ _ _ s ⟨a,c,h1,h2,h3,h4⟩=>⟨a,c,h1,h2,h3,h4.ext s⟩,⟨fun _ _ _ _ _ s ⟨a,c,h1,h2,h3,h4⟩=>⟨a,c,h1,h2,h3,Pfx.ow s hzN h4⟩,trivial⟩⟩⟩,⟨⟨fun _ _ _ _ _ s ⟨b,h1,h2,h3⟩=>⟨b,h1,h2,h3.ext s⟩,⟨trivial,⟨fun _ _ _ _ _ s ⟨b,h1,h2,h3⟩=>⟨b,h1,h2,Pfx.blk (l:=l[i].cells) s h3⟩,trivial⟩⟩⟩,⟨⟨trivial,⟨trivial,⟨trivial,trivial⟩⟩⟩,trivial⟩⟩⟩)) mixed (by kernel_rfl)<|nx2 ?_;refine DP .r (fun _ hC=>PV.sliceH sl41 (Ow.rd (As.gs hC.2.g2) (by omega)) rfl rfl (by omega))<|?_;refine DW.e rfl rfl rfl rfl rfl (fun wx hC hF=>OX.appP (N:=N) (Z:=Z) ap41 rfl rfl rfl (OR.nil 0 wx 35 2 _) (by simp [oblk]) (SR.take (i:=p) (Ow.rd (As.gs hC.2.g2) (by omega)) (by omega)) (by omega) (by omega) (by rw [hN];exact hC.1) hzN 0 (fun c h=>absurd rfl h) fun a' c' wy h1 h2 h3 h4 h5=>⟨⟨Nat.le_trans hC.1 h5.size,hC.2.step h5⟩,h5,_,rfl,a',c',by rw [Nat.zero_add],h3,h4,by simpa using h1⟩)<|?_;rintro _ wz _ ⟨a3,c3,rfl,_,_,_⟩;refine DP .r (fun _ hC=>VA agg35 (Blk.range (As.gb hC.2.g0)) .r)<|?_;refine DW.e rfl rfl rfl rfl rfl (fun wx hC hF=>OX.bslice' (us:=l[i].cells) bs41_1 rfl rfl rfl rfl fun b wy nw hb=>⟨⟨Nat.le_trans hC.1 nw.ext.size,hC.2.step nw.ext⟩,nw.ext,_,rfl,b,rfl,by rw [hN];exact Nat.le_trans hC.1 nw.ge,hb⟩)<|?_;rintro _ wz _ ⟨b5x,rfl,_,_⟩
   refine DW.e rfl rfl rfl rfl rfl (fun wx hC hF=>by
    obtain ⟨⟨b',hb1,hb2,hb3⟩,⟨a',c',h1,h2,h3,h4⟩,_⟩:=hF;simp only [Value.slice.injEq,Option.some.injEq,Addr.mk.injEq,and_true,true_and] at hb1 h1;subst hb1;obtain ⟨rfl,rfl⟩:=h1;exact OX.appP (N:=N) (Z:=Z) ap41 rfl rfl rfl h4 h2 (SR.blk1 (A:=fun _=>True) (x:=l[i]) hb3 trivial rfl (by simp [Key.cells,Value.oneCell']) rfl) (by omega) (by omega) (by rw [hN];exact hC.1) hzN 2 (fun c h hc=>by have:p≠0:=fun e=>h (h3 e);omega) fun a' c' wy h1 h2 h3 h4 h5=>⟨⟨Nat.le_trans hC.1 h2.size,h2.st hC.2 hlN hzN h0N⟩,h2,_,rfl,a',c',rfl,h3,h1⟩) ?_
   rintro _ wz _ ⟨a6,c6,rfl,_,_⟩;refine nx2 ?_;refine DP .r (fun _ hC=>PV.sliceL sl41 (Ow.rd (As.gs hC.2.g2) (by omega)) rfl rfl (by omega))<|DW.nil<|?_;rintro w7 ⟨hsz9,st10⟩ ⟨hF6,⟨_,⟨_,_⟩⟩⟩;obtain ⟨_,_,he6,hge6,ho6⟩:=hF6;simp only [Value.slice.injEq,true_and] at he6;obtain ⟨rfl,rfl⟩:=he6;have st11:=st10.add (B:=As.os RR.key 35 2 a6 (p+1) c6 (out.take p++[l[i]])) ho6 hge6 hlN hzN h0N;refine WL.ap rfl rfl st11 (SR.drop (i:=p) (Ow.rd (As.gs st11.g3) (by omega)) (by omega)) fun a50 c'50 w8 hf50 hn50 st12=>?_;refine nx2 ?_;have st13:=st12.p3.drop;refine nx6 ?_;refine EX.again (i+1,_,a50,((p+1)+(n_ho - p)),c'50) (Sub.v<|Sub.k2 rfl rfl<|Sub.v<|Sub.nil) ⟨st13.p1.drop.p1.drop,⟨by omega,by rw [List.take_succ_eq_append_getElem hi2,sortK_snoc,← hout,hins,if_neg g39],trivial⟩⟩ (by first | (simp only [];omega) | omega)
  have g39:out[p]?=some l[i]:=by simpa using g39
  refine nx7 ?_;refine EX.again (i+1,_,a_ho,n_ho,c_ho) (Sub.v<|Sub.k2 rfl rfl<|Sub.v<|Sub.nil) ⟨st9.drop.drop,⟨by omega,by rw [List.take_succ_eq_append_getElem hi2,sortK_snoc,← hout,hins,if_pos g39],trivial⟩⟩ (by first | (simp only [];omega) | omega)
 simp at g10
 have hall:out=sortK l:=by rw [hout,List.take_of_length_le (by omega)]
 subst hall;refine nx12 ?_;refine EX.ret1 rfl rfl<|?_;exact ⟨_,_,_,rfl,st3.p1.drop⟩
theorem leads_calls {l:List Rec} {rev:Int} {k:Key} {a:Option Addr} {n c:Nat} {w:World} {M Z:Nat→Prop} (hst:St w M Z w []) (hl:Rd RR.rcd 8 Z w a n c l) (h6:l.length≤1000000):Calls Tryz.prog 177 #[.slice a n c,.int .i64 rev,k.val] w fun e w'=>∃b m Z',e=.returned (.map (some b))∧Zle w.heap.size Z Z'∧TrueOf m (LeadsTo l rev k)∧St w M Z' w' [As.map Key.val b m]:=by
 have hlen:=hl.len;have hle:=hl.le;refine enter Tryz.func177 rfl Tryz.ntmps177 rfl<|?_;have st0:=hst;have st1:=st0.fact (As.mkro hl) (fun _ hx=>hx);refine nx2 ?_;refine WL.go rfl (OX.box rfl rfl rfl fun b5 w1 nw5 hb5=>?_);have st2:=st1.newB nw5 hb5;refine nx5 ?_;refine WL.mm Key.val st2 fun b14 w2 nw14 hm14 st3=>?_;refine nx5 ?_;refine WP .r (VA agg35 st3.b1 .r)<|?_;refine WL.go rfl (OX.bslice' (us:=k.cells) bs41_1 rfl rfl rfl rfl fun b16 w3 nw16 hb16=>?_);have st4:=St.newS (R:=RR.key) (E:=35) (k:=2) (a:=some ⟨b16,0,none⟩) (n:=1) (c:=1) (xs:=[k]) st3 nw16.ext (OR.blk1 hb16 (Nat.zero_le _) rfl (by simp [Key.cells,Value.oneCell']) rfl) (fun x hx=>by simp [oblk] at hx;subst hx;exact nw16.ge);refine nx10 ?_;refine WC.loopS (σ:=Nat × (List Key) × (List (Key × Value)) × (Nat→Prop) × (Option Addr) × Nat × Nat) (kvs:=fun (i,ys,mm,Z1,a_list,n_list,c_list)=>[(0,.slice a n c),(1,.int .i64 rev),(7,.map (some b14)),(8,.slice a_list n_list c_list),(9,.int .i64 (i:Int))]) (F:=fun (i,ys,mm,Z1,a_list,n_list,c_list)=>[As.os RR.key 35 2 a_list n_list c_list (k::ys),As.map Key.val b14 mm]) (I:=fun (i,ys,mm,Z1,a_list,n_list,c_list)=>(i≤ys.length+1)∧(Zle w.heap.size Z Z1)∧(ys.Nodup)∧(∀x∈ys,LeadsTo l rev k x)∧(TrueOf mm (·∈ys))∧(∀(q:Nat) (y:Key),q<i→(k::ys)[q]?=some y→∀x,Ld l rev y x→x∈ys)∧True) (μ:=fun (i,ys,mm,Z1,a_list,n_list,c_list)=>l.length+1 - i) (Zf:=fun (i,ys,mm,Z1,a_list,n_list,c_list)=>Z1) (0,[],[],Z,(some ⟨b16,0,none⟩),1,1) (st4.p1.p1) (Sub.k2 rfl rfl<|Sub.cons rfl<|Sub.v<|Sub.v<|Sub.nil) (⟨by simp,Zle.refl _ _,by simp,by simp,TrueOf.nil,fun q y h=>by omega,trivial⟩)<|?_;rintro ⟨i,ys,mm,Z1,a_list,n_list,c_list⟩ w4 st5 ⟨hi,hZ,hnd,hsub,hmm,hcl,_⟩;simp only [CA,NA] at st5 hi hZ hnd hsub hmm hcl ⊢;have hnl:=((As.gs st5.g0)).len;rw [List.length_cons] at hnl
 have hyl:=nodup_keys_le hnd fun x hx=>open_key (hsub x hx).opn
 rw [List.length_map] at hyl;refine nx9 ?_;refine WC.cd (fun g20=>?_) fun g20=>?_
 ·
  simp at g20
  have hi2:i<(k::ys).length:=by simp;omega
  obtain ⟨y,hy0⟩:∃y,(k::ys)[i]=y:=⟨_,rfl⟩
  have hy:(k::ys)[i]?=some y:=by rw [getElem_some hi2,hy0]
  have hylt:y=k∨LeadsTo l rev k y:=by
   have:=List.getElem_mem hi2
   rw [hy0] at this
   rcases List.mem_cons.1 this with h | h
   ·
    exact .inl h
   exact .inr (hsub y h)
  refine nx5 ?_;obtain ⟨b_x1,ha_x1⟩:=Ow.addr (As.gs st5.g0) hy;refine nx4 ?_;refine WP .r (PV.ixS sl41 ha_x1 rfl rfl (by omega))<|WP .r (VA agg35 (Ow.rng (As.gs st5.g0) (by simp;omega) ha_x1 hy) .r)<|?_;have st6:=st5;refine WL.go rfl (OX.call cf117 rfl rfl ((findR_calls (k:=y) st6.e0 (As.gr st6.g3)).mono ?_));rintro _ w5 ⟨f1,f2,f3,rfl,hq4,hst5⟩;refine ⟨_,rfl,?_⟩;have st7:=St.leave (l0:=[]) st6 hst5 (Zle.refl _ _);simp only [CA,NA] at st7;have hge:=St.fresh0 hst5;have hsz:=st6.size;have st8:=st7.frzS (by omega);have hZ2:=hZ.trans (Zle.frz (F:=fun x=>x∈oblk f1) hge) hsz;have hqn:=((As.gr st8.g0)).len;refine nx3 ?_;refine WL.al st8 fun b10 w6 nw10 hb10 st9=>?_;refine WL.go rfl (OX.stW sz116 (As.gb st9.g0) rfl rfl rfl rfl rfl fun w7 ss0 _ hs0=>?_);have st10:=st9.updB ss0 hs0;refine nx6 ?_;refine WP .r (V1 one41 st10.b0 .r)<|nx5 ?_;refine WC.loopS1 (σ:=Nat × (List Key) × (List (Key × Value)) × (Option Addr) × Nat × Nat) (kvs:=fun (j,ys2,mm2,a_list,n_list,c_list)=>[(0,.slice a n c),(1,.int .i64 rev),(7,.map (some b14)),(8,.slice a_list n_list c_list),(9,.int .i64 (i:Int)),(33,.slice f1 f2 f3),(34,.int .i64 (f2:Int)),(35,.int .i64 (j:Int))]) (F:=fun (j,ys2,mm2,a_list,n_list,c_list)=>[As.os RR.key 35 2 a_list n_list c_list (k::ys2),As.map Key.val b14 mm2]) (I:=fun (j,ys2,mm2,a_list,n_list,c_list)=>(j≤f2)∧(ys <+: ys2)∧(ys2.Nodup)∧(∀x∈ys2,LeadsTo l rev k x)∧(TrueOf mm2 (·∈ys2))∧(∀q x,q<j→(recOf l y).reads[q]?=some x→openR l rev x=true→x∈ys2)∧True) (μ:=fun (j,ys2,mm2,a_list,n_list,c_list)=>f2 - j) (0,ys,mm,a_list,n_list,c_list) (st10.p3.p3) (Sub.k2 rfl rfl<|Sub.cons rfl<|Sub.v<|Sub.k2 rfl rfl<|Sub.cons rfl<|Sub.v<|Sub.nil) (⟨by omega,List.prefix_refl _,hnd,hsub,hmm,fun q x h=>by omega,trivial⟩)<|?_;rintro ⟨j,ys2,mm2,a_list,n_list,c_list⟩ w8 st11 ⟨hj,hpre,hnd2,hsub2,hmm2,hdone,_⟩;simp only [CA,NA] at st11 hj hpre hnd2 hsub2 hmm2 hdone ⊢;have hnl2:=((As.gs st11.g0)).len;rw [List.length_cons] at hnl2
  have hyl2:=nodup_keys_le hnd2 fun x hx=>open_key (hsub2 x hx).opn
  rw [List.length_map] at hyl2;refine nx6 ?_;refine WC.cd (fun g36=>?_) fun g36=>?_
  ·
   simp at g36
   have hj2:j<(recOf l y).reads.length:=by omega
   obtain ⟨x,hx0⟩:∃x,(recOf l y).reads[j]=x:=⟨_,rfl⟩;have hmx:=hmm2.get x (b:=decide (x∈ys2)) (by simp);refine nx5 ?_;obtain ⟨b_x2,o_x2,r_x2,ha_x2,hl_x2,hR_x2,hr_x2,hz_x2⟩:=Rd.at (As.gr st11.g3) hj2;have hR_x2:=RR.flat_eq hR_x2;subst hR_x2;have st12:=st11.fact (As.mkrg hz_x2 (st11.zlt _ hz_x2) hr_x2) (fun _ hx=>hx);rw [hx0] at hr_x2 st12;refine nx ?_;refine WP .r (PV.ixS sl41 ha_x2 rfl rfl (by omega))<|WP .r (VA agg35 (As.grg st12.g0) .r)<|?_;refine WL.al st12 fun b13 w9 nw13 hb13 st13=>?_;refine WL.go rfl (OX.stW sz35 (As.gb st13.g0) rfl rfl rfl rfl rfl fun w10 ss1 _ hs1=>?_);have st14:=st13.updB ss1 hs1;refine nx3 ?_;refine WC.cut1S (t:=48) (v:=.bool (openR l rev x && !decide (x∈ys2))) st14 ?_<|?_
   ·
    refine nx3 ?_;refine WP .r (VA agg35 st14.b0 .r)<|?_;refine WL.c0 (open_calls (k:=x) (As.gr st14.g7)) st14 fun w11 s11 st15=>?_;refine nx ?_;refine WL.gsplit (t:=43) rfl (fun g43=>?_) (fun g43=>?_)
    ·
     refine nx ?_;refine WP .r (VA agg35 st15.b0 .r)<|WP .r (PV.lookD kk35 und67 zvv4 (As.gm st15.g3) (hmx) rfl rfl)<|nx3 ?_;exact EX.meet1 11 rfl rfl rfl (by simp only [g43];first | rfl | simp) (st15)
    refine nx6 ?_;exact EX.meet1 11 rfl rfl rfl (by simp only [g43];first | rfl | simp) (st15)
   intro w11 st15;refine nx ?_;refine WC.cd (fun g48=>?_) fun g48=>?_
   ·
    simp at g48
    obtain ⟨hox,hnx⟩:=g48;have hld:Ld l rev y x:=⟨hx0 ▸ List.getElem_mem hj2,hox⟩
    have hxl:LeadsTo l rev k x:=by
     rcases hylt with rfl | h
     ·
      exact .one hld
     exact .step h hld
    have hnd3:(ys2++[x]).Nodup:=by rw [List.nodup_append];exact ⟨hnd2,by simp,fun a ha b hb=>by simp at hb;subst hb;rintro rfl;exact hnx ha⟩
    refine nx3 ?_;refine WP .r (VA agg35 st15.b0 .r)<|?_;refine WL.go rfl (OX.put kk35 und67 (As.gm st15.g3) rfl rfl rfl fun w12 smp2 hmp2=>?_);have st16:=st15.p3.updM smp2 hmp2;refine nx4 ?_;refine WP .r (VA agg35 st16.b1 .r)<|?_;refine WL.go rfl (OX.bslice' (us:=x.cells) bs41_1 rfl rfl rfl rfl fun b53 w13 nw53 hb53=>?_);have st17:=st16.newB nw53 hb53;refine WL.ap rfl rfl st17.p4 (SR.blk1 (A:=fun _=>True) (x:=x) (As.gb st17.g0) trivial rfl (by simp [Key.cells,Value.oneCell']) rfl) fun a54 c'54 w14 hf54 hn54 st18=>?_;refine nx8 ?_
    refine EX.again (j+1,ys2++[x],_,a54,(n_list+1),c'54) (Sub.k2 rfl rfl<|Sub.cons rfl<|Sub.v<|Sub.k2 rfl rfl<|Sub.cons rfl<|Sub.v<|Sub.nil) ⟨st18.p1.drop.p2.drop.p2.drop,⟨by omega,hpre.trans (List.prefix_append _ _),by rw [List.nodup_append];exact ⟨hnd2,by simp,fun a ha b hb=>by simp at hb;subst hb;rintro rfl;exact hnx ha⟩,fun z hz=>by
       rcases List.mem_append.1 hz with hz | hz
       ·
        exact hsub2 z hz
       simp at hz;subst hz;exact hxl,hmm2.put x,below_succ (P:=fun _ z=>openR l rev z=true→z∈ys2++[x]) hj2 (fun q z hq hz ho=>by simp [hdone q z hq hz ho]) (fun _=>by simp [← hx0]),trivial⟩⟩ (by first | (simp only [];omega) | omega)
   skip
   refine nx7 ?_;refine EX.again (j+1,ys2,mm2,a_list,n_list,c_list) (Sub.k2 rfl rfl<|Sub.cons rfl<|Sub.v<|Sub.k2 rfl rfl<|Sub.cons rfl<|Sub.v<|Sub.nil) ⟨st15.drop.drop,⟨by omega,hpre,hnd2,hsub2,hmm2,below_succ (P:=fun _ z=>openR l rev z=true→z∈ys2) hj2 hdone (fun ho=>by rw [hx0] at ho ⊢;simp [ho] at g48;exact g48),trivial⟩⟩ (by first | (simp only [];omega) | omega)
  simp at g36
  refine nx11 ?_
  refine EX.again (i+1,ys2,mm2,_,a_list,n_list,c_list) (Sub.k2 rfl rfl<|Sub.cons rfl<|Sub.v<|Sub.v<|Sub.nil) ⟨st11.p2.drop.p2.drop,⟨by have:=hpre.length_le;show i+1≤ys2.length+1;omega,hZ2,hnd2,hsub2,hmm2,fun q z hq hz x hx=>by
     rcases Nat.lt_or_ge q i with h | h
     ·
      have hz2:(k::ys)[q]?=some z:=by
       obtain ⟨t,rfl⟩:=hpre;rw [← List.cons_append,List.getElem?_append_left (by simp;omega)] at hz;exact hz
      exact hpre.subset (hcl q z h hz2 x hx)
     have e:q=i:=by omega
     subst e
     have hz2:some y=some z:=by rw [← hy,← hz];obtain ⟨t,rfl⟩:=hpre;rw [← List.cons_append,List.getElem?_append_left (by simp;omega)]
     simp at hz2;subst hz2
     obtain ⟨j,hj,rfl⟩:=List.mem_iff_getElem.1 hx.1;exact hdone j _ (by omega) (getElem_some hj) hx.2,trivial⟩⟩ (by first | (simp only [];omega) | omega)
 simp at g20
 have hfin:=leads_closed hsub fun y hy x hx=>by
  obtain ⟨q,hq,rfl⟩:=List.mem_iff_getElem.1 hy;exact hcl q _ (by simp at hq;omega) (getElem_some hq) x hx
 refine nx12 ?_;refine EX.ret1 rfl rfl<|?_;exact ⟨_,_,_,rfl,hZ,hmm.congr hfin,st5.p1.k1⟩
theorem of29_calls {l:List Rec} {rev:Int} {k:Key} {a:Option Addr} {n c:Nat} {w:World} {M Z:Nat→Prop} (hst:St w M Z w []) (hl:Rd RR.rcd 8 Z w a n c l) (h6:l.length≤100000):Calls Tryz.prog 147 #[.slice a n c,.int .i64 rev,k.val] w fun e w'=>∃a' n' c' Z',e=.returned (.slice a' n' c')∧Zle w.heap.size Z Z'∧St w M Z' w' [As.os RR.key 35 2 a' n' c' (groupV l rev k)]:=by
 have hlen:=hl.len;have hle:=hl.le;refine enter Tryz.func147 rfl Tryz.ntmps147 rfl<|?_;have st0:=St.rb hst;have st1:=st0.fact (As.mkro hl) (fun _ hx=>hx);refine nx2 ?_;refine WL.go rfl (OX.box rfl rfl rfl fun b5 w1 nw5 hb5=>?_);have st2:=st1.newB nw5 hb5;refine nx8 ?_;refine WP .r (VA agg35 st2.b0 .r)<|?_;refine WL.c0 (open_calls (k:=k) (As.gr st2.g1)) st2 fun w2 s2 st3=>?_;refine nx3 ?_;refine WC.cd (fun g15=>?_) fun g15=>?_
 ·
  simp at g15
  have hv:groupV l rev k=[k]:=by unfold groupV;rw [if_neg (by simp [g15])]
  refine nx2 ?_;refine WP .r (VA agg35 st3.b0 .r)<|?_;refine WL.go rfl (OX.bslice' (us:=k.cells) bs41_1 rfl rfl rfl rfl fun b17 w3 nw17 hb17=>?_);have st4:=St.newS (R:=RR.key) (E:=35) (k:=2) (a:=some ⟨b17,0,none⟩) (n:=1) (c:=1) (xs:=[k]) st3 nw17.ext (OR.blk1 hb17 (Nat.zero_le _) rfl (by simp [Key.cells,Value.oneCell']) rfl) (fun x hx=>by simp [oblk] at hx;subst hx;exact nw17.ge);refine nx5 ?_;refine EX.ret1 rfl rfl<|?_;exact ⟨_,_,_,_,rfl,Zle.refl _ _,by rw [hv];exact (St.wk st4.p1.drop.p1.drop)⟩
 simp at g15
 have hv:groupV l rev k=sortK (k::groupL l rev k l):=by unfold groupV;rw [if_pos g15]
 refine nx4 ?_;refine WP .r (VA agg35 st3.b0 .r)<|?_;refine WL.go rfl (OX.bslice' (us:=k.cells) bs41_1 rfl rfl rfl rfl fun b19 w3 nw19 hb19=>?_);have st4:=St.newS (R:=RR.key) (E:=35) (k:=2) (a:=some ⟨b19,0,none⟩) (n:=1) (c:=1) (xs:=[k]) st3 nw19.ext (OR.blk1 hb19 (Nat.zero_le _) rfl (by simp [Key.cells,Value.oneCell']) rfl) (fun x hx=>by simp [oblk] at hx;subst hx;exact nw19.ge);refine nx7 ?_;refine WP .r (VA agg35 st4.b1 .r)<|?_;have st5:=st4;refine WL.go rfl (OX.call cf177 rfl rfl ((leads_calls (k:=k) st5.e0 (As.gr st5.g2) (by omega)).mono ?_));rintro _ w4 ⟨bt,mt,Z1,rfl,hZ1,hmt,hst4⟩;refine ⟨_,rfl,?_⟩;have st6:=St.leave (l0:=[]) st5 hst4 hZ1;simp only [CA,NA] at st6;have hZ2:=hZ1.le st5.size;refine nx12 ?_;refine WC.loopS1 (σ:=Nat × (List Key) × (Option Addr) × Nat × Nat) (kvs:=fun (i,acc,a_out,n_out,c_out)=>[(0,.slice a n c),(1,.int .i64 rev),(5,.pointer (some ⟨b5,0,none⟩)),(7,.slice a_out n_out c_out),(8,.map (some bt)),(24,.slice a n c),(25,.int .i64 (n:Int)),(26,.int .i64 (i:Int))]) (F:=fun (i,acc,a_out,n_out,c_out)=>[As.os RR.key 35 2 a_out n_out c_out (acc)]) (I:=fun (i,acc,a_out,n_out,c_out)=>(i≤n)∧(acc=k::groupL l rev k (l.take i))∧True) (μ:=fun (i,acc,a_out,n_out,c_out)=>n - i) (0,[k],(some ⟨b19,0,none⟩),1,1) (st6.p1) (Sub.k2 rfl rfl<|Sub.cons rfl<|Sub.v<|Sub.k2 rfl rfl<|Sub.cons rfl<|Sub.v<|Sub.nil) (⟨by omega,by simp [groupL],trivial⟩)<|?_;rintro ⟨i,acc,a_out,n_out,c_out⟩ w5 st7 ⟨hi,hacc,_⟩;simp only [CA,NA] at st7 hi hacc ⊢;have hnl:=((As.gs st7.g0)).len;have hgl:=groupL_len l rev k (l.take i)
 have hal:acc.length≤100001:=by rw [hacc,List.length_cons];rw [List.length_take] at hgl;omega
 refine nx6 ?_;refine WC.cd (fun g27=>?_) fun g27=>?_
 ·
  simp at g27
  have hi2:i<l.length:=by omega
  have hto:=hmt.get l[i].key leadsB_iff;refine nx5 ?_;obtain ⟨b_x1,o_x1,r_x1,ha_x1,hl_x1,hR_x1,hr_x1,hz_x1⟩:=Rd.at (As.gr st7.g3) hi2;obtain ⟨q1,q2,q3,rfl,hkq,hk4⟩:=hR_x1;have st8:=st7.fact (As.mkrg hz_x1 (st7.zlt _ hz_x1) hr_x1) (fun _ hx=>hx);have st9:=st8.fact (As.mkro hkq) (fun _ hx=>hx);refine nx ?_;refine WP .r (PV.ixS sl29 ha_x1 rfl rfl (by omega))<|WP .r (VA agg116 (As.grg st9.g1) .r)<|?_;refine WL.al st9 fun b10 w6 nw10 hb10 st10=>?_;refine WL.go rfl (OX.stW sz116 (As.gb st10.g0) rfl rfl rfl rfl rfl fun w7 ss0 _ hs0=>?_);have st11:=st10.updB ss0 hs0;refine nx3 ?_;refine WC.cut1S (t:=48) (v:=.bool (grpB l rev k l[i])) st11 ?_<|?_
  ·
   have hN8:=st11.fplt;have hzN8:=st11.zlt;have h0N8:=st11.size;refine WC.drawnS (m:=17) (E:=lookE [(15,PMap w7.heap.size fun m=>TrueOf m (LeadsTo l rev l[i].key))]) st11 (lookE_st (⟨fun _ _ _ _ _ _ c h=>PMap.st hN8 c h,trivial⟩)) mixed (by kernel_rfl)<|nx ?_;refine DP .r (fun _ hC=>PV.ldM agg35 (Blk.range (As.gb hC.2.g0)) rfl rfl)<|DP .r (fun _ hC=>VA agg35 (Blk.range (As.gb hC.2.g5)) .r)<|DP .r (fun _ hC=>PV.neK keyt35 (p:=l[i].key) (q:=k) rfl rfl)<|nx ?_;refine DW.gsplit (t:=34) rfl (fun g34=>?_) (fun g34=>?_)
   ·
    refine nx2 ?_;refine DP .r (fun _ hC=>PV.ldM agg35 (Blk.range (As.gb hC.2.g0)) rfl rfl)<|DP .r (fun _ hC=>PV.lookD kk35 und67 zvv4 (As.gm hC.2.g4) (hto) rfl rfl)<|nx2 ?_;refine DW.gsplit (t:=40) rfl (fun g40=>?_) (fun g40=>?_)
    ·
     refine nx3 ?_;refine DP .r (fun _ hC=>PV.ldM agg35 (Blk.range (As.gb hC.2.g0)) rfl rfl)<|?_;refine DW.e rfl rfl rfl rfl rfl (fun wx hC hF=>OX.call cf177 rfl rfl ((leads_calls (k:=l[i].key) (hC.2.e0) (As.gr hC.2.g6) (by omega)).mono ?_))<|?_
     ·
      rintro _ wy ⟨b,m,Z',rfl,hZ',hm,hs'⟩;have hy:=hs'.cg0;exact ⟨_,rfl,⟨Nat.le_trans hC.1 hy.size,hC.2.step hy⟩,hy.p0,_,rfl,b,m,rfl,Nat.le_trans hC.1 (St.fresh0 hs' b rfl),As.gm hs'.g0,hm⟩
     rintro _ wz _ ⟨b45,_,rfl,_,_,_⟩;refine DP .r (fun _ hC=>VA agg35 (Blk.range (As.gb hC.2.g5)) .r)<|DW.nil<|?_;rintro w8 ⟨hsz8,st12⟩ ⟨hF15,_⟩;obtain ⟨_,m45,h1,hge45,hkm45,hm45⟩:=hF15
     simp at h1;subst h1
     have hld:=hm45.get k leadsB_iff;have st13:=st12.add (B:=As.map Key.val b45 m45) hkm45 (fun x hx=>by have h1:x=b45:=hx;subst h1;exact hge45) hN8 hzN8 h0N8;refine WP .r (PV.lookD kk35 und67 zvv4 (As.gm st13.g0) (hld) rfl rfl)<|nx2 ?_;exact EX.meet1 21 rfl rfl rfl (by unfold grpB;simp only [g34,g40];first | rfl | simp) (st13.drop)
    refine nx6 ?_;refine DW.nil<|?_;rintro w8 ⟨hsz8,st12⟩ _;refine nx3 ?_;exact EX.meet1 21 rfl rfl rfl (by unfold grpB;simp only [g34,g40];first | rfl | simp) (st12)
   refine nx12 ?_;refine DW.nil<|?_;rintro w8 ⟨hsz8,st12⟩ _;refine nx3 ?_;exact EX.meet1 20 rfl rfl rfl (by unfold grpB;simp only [g34];first | rfl | simp) (st12)
  intro w8 st12;refine nx ?_;refine WC.cd (fun g48=>?_) fun g48=>?_
  ·
   refine nx3 ?_;refine WP .r (PV.ldM agg35 st12.b0 rfl rfl)<|?_;refine WL.go rfl (OX.bslice' (us:=l[i].key.cells) bs41_1 rfl rfl rfl rfl fun b52 w9 nw52 hb52=>?_);have st13:=st12.newB nw52 hb52;refine WL.ap rfl rfl st13.p4 (SR.blk1 (A:=fun _=>True) (x:=l[i].key) (As.gb st13.g0) trivial rfl (by simp [Key.cells,Value.oneCell']) rfl) fun a53 c'53 w10 hf53 hn53 st14=>?_;refine nx8 ?_;refine EX.again (i+1,_,a53,(n_out+1),c'53) (Sub.k2 rfl rfl<|Sub.cons rfl<|Sub.v<|Sub.k2 rfl rfl<|Sub.cons rfl<|Sub.v<|Sub.nil) ⟨st14.p7.p7.p7.p3.k4,⟨by omega,by rw [hacc,groupL_take hi2,if_pos g48];rfl,trivial⟩⟩ (by first | (simp only [];omega) | omega)
  refine nx7 ?_;refine EX.again (i+1,_,a_out,n_out,c_out) (Sub.k2 rfl rfl<|Sub.cons rfl<|Sub.v<|Sub.k2 rfl rfl<|Sub.cons rfl<|Sub.v<|Sub.nil) ⟨st12.p6.p6.p6.p6.k4,⟨by omega,by rw [hacc,groupL_take hi2,if_neg (by simp [g48])],trivial⟩⟩ (by first | (simp only [];omega) | omega)
 simp at g27
 have hall:acc=k::groupL l rev k l:=by rw [hacc,List.take_of_length_le (by omega)]
 subst hall;refine nx6 ?_;have hgl:=groupL_len l rev k l;refine nx2 ?_;have hge_out:=St.fresh st7;have st8:=st7.frzS (by simp;omega);have st9:=st8;refine WL.go rfl (OX.call cf80 rfl rfl ((sorted_calls st9.e0 (As.gr st9.g0) (fun _ h _=>h) (by simp;omega)).mono ?_));rintro _ w6 ⟨f1,f2,f3,rfl,hst6⟩;refine ⟨_,rfl,?_⟩;have st10:=St.leave (l0:=[]) st9 hst6 (Zle.refl _ _);simp only [CA,NA] at st10;refine nx4 ?_;refine EX.ret1 rfl rfl<|?_;exact ⟨_,_,_,_,rfl,hZ2.trans (Zle.frz (F:=fun x=>x∈oblk a_out) hge_out) (Nat.le_refl _),by rw [hv];exact (St.wk st10.k1)⟩
set_option maxHeartbeats 400000
theorem valS_calls' {rules:List Rule} {x:Bas} {D:SD} {k:Key} {w:World} {M Z:Nat→Prop} (hR:rulesOk rules) (hk:Knd rules k) (hst:St w M Z w [As.solv Tryz.prog 157 rules x D]):Calls Tryz.prog 179 #[.pointer (some ⟨D.s,0,none⟩),k.val] w fun e w'=>e=.returned (.string (valOf rules x.inputs k))∧St w M Z w' [As.solv Tryz.prog 157 rules x D]:=by
 obtain ⟨hne,hb,⟨ml,hm,hkm⟩,hf⟩:=hst.g0;have h2:St w M Z w (As.blk D.s 157 (D.cells x)::As.map Key.val D.m ml::[]):=St.split hst hb hkm (fun y h=>.inl h) (fun y h=>.inr h) (fun y (h1:y=D.s) (h2:y=D.m)=>hne (h1.symm.trans h2));refine (val_calls hR hk _ _ _ _ (St.enter (rest:=[]) h2) hf hm).mono<|?_;rintro e w' ⟨ml',rfl,hm',_,h'⟩;have h3:St w M Z w' (As.blk D.s 157 (D.cells x)::As.map Key.val D.m ml'::[]):=St.leave (rest:=[]) (l0:=[_,_]) h2 h' (Zle.refl _ _);refine ⟨rfl,h3.join ⟨hne,h3.g0,⟨ml',hm',h3.g1⟩,(D.F Tryz.prog rules x).st h'.chg.size (fun y hy hl=>h'.chg.block y hl fun ⟨A,hA,ha⟩=>h2.zfp A hA y ha hy) hf⟩ fun y h=>h⟩
theorem changed_calls {rules:List Rule} {x b:Bas} {D:SD} {k:Key} {a1 a2:Option Addr} {n1 e1 n2 e2:Nat} {w:World} {M Z:Nat→Prop} (hR:rulesOk rules) (hk:Knd rules k) (hst:St w M Z w [As.solv Tryz.prog 157 rules x D]) (hi:Rd RR.inp 4 Z w a1 n1 e1 b.inputs) (hr:Rd RR.rcd 8 Z w a2 n2 e2 b.recs):Calls Tryz.prog 157 #[.pointer (some ⟨D.s,0,none⟩),.agg (b.row a1 n1 e1 a2 n2 e2).toArray,k.val] w fun e w'=>e=.returned (.int .i64 (changedV (valOf rules x.inputs) b k))∧St w M Z w' [As.solv Tryz.prog 157 rules x D]:=by
 refine enter Tryz.func157 rfl Tryz.ntmps157 rfl<|?_;have st0:=hst;have st1:=st0.fact (As.mkro hi) (fun _ hx=>hx);have st2:=st1.fact (As.mkro hr) (fun _ hx=>hx);refine nx2 ?_;refine WL.go rfl (OX.box rfl rfl rfl fun b4 w1 nw4 hb4=>?_);have st3:=st2.newB nw4 hb4;refine WL.go rfl (OX.box rfl rfl rfl fun b5 w2 nw5 hb5=>?_);have st4:=st3.newB nw5 hb5;refine nx6 ?_;refine WP .r (VA agg35 st4.b0 .r)<|?_;refine WL.c0 (input_calls (k:=k)) st4 fun w3 s3 st5=>?_;refine nx2 ?_;refine WC.cd (fun g10=>?_) fun g10=>?_
 ·
  skip
  refine nx2 ?_;refine WP .r (VA agg31 st5.b1 .r)<|WP .r (VA agg35 st5.b0 .r)<|?_;refine WL.c0 (since_calls (k:=k) (As.gr st5.g3) (As.gr st5.g2)) st5 fun w4 s4 st6=>?_;refine nx5 ?_;refine EX.ret1 rfl rfl<|?_;exact ⟨by unfold changedV;rw [if_pos g10],st6.p4.k1⟩
 refine nx5 ?_;refine WP .r (V1 one29 st5.b1 .r)<|WP .r (VA agg35 st5.b0 .r)<|?_;refine WL.go rfl (OX.call cf117 rfl rfl ((findR_calls0 (k:=k) (As.gr st5.g2)).mono ?_));rintro _ w4 ⟨f1,f2,f3,rfl,s4⟩;refine ⟨_,rfl,?_⟩;have st6:=st5.step s4;refine nx3 ?_;refine WL.al st6 fun b7 w5 nw7 hb7 st7=>?_;refine WL.go rfl (OX.stW sz116 (As.gb st7.g0) rfl rfl rfl rfl rfl fun w6 ss0 _ hs0=>?_);have st8:=st7.updB ss0 hs0;refine nx5 ?_;refine WC.cut1S (t:=36) (v:=.bool ((findR b.recs k).isSome && (decide ((recOf b.recs k).verified=b.revision) || decide (valOf rules x.inputs k=(recOf b.recs k).value)))) st8 ?_<|?_
 ·
  have hN4:=st8.fplt;refine WC.drawnS (m:=13) (E:=lookE [(10,fun v _=>v=.string (valOf rules x.inputs k))]) st8 (lookE_st (⟨fun _ _ _ _ _ _ _ h=>h,trivial⟩)) mixed (by kernel_rfl)<|nx2 ?_;refine DW.gsplit (t:=22) rfl (fun g22=>?_) (fun g22=>?_)
  ·
   refine nx ?_;refine DP .r (fun _ hC=>V1 one3 (Blk.range (As.gb hC.2.g0)) .r)<|nx ?_;refine DP .r (fun _ hC=>V1 one3 (Blk.range (As.gb hC.2.g2)) .r)<|nx2 ?_;refine DW.gsplit (t:=28) rfl (fun g28=>?_) (fun g28=>?_)
   ·
    refine nx5 ?_;refine DW.nil<|?_;rintro w7 ⟨hsz4,st9⟩ _;refine nx4 ?_;exact EX.meet1 18 rfl rfl rfl (by simp only [g22,g28];first | rfl | simp) (st9)
   refine nx ?_;refine DP .r (fun _ hC=>VA agg35 (Blk.range (As.gb hC.2.g1)) .r)<|?_;refine DW.e rfl rfl rfl rfl rfl (fun wx hC hF=>OX.call cf179 rfl rfl ((valS_calls' (k:=k) hR hk (hC.2.one (.tail _ (.tail _ (.tail _ (.tail _ (.tail _ (.head _)))))))).mono ?_))<|?_
   ·
    rintro _ wy ⟨rfl,hy⟩;exact ⟨_,rfl,⟨Nat.le_trans hC.1 hy.chg.size,hC.2.sameC M5 hy⟩,hy.chg.mono (fun _ _ hx=>fps_sub M5 hx),_,rfl,rfl⟩
   rintro _ wz _ rfl;refine nx ?_;refine DP .r (fun _ hC=>V1 one9 (Blk.range (As.gb hC.2.g0)) .r)<|DW.nil<|?_;rintro w7 ⟨hsz4,st9⟩ ⟨_,_⟩;refine nx4 ?_;exact EX.meet1 18 rfl rfl rfl (by simp only [g22,g28];first | rfl | simp) (st9)
  refine nx11 ?_;refine DW.nil<|?_;rintro w7 ⟨hsz4,st9⟩ _;refine nx4 ?_;exact EX.meet1 17 rfl rfl rfl (by simp only [g22];first | rfl | simp) (st9)
 intro w7 st9;refine nx ?_;refine WC.cd (fun g36=>?_) fun g36=>?_
 ·
  have hv:changedV (valOf rules x.inputs) b k=(recOf b.recs k).changed:=by unfold changedV;rw [if_neg (by simp [g10]),if_pos g36]
  refine nx3 ?_;refine WP .r (V1 one3 st9.b0 .r)<|nx5 ?_;refine EX.ret1 rfl rfl<|?_;exact ⟨by rw [hv],st9.p5.k1⟩
 have hv:changedV (valOf rules x.inputs) b k=b.revision:=by unfold changedV;rw [if_neg (by simp [g10]),if_neg (by simp [g36])]
 refine nx5 ?_;refine WP .r (V1 one3 st9.b2 .r)<|nx4 ?_;refine EX.ret1 rfl rfl<|?_;exact ⟨by rw [hv],st9.p5.k1⟩
theorem with_calls {rules:List Rule} {x b:Bas} {D:SD} {k:Key} {a1 a2:Option Addr} {n1 e1 n2 e2:Nat} {w:World} {M Z:Nat→Prop} (hR:rulesOk rules) (hk:Knd rules k) (hst:St w M Z w [As.solv Tryz.prog 157 rules x D]) (hi:Rd RR.inp 4 Z w a1 n1 e1 b.inputs) (hr:Rd RR.rcd 8 Z w a2 n2 e2 b.recs):Calls Tryz.prog 155 #[.pointer (some ⟨D.s,0,none⟩),.agg (b.row a1 n1 e1 a2 n2 e2).toArray,k.val] w fun e w'=>e=.returned (.int .i64 (changedV (valOf rules x.inputs) b k))∧St w M Z w' [As.solv Tryz.prog 157 rules x D]:=by
 refine enter Tryz.func155 rfl Tryz.ntmps155 rfl<|?_;have st0:=hst;have st1:=st0.fact (As.mkro hi) (fun _ hx=>hx);have st2:=st1.fact (As.mkro hr) (fun _ hx=>hx);refine nx2 ?_;refine WL.go rfl (OX.box rfl rfl rfl fun b4 w1 nw4 hb4=>?_);have st3:=st2.newB nw4 hb4;refine WL.go rfl (OX.box rfl rfl rfl fun b5 w2 nw5 hb5=>?_);have st4:=st3.newB nw5 hb5;refine nx6 ?_;refine WP .r (VA agg31 st4.b1 .r)<|WP .r (VA agg35 st4.b0 .r)<|?_;refine WL.go rfl (OX.call cf157 rfl rfl ((changed_calls (k:=k) hR hk (st4.one (.tail _ (.tail _ (.tail _ (.tail _ (.head _)))))) (As.gr st4.g3) (As.gr st4.g2)).mono ?_));rintro _ w3 ⟨rfl,hst3⟩;refine ⟨_,rfl,?_⟩;have st5:=st4.sameC M4 hst3;refine nx4 ?_;refine EX.ret1 rfl rfl<|?_;exact ⟨rfl,st5.p4.k1⟩
theorem answer_calls {rules:List Rule} {x b:Bas} {D:SD} {k:Key} {a1 a2:Option Addr} {n1 e1 n2 e2:Nat} {w:World} {M Z:Nat→Prop} (hR:rulesOk rules) (hk:Knd rules k) (hst:St w M Z w [As.solv Tryz.prog 157 rules x D]) (hi:Rd RR.inp 4 Z w a1 n1 e1 b.inputs) (hr:Rd RR.rcd 8 Z w a2 n2 e2 b.recs):Calls Tryz.prog 153 #[.pointer (some ⟨D.s,0,none⟩),.agg (b.row a1 n1 e1 a2 n2 e2).toArray,k.val] w fun e w'=>e=.returned (.string (answerV (valOf rules x.inputs) b k))∧St w M Z w' [As.solv Tryz.prog 157 rules x D]:=by
 refine enter Tryz.func153 rfl Tryz.ntmps153 rfl<|?_;have st0:=hst;have st1:=st0.fact (As.mkro hi) (fun _ hx=>hx);have st2:=st1.fact (As.mkro hr) (fun _ hx=>hx);refine nx2 ?_;refine WL.go rfl (OX.box rfl rfl rfl fun b4 w1 nw4 hb4=>?_);have st3:=st2.newB nw4 hb4;refine WL.go rfl (OX.box rfl rfl rfl fun b5 w2 nw5 hb5=>?_);have st4:=st3.newB nw5 hb5;refine nx6 ?_;refine WP .r (VA agg35 st4.b0 .r)<|?_;refine WL.c0 (cyclic_calls (k:=k)) st4 fun w3 s3 st5=>?_;refine nx2 ?_;refine WC.cd (fun g10=>?_) fun g10=>?_
 ·
  have hv:answerV (valOf rules x.inputs) b k=valOf rules x.inputs k:=by unfold answerV;rw [if_pos g10]
  refine nx3 ?_;refine WP .r (VA agg35 st5.b0 .r)<|?_;refine WL.go rfl (OX.call cf179 rfl rfl ((valS_calls' (k:=k) hR hk (st5.one (.tail _ (.tail _ (.tail _ (.tail _ (.head _))))))).mono ?_));rintro _ w4 ⟨rfl,hst4⟩;refine ⟨_,rfl,?_⟩;have st6:=st5.sameC M4 hst4;refine nx5 ?_;refine EX.ret1 rfl rfl<|?_;exact ⟨by rw [hv],st6.p4.k1⟩
 have hv:answerV (valOf rules x.inputs) b k=keptV b k:=by unfold answerV;rw [if_neg (by simp [g10])]
 refine nx4 ?_;refine WP .r (VA agg31 st5.b1 .r)<|WP .r (VA agg35 st5.b0 .r)<|?_;refine WL.c0 (kept_calls (k:=k) (As.gr st5.g3) (As.gr st5.g2)) st5 fun w4 s4 st6=>?_;refine nx12 ?_;refine nx2 ?_;refine EX.ret1 rfl rfl<|?_;exact ⟨by rw [hv];rfl,st6.p4.k1⟩
theorem mark_calls {x:Bas} {group:List Key} {dirty:Bool} {a1 a2 ag:Option Addr} {n1 e1 n2 e2 g eg:Nat} {w:World} {M Z:Nat→Prop} (hst:St w M Z w []) (hi:Rd RR.inp 4 Z w a1 n1 e1 x.inputs) (hr:Rd RR.rcd 8 Z w a2 n2 e2 x.recs) (hg:Rd RR.key 2 Z w ag g eg group) (h6:x.recs.length≤1000000) (h7:x.inputs.length≤1000000):Calls Tryz.prog 154 #[.agg (x.row a1 n1 e1 a2 n2 e2).toArray,.slice ag g eg,.bool dirty] w fun e w'=>∃a1' n1' e1' a2' n2' e2' Z',e=.returned (.agg ((markV x group dirty).row a1' n1' e1' a2' n2' e2').toArray)∧Zle w.heap.size Z Z'∧St w M Z' w' [As.os RR.inp 86 4 a1' n1' e1' (markV x group dirty).inputs,As.os RR.rcd 116 8 a2' n2' e2' (markV x group dirty).recs]:=by
 have hil:=hi.len;have hrl:=hr.len;refine enter Tryz.func154 rfl Tryz.ntmps154 rfl<|?_;have st0:=St.rb hst;have st1:=st0.fact (As.mkro hi) (fun _ hx=>hx);have st2:=st1.fact (As.mkro hr) (fun _ hx=>hx);have st3:=st2.fact (As.mkro hg) (fun _ hx=>hx);refine nx2 ?_;refine WL.go rfl (OX.box rfl rfl rfl fun b3 w1 nw3 hb3=>?_);have st4:=st3.newB nw3 hb3;refine WL.al st4 fun b6 w2 nw6 hb6 st5=>?_;refine nx4 ?_;refine WP .r (VA agg31 st5.b1 .r)<|?_;have st6:=st5;refine WL.go rfl (OX.call cf35 rfl rfl ((copyB_calls st6.e0 (As.gr st6.g4) (As.gr st6.g3) h6 h7).mono ?_));rintro _ w3 ⟨f1,f2,f3,f4,f5,f6,Z1,rfl,hZ1,hst3⟩;refine ⟨_,rfl,?_⟩;have st7:=St.leave (l0:=[]) st6 hst3 hZ1;simp only [CA,NA] at st7;have hZ2:=hZ1.le st6.size;have hrn:=((As.gs st7.g1)).len;refine WL.go rfl (OX.stW sz31 (As.gb st7.g3) rfl rfl rfl rfl rfl fun w4 ss0 _ hs0=>?_);have st8:=st7.p3.updB ss0 hs0;refine nx6 ?_;refine WP .r (V1 one29 st8.b0 .r)<|nx5 ?_;refine WC.loopS1 (σ:=Nat × (List Rec)) (kvs:=fun (i,acc)=>[(1,.slice ag g eg),(2,.bool dirty),(3,.pointer (some ⟨b3,0,none⟩)),(6,.pointer (some ⟨b6,0,none⟩)),(12,.int .i64 (f5:Int)),(13,.int .i64 (i:Int))]) (F:=fun (i,acc)=>[As.os RR.rcd 116 8 f4 f5 f6 acc]) (I:=fun (i,acc)=>(i≤f5)∧(acc=(x.recs.take i).map (markR x.revision group dirty)++x.recs.drop i)∧True) (μ:=fun (i,acc)=>f5 - i) (0,x.recs) (st8.p2) (Sub.k4 rfl rfl rfl rfl<|Sub.cons rfl<|Sub.v<|Sub.nil) (⟨by omega,by simp,trivial⟩)<|?_;rintro ⟨i,acc⟩ w5 st9 ⟨hin,hacc,_⟩;simp only [CA,NA] at st9 hin hacc ⊢
 have hal:acc.length=x.recs.length:=by rw [hacc];simp;omega
 refine nx6 ?_;refine WC.cd (fun g14=>?_) fun g14=>?_
 ·
  simp at g14
  have hi2:i<x.recs.length:=by omega
  have hmt:=markV_take (x:=x) (group:=group) (dirty:=dirty) hi2 (by omega);rw [← hacc] at hmt
  have hxa:acc[i]?=some x.recs[i]:=by rw [hacc,List.getElem?_append_right (by simp;omega)];simp [Nat.min_eq_left (by omega:i≤x.recs.length)]
  refine nx12 ?_;obtain ⟨b_x1,r_x1,ha_x1,hl_x1,hR_x1,hr_x1⟩:=Ow.at (As.gs st9.g0) (by omega) hxa;obtain ⟨q1,q2,q3,rfl,hkq1,hkq2⟩:=hR_x1
  have hset0:∀y,y=markR x.revision group dirty x.recs[i]→acc.set i y=(x.recs.take (i+1)).map (markR x.revision group dirty)++x.recs.drop (i+1):=fun y hy=>by rw [hy];exact hmt
  refine nx3 ?_;refine WP .r (V1 one29 st9.b1 .r)<|nx ?_;refine WP .r (PV.ixS sl29 ha_x1 rfl rfl (by omega))<|nx ?_;refine WP .r (PV.ldM agg35 hr_x1 rfl rfl)<|?_;refine WL.c0 (has_calls (k:=x.recs[i].key) (As.gr st9.g4)) st9 fun w6 s6 st10=>?_;refine nx3 ?_;refine WC.cd (fun g24=>?_) fun g24=>?_
  ·
   simp at g24
   have hsame:acc=(x.recs.take (i+1)).map (markR x.revision group dirty)++x.recs.drop (i+1):=by
    rw [← hmt]
    have:markR x.revision group dirty x.recs[i]=x.recs[i]:=by unfold markR;rw [if_neg g24]
    rw [this]
    apply List.ext_getElem?
    intro j;rw [List.getElem?_set]
    split
    ·
     rename_i e;subst e;rw [hxa];simp;omega
    rfl
   refine nx8 ?_;refine EX.again (i+1,acc) (Sub.k4 rfl rfl rfl rfl<|Sub.cons rfl<|Sub.v<|Sub.nil) ⟨st10,⟨by omega,hsame,trivial⟩⟩ (by first | (simp only [];omega) | omega)
  simp at g24
  refine nx7 ?_;refine WC.cd (fun g25=>?_) fun g25=>?_
  ·
   have g25:dirty=true:=g25;subst g25;have hset:=hset0 {x.recs[i] with dirty:=true} (by unfold markR;rw [if_pos g24];rfl);obtain ⟨b_x2,r_x2,ha_x2,hl_x2,hR_x2,hr_x2⟩:=Ow.at (As.gs st10.g0) (by omega) hxa;refine nx2 ?_;refine WP .r (V1 one29 st10.b1 .r)<|nx ?_;refine WP .r (PV.ixS sl29 ha_x2 rfl rfl (by omega))<|nx ?_;refine WL.go rfl (OX.stOf (i:=i) (f:=7) sz4 (As.gs st10.g0) ha_x2 hxa (by omega) rfl rfl rfl {x.recs[i] with dirty:=true} (fun r _ ⟨a,n,c,h1,h2,h3⟩=>⟨a,n,c,by rw [h1];rfl,h2,h3⟩) fun w7 s7 h7x=>?_);have st11:=st10.updS s7 h7x (fun x h=>.inl h);refine nx7 ?_;refine EX.again (i+1,_) (Sub.k4 rfl rfl rfl rfl<|Sub.cons rfl<|Sub.v<|Sub.nil) ⟨st11,⟨by omega,hset,trivial⟩⟩ (by first | (simp only [];omega) | omega)
  have g25:dirty=false:=g25;subst g25;have hset:=hset0 {x.recs[i] with verified:=x.revision} (by unfold markR;rw [if_pos g24];rfl);obtain ⟨b_x3,r_x3,ha_x3,hl_x3,hR_x3,hr_x3⟩:=Ow.at (As.gs st10.g0) (by omega) hxa;refine nx2 ?_;refine WP .r (V1 one29 st10.b1 .r)<|nx2 ?_;refine WP .r (V1 one3 st10.b1 .r)<|WP .r (PV.ixS sl29 ha_x3 rfl rfl (by omega))<|nx ?_;refine WL.go rfl (OX.stOf (i:=i) (f:=5) sz3 (As.gs st10.g0) ha_x3 hxa (by omega) rfl rfl rfl {x.recs[i] with verified:=x.revision} (fun r _ ⟨a,n,c,h1,h2,h3⟩=>⟨a,n,c,by rw [h1];rfl,h2,h3⟩) fun w7 s8 h8x=>?_);have st11:=st10.updS s8 h8x (fun x h=>.inl h);refine nx7 ?_;refine EX.again (i+1,_) (Sub.k4 rfl rfl rfl rfl<|Sub.cons rfl<|Sub.v<|Sub.nil) ⟨st11,⟨by omega,hset,trivial⟩⟩ (by first | (simp only [];omega) | omega)
 simp at g14
 have hall:acc=(markV x group dirty).recs:=by rw [hacc,List.take_of_length_le (by omega),List.drop_eq_nil_of_le (by omega)];simp [markV]
 subst hall;refine nx7 ?_;refine WP .r (VA agg31 st9.b1 .r)<|?_;refine WL.go rfl (OX.stW sz31 (As.gb st9.g3) rfl rfl rfl rfl rfl fun w6 ss1 _ hs1=>?_);have st10:=st9.p3.updB ss1 hs1;refine nx3 ?_;refine EX.retC agg31 rfl rfl st10.b0 rfl<|?_;exact ⟨_,_,_,_,_,_,_,rfl,hZ2,(St.wk st10.p1.p3.k2)⟩
theorem there_calls {s:ES} {E:EA} {sb bb xb:Nat} {k:Key} {w:World} {Z:Nat→Prop} (hx:Blk w xb 135 (E.cells sb bb s)) (hb:KM Key.val w bb s.busy) (hbt:∀k,mget s.busy k=none∨mget s.busy k=some (.bool true)) (hr:Rd RR.rcd 8 Z w E.a2 E.n2 E.c2 s.b.recs):Calls Tryz.prog 156 #[.pointer (some ⟨xb,0,none⟩),k.val] w fun e w'=>e=.returned (.bool (thereV s k))∧Chg [] w w':=by
 have hbk:(mget s.busy k).getD (.bool false)=.bool (s.on k):=by unfold ES.on;rcases hbt k with h | h <;> rw [h] <;> rfl
 refine enter Tryz.func156 rfl Tryz.ntmps156 rfl<|?_;have st0:St w (fun _=>False) (fun _=>False) w []:=St.start (by simp);refine nx2 ?_;refine WL.go rfl (OX.box rfl rfl rfl fun b3 w1 nw3 hb3=>?_);have st1:=st0.newB nw3 hb3;refine nx5 ?_;refine WC.cut1S (t:=20) (v:=.bool (isInput k || (s.on k && isCyclic k))) st1 ?_<|?_
 ·
  have hN1:=st1.fplt;refine WC.drawnS (m:=8) (E:=lookE [(1,fun v _=>v=.bool (isInput k))]) st1 (lookE_st (⟨fun _ _ _ _ _ _ _ h=>h,trivial⟩)) mixed (by kernel_rfl)<|?_;refine DP .r (fun _ hC=>VA agg35 (Blk.range (As.gb hC.2.g0)) .r)<|?_;refine DW.c0 (fun wx hC hF=>input_calls (k:=k))<|nx ?_;refine DW.gsplit (t:=9) rfl (fun g9=>?_) (fun g9=>?_)
  ·
   refine nx5 ?_;refine DW.nil<|?_;rintro w2 ⟨hsz1,st2⟩ ⟨_,_⟩;refine nx7 ?_;exact EX.meet1 15 rfl rfl rfl (by simp only [g9];first | rfl | simp) (st2)
  refine nx3 ?_;refine DP .r (fun _ hC=>V1 one67 (Blk.range (hx.ext (St.cg hC.2))) .r)<|DP .r (fun _ hC=>VA agg35 (Blk.range (As.gb hC.2.g0)) .r)<|DW.nil<|?_;rintro w2 ⟨hsz1,st2⟩ ⟨_,_⟩;refine WP .r (PV.lookD kk35 und67 zvv4 (hb.ext (St.cg st2)) (hbk) rfl rfl)<|nx ?_;refine WL.gsplit (t:=16) rfl (fun g16=>?_) (fun g16=>?_)
  ·
   refine WP .r (VA agg35 st2.b0 .r)<|?_;refine WL.c0 (cyclic_calls (k:=k)) st2 fun w3 s3 st3=>?_;refine nx3 ?_;exact EX.meet1 16 rfl rfl rfl (by simp only [g9,g16];first | rfl | simp) (st3)
  refine nx5 ?_;exact EX.meet1 16 rfl rfl rfl (by simp only [g9,g16];first | rfl | simp) (st2)
 intro w2 st2;refine nx ?_;refine WC.cd (fun g20=>?_) fun g20=>?_
 ·
  have hv:thereV s k=true:=by unfold thereV;simp only [Bool.or_eq_true,Bool.and_eq_true] at g20 ⊢;rcases g20 with h | h <;> simp [h]
  refine nx7 ?_;refine EX.ret1 rfl rfl<|?_;exact ⟨by rw [hv],(St.cg st2)⟩
 have hv:thereV s k=upNow s.b k:=by unfold thereV;simp only [Bool.or_eq_false_iff] at g20;rw [g20.1,g20.2];rfl
 refine nx3 ?_;have hN3:=st2.fplt;have hzN3:=st2.zlt;have h0N3:=st2.size;refine WC.drawnX (m:=11) [9] (E:=lookE [(6,fun v _=>∃f1 f2 f3,v=.tuple #[.agg ((recOf s.b.recs k).row f1 f2 f3).toArray,.bool (findR s.b.recs k).isSome]),(10,PB w2.heap.size 116 [.int .i64 0,.string ⟨#[]⟩,.string ⟨#[]⟩,.slice none 0 0,.int .i64 0,.int .i64 0,.int .i64 0,.bool false])]) st2 (lookE_st (⟨fun _ _ _ _ _ _ _ h=>h,⟨fun _ _ _ _ _ _ c h=>PB.st hN3 c h,trivial⟩⟩)) mixed (by kernel_rfl) rfl ?_;refine nx4 ?_;refine DP .r (fun _ hC=>PV.ld1 (j:=3) one29 (Blk.range (hx.ext (St.cg hC.2))) rfl rfl)<|DP .r (fun _ hC=>VA agg35 (Blk.range (As.gb hC.2.g0)) .r)<|?_;refine DW.e rfl rfl rfl rfl rfl (fun wx hC hF=>OX.call cf117 rfl rfl ((findR_calls0 (k:=k) (hr.ext (St.cg hC.2))).mono ?_))<|?_
 ·
  rintro _ wy ⟨f1,f2,f3,rfl,hy⟩;exact ⟨_,rfl,⟨Nat.le_trans hC.1 hy.size,hC.2.step hy⟩,hy.p0,_,rfl,⟨f1,f2,f3,rfl⟩⟩
 rintro _ wz _ ⟨f1,f2,f3,rfl⟩;refine nx3 ?_;refine DW.e rfl rfl rfl rfl rfl (fun wx hC hF=>OX.alloc zv116 rfl fun b wy nw hb=>⟨⟨Nat.le_trans hC.1 nw.ext.size,hC.2.step nw.ext⟩,nw.ext.p0,_,rfl,_,rfl,Nat.le_trans hC.1 nw.ge,hb⟩)<|?_;rintro _ wz _ ⟨b5,rfl,_,_⟩;refine DW.nil<|?_;rintro w3 ⟨hsz3,st3⟩ ⟨hF10,⟨_,_⟩⟩;have st4:=st3.addB hF10 hN3 hzN3 h0N3;refine WL.go rfl (OX.stW sz116 (As.gb st4.g0) rfl rfl rfl rfl rfl fun w4 ss0 _ hs0=>?_);have st5:=st4.updB ss0 hs0;refine nx ?_;refine WL.nil (EX.np ?_);refine nx2 ?_;refine WC.cut1Se (t:=4) (v:=.bool (upNow s.b k)) st5 ?_<|?_
 ·
  have hN4:=st5.fplt;refine WC.drawnS (m:=9) (E:=lookE []) st5 (lookE_st (trivial)) mixed (by kernel_rfl)<|nx2 ?_;refine DW.gsplit (t:=32) rfl (fun g32=>?_) (fun g32=>?_)
  ·
   refine nx ?_;refine DP .r (fun _ hC=>V1 one3 (Blk.range (As.gb hC.2.g0)) .r)<|nx4 ?_;refine DP .r (fun _ hC=>PV.ld1 (j:=1) one3 (Blk.range (hx.ext (St.cg hC.2))) rfl rfl)<|DW.nil<|?_;rintro w5 ⟨hsz4,st6⟩ _;refine nx4 ?_;exact EX.meet1e 13 rfl rfl rfl (by unfold upNow;simp only [g32];first | rfl | simp) (st6)
  refine nx7 ?_;refine DW.nil<|?_;rintro w5 ⟨hsz4,st6⟩ _;refine nx4 ?_;exact EX.meet1e 13 rfl rfl rfl (by unfold upNow;simp only [g32];first | rfl | simp) (st6)
 intro w5 st6;refine nx2 ?_;refine EX.ret1 rfl rfl<|?_;exact ⟨by rw [hv],(St.cg st6)⟩
end Go.Rc

