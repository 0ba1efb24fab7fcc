/- Walks over the program, part WYk. Conditions: as each theorem says. -/
import Derived.Test.YtilldnlhckpbjaaGreatDoorQFacts
import Derived.Test.YtilldnlhckpbjaaGreatDoorQWYg
import Derived.Test.YtilldnlhckpbjaaGreatDoorQWN
import Derived.Test.YtilldnlhckpbjaaGreatDoorQWUa
import Derived.Test.YtilldnlhckpbjaaGreatDoorQWZr
import Derived.Test.YtilldnlhckpbjaaGreatDoorQBg
set_option linter.all false
namespace Go.Rc
open Go Go.Proofs Go.Proofs.Tryz
variable {v wb rn rc i r c e2 nl el n n1 e1 n2 cr ng eg:Nat}{rev:Int}{aD:List bW}{l:List Rec}{D:WD}{ra a a2 al a1 ar ag:Option Addr}{lf:Key→RL}{dq ml:List (Key × Value)}{bG:List Key}{f:Value}{w:World}{M Z A:Nat→Prop}{aa:List aG}{k:Key}{x0 x:cB}{S:SD}
set_option maxHeartbeats 400000
theorem Ay{f:bZ}{A:fo}{value:ByteArray}(d:St w M Z w [As.blk wb 95 (D.wc v rev ra rn rc),As.map Key.val D.m dq,As.eR 50 lf l,As.os RR.key 43 2 ra rn rc bG,As.os RR.key 43 2 A.a A.n A.c f.reads]) (g:cQ l lf dq) (h:f.reads.length≤4000) (hr:bG.length≤100000) (o:dq.length<4000):Calls prog 122 #[.pointer (some ⟨wb,0,none⟩),.agg (bZ.xu (f,A)).toArray,.string value] w fun e w'=>∃(q:RL) (a:Option Addr) (n c:Nat) (Z':Nat→Prop),e=.returned (.int .i64 0)∧fE w.heap.size Z Z'∧St w M Z' w' [As.blk wb 95 (D.wc v rev a n c),As.map Key.val D.m (cF dq f.key (.pointer (some ⟨q.b,0,none⟩))),As.eR 50 (sF lf f.key q) (eJ l (bY ⟨rev,aD,l⟩ f.key value f.reads)),As.os RR.key 43 2 a n c (bG++[f.key]),As.os RR.key 43 2 A.a A.n A.c f.reads]:=by
 cases j:ay l f.key with
 | none=>exact yt d g h hr j o
 | some r=>exact yu d g h hr j
theorem th{ae:List ByteArray}{B C:Nat→Prop}{r2:Nat}(d:k=aN aa (i:Int)) (ht:j5 prog A w) (b:ao aa) (hi:i<aa.length) (hr:ei B w a r c aa) (hl:Strs C w a2 r2 e2 ae) (hsz:∀s∈ae,s.size≤1000):CR prog 121 #[.slice a r c,k.val,.slice a2 r2 e2] w ((aM aa k ae).val):=by
 have e:=b.len;subst d;rw [cY hi (by omega)];exact jn ht b hi hr hl hsz
set_option maxHeartbeats 4000000 in
theorem Az{L:List (bZ × fo)}{f:bZ}{A:fo}(gJ:St w M Z w [As.map Key.val S.m ml,As.map Key.val S.q [],As.blk wb 95 (D.wc S.s rev ra rn rc),As.map Key.val D.m dq,As.eR 50 lf l,As.os RR.key 43 2 ra rn rc bG,As.os RR.iN 131 6 al nl el (L++[(f,A)]),As.many (tV 43 9 (L++[(f,A)]))]) (hf:(S.FV prog aa x0).p Z w) (Ie:Rd RR.aD 4 Z w D.a1 D.n1 D.c1 x0.ab) (XM:Rd RR.dM 4 Z w D.ar D.r D.cr aa) (hm:aJ aa x0.ab ml) (F:cQ l lf dq) (Q:ao aa) (hS:∀k,(valOf aa x0.ab k).size≤1000) (Fe:KR aa l) (hL6:L.length≤1000) (XN:bG.length≤100000) (Tj:dq.length<4000) (X:gP aa f) (hi:i<aa.length) (NF:f.key=aN aa (i:Int)) (hsz:∀s∈f.ae,s.size≤1000) (R:f.running=true):Calls prog 78 #[.pointer (some ⟨wb,0,none⟩),.slice al nl el,.func (.func 42) #[] #[]] w fun e w'=>∃(l':List Rec) (lf':Key→RL) (RC Y:List (Key × Value)) (L':List (bZ × fo)) (rk:List Key) (T:Int) (a SQ:Option Addr) (n c rn' rc':Nat) (Z':Nat→Prop),e=.returned (.tuple #[.slice a n c,.bool (decide (T=0)),.int .i64 T])∧FS aa (valOf aa x0.ab) ⟨rev,x0.ab,l⟩ (L.map Prod.fst) f ⟨rev,x0.ab,l'⟩ (L'.map Prod.fst) rk T∧(T=0→L'.map Prod.fst≠L.map Prod.fst++[f])∧cQ l' lf' RC∧aJ aa x0.ab Y∧eE ml Y∧fE w.heap.size Z Z'∧St w M Z' w' [As.map Key.val S.m Y,As.map Key.val S.q [],As.blk wb 95 (D.wc S.s rev SQ rn' rc'),As.map Key.val D.m RC,As.eR 50 lf' l',As.os RR.key 43 2 SQ rn' rc' (bG++rk),As.os RR.iN 131 6 a n c L',As.many (tV 43 9 L')]:=by
 have Rv:=(As.gs gJ.g6).len;rw [List.length_append,List.length_singleton] at Rv
 have Tk:((L++[(f,A)]).map Prod.fst)=L.map Prod.fst++[f]:=by simp
 have JO:=X.len;have wE:=X.fW.le Q;refine enter func78 rfl ntmps78 rfl<|?_;have aO:=gJ;have st1:=aO.fr Ie;have st2:=st1.fr XM;have lN:=st2.fact (B:=As.fz (S.FV prog aa x0)) hf (fun _ hx=>hx);have jl:=lN.qq;have U:=St.II jl;have LV:=((As.gs U.g0)).len;have hyn:=((As.gs U.g1)).len;refine gW ?_;obtain⟨jj,t⟩:=Ow.addr (As.gs U.g12) (cD L (f,A));refine cw ?_;refine WP .r ((PV.sub rfl rfl (by omega) (by omega)).cast (v':=.int .i64 (L.length:Int)) (congrArg (Value.int .i64) (by omega)))<|WP .r (PV.dR rh (i:=L.length) t rfl rfl (by omega))<|cw ?_;refine WC.cu (m:=14) [] [12] [0,1,2,3,4,5,6,7,8,9,10,11,12,13] [(13,.blk 142 [.bool false,.string ⟨#[]⟩,.int .i64 0,.string ⟨#[]⟩])] U (av.k4 M0 M1 M2 M3<|av.k4 M4 M5 M6 M7<|av.k4 M8 M9 nU pV<|av.cons sk<|av.nil) mixed (by kernel_rfl) (by kernel_rfl) rfl<|?_
 iterate 3 refine DG.a ?_
 refine(yM) kf SV.g8<|?_
 iterate 3 refine DG.a ?_
 refine DQ .r (fun H I J _ d G=>PV.wK ak (Ow.kl (As.gs (d.sv G).g12) (by rw [List.length_append,List.length_singleton];omega) t (cD L (f,A))) rfl rfl)<|?_
 iterate 3 refine DG.a ?_
 refine DQ .r (fun H I J _ d G=>V1 EB (Ow.kl (As.gs (d.sv G).g12) (by rw [List.length_append,List.length_singleton];omega) t (cD L (f,A))) .r)<|(gK) (fun w1 afh abO P XO=>?_);simp only [CA,NA] at P;refine OX.call I2 rfl rfl ((th NF ((As.gf P.g3)).1.2.2.2 Q hi (As.gr P.g4) (Ow.rd (As.gs P.g1) (by omega)) hsz).mono ?_);rintro _ w2 ⟨rfl,s2⟩;have ku:=P.step s2;refine⟨_,rfl,s2.size,_,rfl,_,_,_,ku,aC.k4<|aC.k4<|aC.k4<|aC.cons<|aC.nil,av.k4 M0 M1 M2 M3<|av.k4 M4 M5 M6 M7<|av.k4 M8 M9 nU pV<|av.cons sk<|av.nil,?_⟩;refine DG.side (s:=.blk 142 [.bool false,.string ⟨#[]⟩,.int .i64 0,.string ⟨#[]⟩]) rfl rfl rfl rfl rfl rfl (fun H I J su d=>OX.alloc nH rfl fun b wy y hb=>⟨y.ext.size,_,rfl,⟨b,rfl⟩,d.df y hb⟩)<|?_;rintro _ ⟨Ta,rfl⟩;refine(ly) ?_;intro w3 sS im;simp only [CM,NM,CA,NA,iK.it] at im;refine(dZ) fc im fun w4 nT rH o=>?_;refine WL.nil (EX.np ?_);refine(bp) dd o.b0<|(aX) (fun XP=>?_) fun XP=>?_
 ·
  have K:(aM aa f.key f.ae).done=true:=XP;refine bM ?_;have hN4:=o.bL;refine WC.dS (m:=6) o mixed<|cv ?_;refine DP .r (fun _ hC=>VA Eo (Ow.kl (As.gs hC.2.g13) (by rw [List.length_append,List.length_singleton];omega) t (cD L (f,A))) .r)<|(gX) ff St.g0<|(cM)<|?_;rintro w5 ⟨XQ,N⟩ _;have j:=N.p1.qt.qt.qt.qt;refine(cJ) PR (Ay (aD:=x0.ab) (f:=f) (A:=A) (value:=(aM aa f.key f.ae).value) j.e5 F (by omega) XN Tj) ?_;rintro _ w6 ⟨q,q1,q2,q3,Z1,rfl,yz,MI⟩;have z:=St.lv j MI yz;have sw:=yz.le j.size;refine(aX) (fun F0=>?_) fun F0=>?_
  ·
   exact cL F0
  refine fb ?_;refine WP .r ((PV.sub rfl rfl (by omega) (by omega)).cast (v':=.int .i64 (L.length:Int)) (congrArg (Value.int .i64) (by omega)))<|WP .r (PV.nX rh (i:=L.length) (Ow.rd (As.gs z.g13) (by rw [List.length_append,List.length_singleton];omega)) rfl rfl (by omega))<|fb ?_;have C:=z.BM;have E:=St.Kn C;refine EX.jd rfl (RS.tmp rfl<|RS.tmp rfl<|RS.tmp rfl<|RS.nil) rfl<|?_;exact⟨_,_,_,ml,L,[f.key],0,_,q1,_,_,_,_,_,rfl,FS.put R K,fun _ e=>by simpa using congrArg List.length e,(F.put (r:=bY ⟨rev,x0.ab,l⟩ f.key (aM aa f.key f.ae).value f.reads) (q:=q) (ck l _)),hm,eE.refl _,sw,E.p5.drop.p5.drop.p5.drop.p6.drop.p6.drop.p6.drop.p4.p4.p4.p4.p7.p7⟩
 have K:(aM aa f.key f.ae).done=false:=XP;obtain⟨hnx,T9⟩:=X.fW.next Q K;refine(ko) ak o.b0<|nx ?_;refine WL.c1 (u:=.int .i64 (bF ⟨rev,x0.ab,l⟩ (L.map Prod.fst++[f]) [] (aM aa f.key f.ae).ask)) (k8 (aD:=x0.ab) (As.gb o.g9) (As.gm o.g10) F (As.o7 o.g11) Fe (Ow.rd (As.gs o.g13) (by rw [List.length_append,List.length_singleton];omega)) T9.cx) (by rw [Tk]) o fun w5 s5 N=>?_;refine(aX) (fun XR=>?_) fun XR=>?_
 ·
  have Cd:bF ⟨rev,x0.ab,l⟩ (L.map Prod.fst++[f]) [] (aM aa f.key f.ae).ask=3:=by simpa using XR
  refine iM ?_;have j:=N.p3.p3.p3;have z:=St.GQ j;have C:=z.qq.sr (B:=As.os RR.key 43 2 ra rn rc (bG++[])) (by rw [List.append_nil]);refine EX.jd rfl (RS.tmp rfl<|RS.tmp rfl<|RS.tmp rfl<|RS.nil) rfl<|?_;exact⟨l,lf,dq,ml,(L++[(f,A)]),[],43,_,_,_,_,_,_,_,rfl,by simpa using FS.Nk (aa:=aa) R K Cd,fun h=>absurd h (by decide),F,hm,eE.refl _,fE.refl _ _,C.p2.drop.p2.drop.p2.drop.p2.drop.p7.p1.p7.p7.p7.p7.p7⟩
 have Cd:bF ⟨rev,x0.ab,l⟩ (L.map Prod.fst++[f]) [] (aM aa f.key f.ae).ask≠3:=by simpa using XR
 refine(aX) (fun Ny=>?_) fun Ny=>?_
 ·
  exact absurd (by simpa using Ny) (tW (x:=⟨rev,x0.ab,l⟩) (l:=(L.map Prod.fst++[f])) (k:=(aM aa f.key f.ae).ask))
 skip
 refine(aX) (fun XS=>?_) fun XS=>?_
 ·
  have V:bF ⟨rev,x0.ab,l⟩ (L.map Prod.fst++[f]) [] (aM aa f.key f.ae).ask=1:=by simpa using XS
  refine(ko) ak N.b0<|?_;have j:=N.BM;refine(cJ) Ln (k9 (k:=(aM aa f.key f.ae).ask) j.e1 (by rw [List.length_append,List.length_singleton];omega)) ?_;rintro _ w6 ⟨p1,p2,p3,rfl,MI⟩;have z:=St.lr j MI;refine gW ?_;have C:=z.p4.p4.p4;have E:=St.GQ C;have dQ:=E;have O:=St.D2 (g:=⟨(aM aa f.key f.ae).ask,false,0,[],[]⟩) dQ rfl rfl;have e4:=O.pC.sr (B:=As.os RR.key 43 2 ra rn rc (bG++[])) (by rw [List.append_nil]);refine EX.jd rfl (RS.tmp rfl<|RS.tmp rfl<|RS.tmp rfl<|RS.nil) rfl<|?_;exact⟨l,lf,dq,ml,_,[],0,_,_,_,_,_,_,_,rfl,by simpa using FS.push (aa:=aa) R K V,fun _ e=>by simp at e,F,hm,eE.refl _,fE.refl _ _,e4.p3.drop.p3.drop.p3.drop.p3.drop.p2.p1.p7.p7.p7.p7.p7⟩
 have V:bF ⟨rev,x0.ab,l⟩ (L.map Prod.fst++[f]) [] (aM aa f.key f.ae).ask≠1:=by simpa using XS
 refine cw ?_;refine WC.cu (m:=20) [1] [9,17,19] [2,3,4,5,6,7,8,9,14,15,16,17,10,11,12,13,18,19,0,1] [(8,.sl 43 1 (aM aa f.key f.ae).ask.cells),(18,.sl 9 1 [.string (cS (valOf aa x0.ab) ⟨rev,x0.ab,l⟩ (aM aa f.key f.ae).ask)])] N (av.k4 M0 M3 M4 M5<|av.cons M6<|av.cons sk<|av.cons yR<|av.nil) mixed (by kernel_rfl) (by kernel_rfl) rfl<|?_
 iterate 3 refine DG.a ?_
 refine DQ .r (fun H I J _ d G=>V1 fG (Ow.kl (As.gs (d.sv G).g6) (by rw [List.length_append,List.length_singleton];omega) t (cD L (f,A))) .r)<|(AR) ak SV.g0<|?_;refine DG.side (s:=.sl 43 1 (aM aa f.key f.ae).ask.cells) rfl rfl rfl rfl rfl rfl (fun H I J su d=>OX.aS (us:=(aM aa f.key f.ae).ask.cells) du rfl rfl rfl rfl fun b wy y hb=>⟨y.ext.size,_,rfl,⟨b,rfl⟩,d.df y hb⟩)<|?_;rintro _ ⟨XT,rfl⟩;refine(gK) (fun w6 Nw CO j pw=>?_);simp only [CA,NA] at j;refine OX.mX nG rfl rfl rfl (As.gs j.g1) (SR.dr (A:=fun _=>True) (x:=(aM aa f.key f.ae).ask) (show bJ _ XT _ _ from j.ok _ (.tail _ (.tail _ (.tail _ (.tail _ (.tail _ (.tail _ (.tail _ (.tail _ (.tail _ (.tail _ (.tail _ (.tail _ (.tail _ (.tail _ (pw _ (.head _))))))))))))))))) trivial rfl (by simp [Key.cells,Value.oneCell']) rfl) (by show(A.n+1)*_≤_;omega) (by show A.n+1≤_;omega) (Nat.zero_le _) fun a75 W w7 XU RD XV afi=>?_;have z:=j.p1.gN RD XU XV;refine⟨RD.size,_,rfl,_,_,_,z,aC.k4<|aC.k4<|aC.k4<|aC.k2<|aC.nil,av.k4 M1 M3 M4 M5<|av.cons M6<|av.cons sk<|av.cons yR<|av.nil,?_⟩
 iterate 2 refine DG.a ?_
 refine(AR) ak SV.g0<|(gK) (fun w8 afj abP C XW=>?_);simp only [CA,NA] at C;have E:=C.pC.pC.pC.pC.pC;refine OX.call PT rfl rfl ((Aw (k:=(aM aa f.key f.ae).ask) (L:=(L.map Prod.fst++[f])) E.e5 (As.gf E.g9) (As.gr E.g11) hm F Q hS T9 (mB V Cd)).mono ?_);rintro _ w9 ⟨dj,rfl,ss,pP,vK⟩;have dQ:=St.lr E vK;refine⟨_,rfl,vK.cq.size,_,rfl,_,_,_,dQ,aC.k4<|aC.k4<|aC.k4<|aC.k2<|aC.nil,av.k4 M6 M8 M9 nU<|av.cons pV<|av.cons sk<|av.cons yR<|av.nil,?_⟩
 iterate 3 refine DG.a ?_
 refine DQ .r (fun H I J _ d G=>V1 EB (Ow.kl (As.gs (d.sv G).g6) (by rw [List.length_append,List.length_singleton];omega) t (cD L (f,A))) .r)<|?_;refine DG.side (s:=.sl 9 1 [.string (cS (valOf aa x0.ab) ⟨rev,x0.ab,l⟩ (aM aa f.key f.ae).ask)]) rfl rfl rfl rfl rfl rfl (fun H I J su d=>OX.aS (us:=[.string (cS (valOf aa x0.ab) ⟨rev,x0.ab,l⟩ (aM aa f.key f.ae).ask)]) hY rfl rfl rfl rfl fun b wy y hb=>⟨y.ext.size,_,rfl,⟨b,rfl⟩,d.df y hb⟩)<|?_;rintro _ ⟨b84,rfl⟩;refine(gK) (fun lI afl abQ O MJ=>?_);simp only [CA,NA] at O;refine OX.mX Er rfl rfl rfl (As.gs O.g7) (SR.dr (A:=fun _=>True) (x:=(cS (valOf aa x0.ab) ⟨rev,x0.ab,l⟩ (aM aa f.key f.ae).ask)) (show bJ _ b84 _ _ from O.ok _ (.tail _ (.tail _ (.tail _ (.tail _ (.tail _ (.tail _ (.tail _ (.tail _ (.tail _ (.tail _ (.tail _ (.tail _ (.tail _ (.tail _ (MJ _ (.head _))))))))))))))))) trivial rfl (by simp [Value.oneCell']) rfl) (by show(A.n2+1)*_≤_;omega) (by show A.n2+1≤_;omega) (Nat.zero_le _) fun a85 MK mH XX s85 XY afm=>?_;have e4:=O.p7.gN s85 XX XY;refine⟨s85.size,_,rfl,_,_,_,e4,aC.k4<|aC.k4<|aC.k4<|aC.k2<|aC.nil,av.k4 M7 M8 M9 nU<|av.cons pV<|av.cons sk<|av.cons yR<|av.nil,?_⟩
 iterate 2 refine DG.a ?_
 refine(ly) ?_;intro pS Jb fh;simp only [CM,NM,CA,NA,iK.it] at fh;refine bM ?_;refine WL.go rfl (OX.GC (f:=4) Pc (As.gs fh.g15) t (by omega) rfl rfl rfl ((({f with reads:=f.reads++[(aM aa f.key f.ae).ask]}:bZ),(⟨a75,A.n+1,W,A.a2,A.n2,A.c2⟩:fo)):bZ × fo) (fun r h=>by rw [RR.bt h];rfl) fun rO Wc XZ=>?_);have eD:=fh.p15.gN Wc XZ (fun x h=>.inl h);refine bM ?_;refine WL.go rfl (OX.GC (f:=5) Pd (As.gs eD.g0) t (by omega) rfl rfl rfl ((({f with reads:=f.reads++[(aM aa f.key f.ae).ask],ae:=f.ae++[(cS (valOf aa x0.ab) ⟨rev,x0.ab,l⟩ (aM aa f.key f.ae).ask)]}:bZ),(⟨a75,A.n+1,W,a85,A.n2+1,MK⟩:fo)):bZ × fo) (fun r h=>by rw [RR.bt h];rfl) fun x2 X0 X1=>?_);have eU:=eD.gN X0 X1 (fun x h=>.inl h);refine WL.nil (EX.np ?_);refine kL ?_;have gY:=eU.pC.p4.qq;have gn:=St.GQ (f:=({f with reads:=f.reads++[(aM aa f.key f.ae).ask],ae:=f.ae++[(cS (valOf aa x0.ab) ⟨rev,x0.ab,l⟩ (aM aa f.key f.ae).ask)]}:bZ)) (A:=(⟨a75,A.n+1,W,a85,A.n2+1,MK⟩:fo)) gY;have gw:=gn.BM.sr (B:=As.os RR.key 43 2 ra rn rc (bG++[])) (by rw [List.append_nil]);refine EX.jd rfl (RS.tmp rfl<|RS.tmp rfl<|RS.tmp rfl<|RS.nil) rfl<|?_;exact⟨l,lf,dq,dj,L++[(({f with reads:=f.reads++[(aM aa f.key f.ae).ask],ae:=f.ae++[(cS (valOf aa x0.ab) ⟨rev,x0.ab,l⟩ (aM aa f.key f.ae).ask)]}:bZ),(⟨a75,A.n+1,W,a85,A.n2+1,MK⟩:fo))],[],0,_,_,_,_,_,_,_,rfl,by simpa using FS.read (aa:=aa) R K V Cd,fun _ e=>by have:=congrArg (fun l=>(l.map bZ.reads).flatten.length) e;simp at this,F,ss,pP,fE.refl _ _,gw.p3.drop.p3.drop.p8.drop.p8.drop.p8.drop.p8.drop.p2.p1.p7.p7.p7.p7.p7⟩
set_option maxHeartbeats 400000
set_option maxRecDepth 100000 in
theorem vP :CR prog 168 #[.int .u64 0] w (.int .i64 0):=by
 refine enter func168 rfl ntmps168 rfl<|?_;have aO:=St.s0 w;refine(aX) (fun g4=>?_) fun g4=>?_
 ·
  exact cL g4
 refine(aX) (fun g8=>?_) fun g8=>?_
 ·
  exact cL g8
 refine(aX) (fun g14=>?_) fun g14=>?_
 ·
  exact cL g14
 refine fj ?_;refine WP .r ((show PV prog _ _ _ _ (.int .u8 0) from⟨rfl,rfl,fun _ _ _ _=>rfl⟩))<|WP .r ((show PV prog _ _ _ _ (.int .u8 0) from⟨rfl,rfl,fun _ _ _ _=>rfl⟩))<|WP .r ((show PV prog _ _ _ _ (.int .i64 0) from⟨rfl,rfl,fun _ _ _ _=>rfl⟩))<|(bB) ?_;exact⟨rfl,(St.cg aO)⟩
theorem sb :CR prog 125 #[.int .u64 0] w (.int .i64 0):=by
 refine enter func125 rfl ntmps125 rfl<|?_;have aO:=St.s0 w;refine fj ?_;refine WC.ef rfl<|(eY) (vP) aO fun w1 s1 st1=>?_;refine(bB) ?_;exact⟨rfl,(St.cg st1)⟩
theorem yA :CR prog 170 #[.slice a 0 c,.int .i64 0,.int .i64 0,f] w (.tuple #[]):=by
 refine enter func170 rfl ntmps170 rfl<|?_;have aO:=St.s0 w;refine gW ?_;refine WC.bj (σ:=Unit) (db:=fun u=>[(0,.slice a 0 c),(1,.int .i64 0),(2,.int .i64 0),(3,f),(8,.int .i64 1)]) (F:=fun u=>[]) (I:=fun u=>True) (μ:=fun u=>0) (()) (aO) Sub.t (trivial)<|?_;rintro u w1 st1 _;simp only [CA,NA] at st1 ⊢;refine(aX) (fun g14=>?_) fun g14=>?_
 ·
  exact cL g14
 refine cw ?_;refine EX.wH (.inr rfl) rfl<|?_;exact⟨rfl,(St.cg st1)⟩
theorem yB :CR prog 128 #[.slice a 0 c,.int .i64 0,.int .i64 0,.int .i64 0,f] w (.tuple #[]):=by
 refine enter func128 rfl ntmps128 rfl<|?_;have aO:=St.s0 w;refine iM ?_;refine WC.bj (σ:=Unit) (db:=fun u=>[(0,.slice a 0 c),(1,.int .i64 0),(2,.int .i64 0),(3,.int .i64 0),(4,f),(10,.bool true),(11,.bool true)]) (F:=fun u=>[]) (I:=fun u=>True) (μ:=fun u=>0) (()) (aO) Sub.t (trivial)<|?_;rintro u w1 st1 _;simp only [CA,NA] at st1 ⊢;refine aT ?_;refine(aX) (fun b=>?_) fun b=>?_
 ·
  refine(eY) (yA (f:=f)) st1 fun w2 s2 st2=>?_;refine fb ?_;refine EX.wH (.inl rfl) rfl<|?_;exact⟨rfl,(St.cg st2)⟩
 exact cL b
set_option maxRecDepth 100000 in
theorem vQ :CR prog 85 #[.slice a 0 c,f] w (.tuple #[]):=by
 refine enter func85 rfl ntmps85 rfl<|?_;have aO:=St.s0 w;refine iM ?_;refine WP .r ((show PV prog _ _ _ _ (.int .u64 0) from⟨rfl,rfl,fun _ _ _ _=>rfl⟩))<|(eY) (sb) aO fun w1 s1 st1=>?_;refine(eY) (yB (f:=f)) st1 fun w2 s2 st2=>?_;refine nx ?_;refine EX.wH (.inr rfl) rfl<|?_;exact⟨rfl,(St.cg st2)⟩
theorem yC :CR prog 159 #[.slice a 0 c,.int .i64 0,.int .i64 0,f] w (.tuple #[]):=by
 refine enter func159 rfl ntmps159 rfl<|?_;have aO:=St.s0 w;refine gW ?_;refine WC.bj (σ:=Unit) (db:=fun u=>[(0,.slice a 0 c),(1,.int .i64 0),(2,.int .i64 0),(3,f),(8,.int .i64 1)]) (F:=fun u=>[]) (I:=fun u=>True) (μ:=fun u=>0) (()) (aO) Sub.t (trivial)<|?_;rintro u w1 st1 _;simp only [CA,NA] at st1 ⊢;refine(aX) (fun g14=>?_) fun g14=>?_
 ·
  exact cL g14
 refine cw ?_;refine EX.wH (.inr rfl) rfl<|?_;exact⟨rfl,(St.cg st1)⟩
theorem yD :CR prog 124 #[.slice a 0 c,.int .i64 0,.int .i64 0,.int .i64 0,f] w (.tuple #[]):=by
 refine enter func124 rfl ntmps124 rfl<|?_;have aO:=St.s0 w;refine iM ?_;refine WC.bj (σ:=Unit) (db:=fun u=>[(0,.slice a 0 c),(1,.int .i64 0),(2,.int .i64 0),(3,.int .i64 0),(4,f),(10,.bool true),(11,.bool true)]) (F:=fun u=>[]) (I:=fun u=>True) (μ:=fun u=>0) (()) (aO) Sub.t (trivial)<|?_;rintro u w1 st1 _;simp only [CA,NA] at st1 ⊢;refine aT ?_;refine(aX) (fun b=>?_) fun b=>?_
 ·
  refine(eY) (yC (f:=f)) st1 fun w2 s2 st2=>?_;refine fb ?_;refine EX.wH (.inl rfl) rfl<|?_;exact⟨rfl,(St.cg st2)⟩
 exact cL b
set_option maxRecDepth 100000 in
theorem vR :CR prog 81 #[.slice a 0 c,f] w (.tuple #[]):=by
 refine enter func81 rfl ntmps81 rfl<|?_;have aO:=St.s0 w;refine iM ?_;refine WP .r ((show PV prog _ _ _ _ (.int .u64 0) from⟨rfl,rfl,fun _ _ _ _=>rfl⟩))<|(eY) (sb) aO fun w1 s1 st1=>?_;refine(eY) (yD (f:=f)) st1 fun w2 s2 st2=>?_;refine nx ?_;refine EX.wH (.inr rfl) rfl<|?_;exact⟨rfl,(St.cg st2)⟩
set_option maxHeartbeats 400000
theorem vS{l:List (Rec × RL)}(b:St w M Z w [As.os RR.zD 50 8 a n c l]) (hn:l.length≤1000000):Calls prog 81 #[.slice a n c,.func (.func 82) #[] #[]] w fun e w'=>e=.returned (.tuple #[])∧∃l',l'.Perm l∧(l'.Pairwise fun x y=>¬bl y.1.key x.1.key<0)∧St w M Z w' [As.os RR.zD 50 8 a n c l']:=by
 by_cases h:l=[]
 ·
  have hl:=(As.gs b.g0).len;subst h;have hl:n=0:=hl;subst hl;refine vR.mono<|?_;rintro e w' ⟨rfl,hc⟩;exact⟨rfl,[],.nil,.nil,b.step hc⟩
 exact vH b h hn
set_option maxHeartbeats 1600000 in
theorem vT(gJ:St w M Z w [As.blk wb 95 (D.wc v rev ra rn rc),As.map Key.val D.m dq,As.eR 50 lf l]) (Ie:Rd RR.aD 4 Z w D.a1 D.n1 D.c1 aD) (H:cQ l lf dq) (hs:mR l) (h6:l.length≤4000) (h7:aD.length≤4000):Calls prog 44 #[.pointer (some ⟨wb,0,none⟩)] w fun e w'=>∃(a1 a2:Option Addr) (n1 e1 n2 e2:Nat) (Z':Nat→Prop),e=.returned (.agg (cB.row ⟨rev,aD,l⟩ a1 n1 e1 a2 n2 e2).toArray)∧fE w.heap.size Z Z'∧St w M Z' w' [As.blk wb 95 (D.wc v rev ra rn rc),As.os RR.aD 80 4 a1 n1 e1 aD,As.os RR.iV 50 8 a2 n2 e2 l]:=by
 refine enter func44 rfl ntmps44 rfl<|?_;have aO:=gJ;have st1:=aO.fr Ie;refine(gx) st1 fun b2 w1 Td CC st2=>?_;refine(ko) cc st2.b2<|(gx) st2 fun b3 w2 Nu CY lN=>?_;refine(dZ) kW lN fun w3 nT rH jl=>?_;refine gW ?_;refine WP .r (PV.ld1 (j:=2) i7 jl.b3 rfl rfl)<|?_;have X:=jl;refine(cJ) Pu (mc X.e0 (As.gr X.g2) (by omega)) ?_;rintro _ w4 ⟨o1,o2,o3,rfl,sa⟩;have jr:=St.lr X sa;refine nx ?_;refine WL.s1 jr.p1 fun w5 _ ku=>?_;refine nx ?_;refine WL.s1 ku fun w6 _ J=>?_;refine cw ?_;have Y:=((As.gm J.g5)).nodup;refine(bp) ey J.b4<|?_;refine WL.go rfl (OX.range eA (As.gm J.g5) rfl rfl fun K w7 sI Mu Xb=>?_);have jZ:=J.p5;have fw:=jZ.iL (B:=As.J7 Key.val K D.m dq dq none) (sI.p.mono (fun x _ d=>by cases d)) Xb (fun x d=>by rcases d with h | h;exact .inr (h ▸ Mu);exact .inl h);refine cv ?_;have eC:=fw.fV RR.zD 50 8;have eQ:=eC.fact (B:=As.fz (oh [])) oh.nil (fun _ d=>d);refine WC.nf (σ:=(List (Key × Value)) × (Option (Key × Value)) × (List (Rec × RL)) × (Option Addr) × Nat × Nat × (Nat→Prop)) (db:=fun(left,cur,L,g,o,s,z)=>[(2,.pointer (some ⟨b2,0,none⟩)),(3,.pointer (some ⟨b3,0,none⟩)),(22,.pointer (some ⟨K,0,none⟩))]) (F:=fun(left,cur,L,g,o,s,z)=>[As.J7 Key.val K D.m dq left cur,As.blk b3 32 [.int .i64 rev,.slice o1 o2 o3,.slice g o s],As.os RR.zD 50 8 g o s L,As.fz (oh L)]) (I:=fun(left,cur,L,g,o,s,z)=>(Ea l dq left L)∧(∀q∈left,q∈dq)∧(fE w.heap.size Z z)∧True) (μ:=fun(left,cur,L,g,o,s,z)=>left.length) (Zf:=fun(left,cur,L,g,o,s,z)=>z) (dq,none,[],none,0,0,_) (eQ.p1.p3.p3) Sub.t (⟨Ea.start,fun _ h=>h,fE.refl _ _,trivial⟩)<|?_;rintro⟨left,cur,L,g,o,s,z⟩ w8 N ⟨O,Mv,sw,_⟩;simp only [CA,NA] at N O Mv sw ⊢;have hLn:=((As.gs N.g2)).len;have hLl:=O.len H Y;refine bM ?_;refine WL.go rfl (OX.next ((As.Gz N.g0)) rfl rfl fun rN Fm w9 sN hN Xd=>?_);have dX:=N;have C:=dX.iL (B:=As.J7 Key.val K D.m dq Fm rN) (sN.p.mono (fun x _ d=>by simp at d;exact .inl d)) Xd (fun x d=>.inl d);refine WP .r (PV.ext rfl (Ba _))<|(aX) (fun g24=>?_) fun g24=>?_
 ·
  obtain⟨p,rfl⟩:=Option.isSome_iff_exists.1 g24;obtain⟨P,vp⟩:=p;obtain⟨jN,Q,rfl⟩:=hN;have HQ:=Mv _ (List.mem_of_getElem? Q);obtain⟨r1,E⟩:=(H.key (k:=P)).1 (List.mem_map.2 ⟨_,HQ,rfl⟩);have Tl:=H.yes E
  have hvp:vp=.pointer (some ⟨(lf P).b,0,none⟩):=by rw [(qj Y).2 HQ] at Tl;exact Option.some.inj Tl
  subst hvp;refine dp ?_;refine WP .r (PV.entry (As.Gz C.g0) rfl)<|cw ?_;have Ig:=(((As.o7 C.g8)).1 _ _ E).2.2;have G:=C.fact (As.Gj (((((As.o7 C.g8)).1 _ _ E).2.1))) (fun _ d=>d);have afo:=G.size;refine WC.cu (m:=7) [] [5,6] [2,3,4,5,6,0,1] [] G (av.k4 M0 M1 M2 M3<|av.k4 M4 M5 M6 M7<|av.cons M8<|av.cons M9<|av.nil) mixed (by kernel_rfl) (by kernel_rfl) rfl<|?_
  iterate 2 refine DG.a ?_
  refine DQ .r (fun wx Zx Rx _ mM uq=>VA fI (bJ.range ((As.o7 (mM.sv uq).g9).1 _ _ E).1) .r)<|(gK) (fun lI My Ax R mg=>?_);simp only [CA,NA] at R;have u:=R;refine OX.call Lo rfl rfl ((mL u.e0 (As.gr u.g0) Ig).mono ?_);rintro _ mH ⟨q1,T,U,rfl,sc⟩;have V:=St.lr u sc;have hgq:=St.gV sc;have X2:=u.size;have W:=V.eX (by omega);have Ih:=sw.trans (fE.wt (F:=fun x=>x∈bA q1) hgq) X2;refine⟨_,rfl,sc.cq.size,_,rfl,_,_,_,W,aC.k4<|aC.k4<|aC.k2<|aC.cons<|aC.nil,av.k4 M1 M2 M3 M4<|av.k4 M5 M6 M7 M8<|av.cons M9<|av.cons nU<|av.nil,?_⟩;refine(gK) (fun pS W9 Mr gY Fl=>?_);simp only [CA,NA] at gY;refine OX.aS (us:=(Rec.uY ((r1,(⟨0,q1,T,U⟩:RL)):Rec × RL))) Et rfl rfl rfl rfl fun H6 rO CP Mp=>?_;have gn:=gY.df CP Mp;refine⟨CP.ext.size,_,rfl,_,_,_,gn,aC.k4<|aC.k4<|aC.k4<|aC.nil,av.k4 M2 M3 M4 M5<|av.k4 M6 M7 M8 M9<|av.cons nU<|av.cons pV<|av.nil,?_⟩;refine(yM) kg SV.g2<|(ly)<|?_;intro x2 vt gw;simp only [CM,NM,CA,NA,iK.it] at gw;refine WL.ap rfl rfl gw.p5 (SR.dr (A:=fun _=>True) (x:=((r1,(⟨0,q1,T,U⟩:RL)):Rec × RL)) (As.gb gw.g0) trivial rfl (Rec.Kp _) rfl) fun Tb H7 x3 Q7 Q8 ic=>?_;refine nx ?_;refine WL.s1 ic.p5 fun vq _ eb=>?_;refine WL.nil (EX.np ?_);have e7:=eb.fact (B:=As.fz (oh (L++[(r1,(⟨0,q1,T,U⟩:RL))]))) (oh.snoc (As.gf eb.g6) (As.gr eb.g3) Ig) (fun _ d=>d);have gS:=e7.p7.drop;refine nx ?_;refine EX.again (left.eraseIdx jN,some (P,.pointer (some ⟨(lf P).b,0,none⟩)),L++[(r1,(⟨0,q1,T,U⟩:RL))],_,_,_,_) Sub.t ⟨gS.p3.drop.p3.drop.p3.drop.p2.p2.p3,⟨O.next Q E,fun q hq=>Mv q (List.mem_of_mem_eraseIdx hq),Ih,trivial⟩⟩ (by simp only [];rw [List.length_eraseIdx_of_lt (List.getElem?_eq_some_iff.1 Q).1];have:=(List.getElem?_eq_some_iff.1 Q).1;omega)
 have Bf:rN=none:=by simpa using g24
 subst Bf;obtain⟨rfl,rfl⟩:=hN;refine(bp) kg C.b1<|?_;have G:=C.p2;refine(cJ) Vw (vS G.e1 (by omega)) ?_;rintro _ lI ⟨rfl,L2,sn,BR,ur⟩;have R:=St.lr G ur;have hLf:=O.done H Y hs sn BR;have u:=R;have V:=u.conv (B:=As.os RR.iV 50 8 g o s l) (hLf ▸ oh.iV (As.gs u.g0) (fun y hy=>(As.gf u.g3) y (sn.mem_iff.1 hy))) (fun _ h=>h);refine(bP) cc V.b2<|(dZ) kW V.p5 fun mH Bt wu W=>?_;refine(kp) cc W.b0<|?_;exact⟨o1,g,o2,o3,o,s,_,rfl,sw,W.p1.p5.p7.k3⟩
set_option maxHeartbeats 400000
theorem ti(z:St w M Z w []) (B:Rd RR.aD 4 Z w a1 n1 e1 x.ab) (hr:Rd RR.iV 8 Z w a2 n2 e2 x.ai):Calls prog 28 #[.agg (x.row a1 n1 e1 a2 n2 e2).toArray,k.val] w fun e w'=>e=.returned (.tuple #[.string (jw x k),.bool (gg x k)])∧St w M Z w' []:=by
 refine enter func28 rfl ntmps28 rfl<|?_;have aO:=z;have st1:=aO.fr B;have st2:=st1.fr hr;refine(dx) st2 fun b2 w1 I J C=>?_;refine(dx) C fun b3 w2 K L u=>?_;refine(bP) ak u.b0<|(eY) (bX (k:=k)) u fun w3 N b=>?_;refine(aX) (fun g9=>?_) fun g9=>?_
 ·
  have d:gg x k=true:=by unfold gg;rw [g9];rfl
  have j:jw x k=(bf x.ab k).value:=by unfold jw;rw [if_pos g9]
  refine(bP) cc b.b1<|(bP) ak b.b0<|(eY) (pr (As.gr b.g3) (As.gr b.g2)) b fun w4 O m=>?_;refine(wv) ?_;exact⟨by rw [d,j],m.k0⟩
 skip
 refine(bp) kg b.b1<|(bP) ak b.b0<|?_;have m:=b;refine(cJ) Vg (vB (k:=k) m.e0 (As.gr m.g2)) ?_;rintro _ w4 ⟨f1,f2,f3,rfl,_,E⟩;have F:=St.lr m E;refine(gx) F fun P w5 Q R G=>?_;refine(dZ) mF G fun w6 T U o=>?_;refine dp ?_;refine WC.eF (t:=28) (v:=.bool (!((ay x.ai k).isSome && decide ((aF x.ai k).aq=x.ad)))) o ?_<|?_
 ·
  refine(cO) (fun g22=>?_) (fun g22=>?_)
  ·
   exact(cp) (tG g22) (o)
  refine(bp) aP o.b0<|(bp) aP o.b3<|?_;exact(cp) (tG g22) (o)
 intro w7 p;refine(aX) (fun q=>?_) fun q=>?_
 ·
  have dw:aw k=false:=by simpa using g9
  have d:gg x k=false:=by
   unfold gg
   rw [dw,Bool.false_or,Bool.eq_false_iff];intro s;rw [Bool.and_eq_true] at s;have y:=s.1;have H:=of_decide_eq_true s.2;have g:=q
   simp at g
   exact g.elim (fun h=>by rw [h] at y;cases y) fun h=>h H
  have j:jw x k=⟨#[]⟩:=by unfold jw;rw [if_neg (by rw [dw];simp),if_neg (by rw [d];simp)]
  refine(wv) ?_;exact⟨by rw [d,j],p.k0⟩
 have dw:aw k=false:=by simpa using g9
 have d:gg x k=true:=by unfold gg;rw [dw,Bool.false_or];simpa using q
 have j:jw x k=(aF x.ai k).value:=by unfold jw;rw [if_neg (by rw [dw];simp),if_pos d]
 refine(bp) ff p.b0<|(wv) ?_;exact⟨by rw [d,j],p.k0⟩
set_option maxHeartbeats 400000
theorem se{pb:Nat}(hk:dU aa k) (b:bJ w pb 27 [.slice ar r cr]) (hu:ei A w ar r cr aa):CR prog 71 #[k.val,.pointer (some ⟨pb,0,none⟩)] w (.bool false):=by
 refine enter func71 rfl ntmps71 rfl<|?_;have aO:=St.s0 w;refine(dx) aO fun b2 w1 d e st1=>?_;refine dp ?_;refine WP .r (PV.ky kf (bJ.range (b.ext (St.cg st1))) rfl rfl)<|(bP) ak st1.b0<|(eY) (te hk (hu.ext (St.cg st1))) st1 fun w2 s2 st2=>?_;refine(bB) ?_;exact⟨rfl,(St.cg st2)⟩
theorem sf{l:List Key}(hu:ei A w ar r cr aa) (g:Rd RR.aD 4 Z w a1 n1 e1 x.ab) (hr:Rd RR.iV 8 Z w a2 n2 e2 x.ai) (h:ao aa) (j:qP aa x) (e:Rd RR.key 2 Z w ag ng eg l) (hk:∀k∈l,dU aa k) (o:l.length≤32):CR prog 38 #[.slice ar r cr,.agg (x.row a1 n1 e1 a2 n2 e2).toArray,.slice ag ng eg] w (.int .i64 0):=by
 have q:=e.len;refine enter func38 rfl ntmps38 rfl<|?_;have aO:=St.s0 w;refine(dx) aO fun b3 w1 s t st1=>?_;refine(dx) st1 fun b4 w2 y z st2=>?_;refine fb ?_;refine WP .r (PV.ky kf st2.b1 rfl rfl)<|(eY) (rR (hu.ext (St.cg st2)) h) st2 fun w3 B b=>?_;refine cw ?_;refine WC.ef rfl<|(bP) cc b.b0<|(eY) (oD (g.ext (St.cg b)) (hr.ext (St.cg b)) j) b fun w4 C d=>?_;refine cw ?_;refine WC.ef rfl<|(aX) (fun g15=>?_) fun g15=>?_
 ·
  exact absurd (of_decide_eq_true g15) (by omega)
 skip
 refine cv ?_;refine WP .r (PV.func (us:=[]) (vs:=[.pointer (some ⟨b3,0,none⟩)]) rfl rfl)<|?_;refine WL.c1 (u:=.bool false) (nR (p:=fun _=>false) Vp (e.ext (St.cg d)) (fun w1 h1 k hm=>se (hk k hm) (((As.gb d.g1)).ext h1) ((hu.ext (St.cg d)).ext h1))) (by rw [List.any_eq_false.2 (fun _ _=>by simp)]) d fun w5 E m=>?_;refine cv ?_;refine WC.ef rfl<|(bB) ?_;exact⟨rfl,(St.cg m)⟩
set_option maxHeartbeats 400000
theorem vU{l:List Key}(b:St w M Z w [As.os RR.key 43 2 a n c l]) (hn:l.length≤1000000):Calls prog 85 #[.slice a n c,.func (.func 83) #[] #[]] w fun e w'=>e=.returned (.tuple #[])∧∃l',l'.Perm l∧(l'.Pairwise fun x y=>¬bl y x<0)∧St w M Z w' [As.os RR.key 43 2 a n c l']:=by
 by_cases h:l=[]
 ·
  have hl:=(As.gs b.g0).len;subst h;have hl:n=0:=hl;subst hl;refine vQ.mono<|?_;rintro e w' ⟨rfl,hc⟩;exact⟨rfl,[],.nil,.nil,b.step hc⟩
 exact py b h hn
theorem sg{l:List Key}(q:St w M Z w []) (hl:Rd RR.key 2 Z w a n c l) (g:l.Nodup) (hn:l.length≤1000000):Calls prog 45 #[.slice a n c] w fun e w'=>∃h j m,∃l':List Key,e=.returned (.slice h j m)∧sD l'∧l'.Perm l∧St w M Z w' [As.os RR.key 43 2 h j m l']:=by
 refine enter func45 rfl ntmps45 rfl<|?_;have aO:=q;have st1:=aO.fr hl;refine gW ?_;have st2:=st1;refine(cJ) EM (gL st2.e0 (As.gr st2.g0) hn) ?_;rintro _ w1 ⟨b1,b2,c1,rfl,s⟩;have t:=St.lr st2 s;refine fj ?_;have o:=t;refine(cJ) Pw (vU o.e1 hn) ?_;rintro _ w2 ⟨rfl,d,b,u,y⟩;have p:=St.lr o y;have E:d.length=l.length:=b.length_eq;have z:d.Nodup:=b.nodup_iff.2 g;have B:=uQ b g u;refine(eY) (kj (Ow.rd (As.gs p.g0) (by omega)) z) p fun w3 F C=>?_;refine(bB) ?_;exact⟨b1,_,c1,d,rfl,B,b,C.p1.drop⟩
theorem si{l:List Key}(j:St w M Z w []) (hl:Rd RR.key 2 (fun x=>Z x∨x∈bA a) w a n c l) (o:∀x∈bA a,x<w.heap.size) (p:l.Nodup) (hn:l.length≤1000000):Calls prog 45 #[.slice a n c] w fun e w'=>∃b d g,∃l':List Key,e=.returned (.slice b d g)∧sD l'∧l'.Perm l∧St w M Z w' [As.os RR.key 43 2 b d g l']:=by
 have q:St w M (fun x=>Z x∨x∈bA a) w []:=⟨j.cq,fun x s=>s.elim (j.jC x) (o x),by simp,by simp,.nil,by simp⟩;refine(sg q hl p hn).mono<|?_;rintro e w' ⟨b,d,g,l',rfl,t,u,m⟩;exact⟨b,d,g,l',rfl,t,u,m.Uh (fun _ h=>.inl h) (Ow.z (As.gs m.g0))⟩
theorem yE{L:List (bZ × fo)}{f:bZ}{A:fo}(F:St w M Z w [As.map Key.val S.m ml,As.map Key.val S.q [],As.blk wb 95 (D.wc S.s rev ra rn rc),As.map Key.val D.m dq,As.eR 50 lf l,As.os RR.key 43 2 ra rn rc bG,As.os RR.iN 131 6 al nl el (L++[(f,A)]),As.many (tV 43 9 (L++[(f,A)]))]) (W:(S.FV prog aa x0).p Z w) (X:Rd RR.aD 4 Z w D.a1 D.n1 D.c1 x0.ab) (Y:Rd RR.dM 4 Z w D.ar D.r D.cr aa) (hm:aJ aa x0.ab ml) (G:cQ l lf dq) (H:ao aa) (I:∀k,(valOf aa x0.ab k).size≤1000) (J:KR aa l) (K:L.length≤1000) (XN:bG.length≤100000) (Tj:dq.length<4000) (N:gP aa f) (hi:i<aa.length) (NF:f.key=aN aa (i:Int)) (hsz:∀s∈f.ae,s.size≤1000) (h6:l.length≤4000) (NB:∀r∈l,r.reads.length≤4000) (T8:∀r∈l,r.aq≤rev):Calls prog 43 #[.pointer (some ⟨wb,0,none⟩),.slice al nl el,.func (.func 42) #[] #[]] w fun e w'=>∃(l':List Rec) (O:Key→RL) (P h:List (Key × Value)) (L':List (bZ × fo)) (rk:List Key) (d:Int) (a Q:Option Addr) (n c R T:Nat) (Z':Nat→Prop),e=.returned (.tuple #[.slice a n c,.bool (decide (d=0)),.int .i64 d])∧FS aa (valOf aa x0.ab) ⟨rev,x0.ab,l⟩ (L.map Prod.fst) f ⟨rev,x0.ab,l'⟩ (L'.map Prod.fst) rk d∧(d=0→L'.map Prod.fst≠L.map Prod.fst++[f])∧cQ l' O P∧aJ aa x0.ab h∧eE ml h∧fE w.heap.size Z Z'∧St w M Z' w' [As.map Key.val S.m h,As.map Key.val S.q [],As.blk wb 95 (D.wc S.s rev Q R T),As.map Key.val D.m P,As.eR 50 O l',As.os RR.key 43 2 Q R T (bG++rk),As.os RR.iN 131 6 a n c L',As.many (tV 43 9 L')]:=by
 have Rv:=(As.gs F.g6).len;rw [List.length_append,List.length_singleton] at Rv;refine enter func43 rfl ntmps43 rfl<|?_;have aO:=F;have st1:=aO.fr X;have st2:=st1.fr Y;have g:=st2.fact (B:=As.fz (S.FV prog aa x0)) W (fun _ hx=>hx);refine lW ?_;obtain⟨jj,U⟩:=Ow.addr (As.gs g.g9) (cD L (f,A));refine cw ?_;refine WP .r ((PV.sub rfl rfl (by omega) (by omega)).cast (v':=.int .i64 (L.length:Int)) (congrArg (Value.int .i64) (by omega)))<|WP .r (PV.dR rh (i:=L.length) U rfl rfl (by omega))<|(bp) dd (Ow.kl (As.gs g.g9) (by rw [List.length_append,List.length_singleton];omega) U (cD L (f,A)))<|(aX) (fun g15=>?_) fun g15=>?_
 ·
  have j:f.running=true:=g15;refine dp ?_;have b:=g.qq.qq.qq.qq.qq.qq.qq.qq;refine(cJ) Vu (Az b.e8 (As.gf b.g8) (As.gr b.g10) (As.gr b.g9) hm G H I J K XN Tj N hi NF hsz j) ?_;rintro _ w1 ⟨l1,lf1,X3,o,L1,rk,d,a1,DO,n1,c1,rn1,rc1,Z1,rfl,ML,CS,t,u,y,V,z⟩;have C:=St.lv b z V;have sw:=V.le b.size;refine kL ?_;refine EX.jd rfl (RS.tmp rfl<|RS.tmp rfl<|RS.tmp rfl<|RS.nil) rfl<|?_;exact⟨l1,lf1,X3,o,L1,rk,d,a1,DO,n1,c1,rn1,rc1,_,rfl,ML,CS,t,u,y,sw,C.p8.drop.p8.drop.p8.drop⟩
 have j:f.running=false:=by simpa using g15
 refine fb ?_;have b:=g.p9.p8.p8.p8.p8.p8;refine(cJ) Vv (vO b.e6 (As.gf b.g6) (As.gr b.g8) hm G H I J K j h6 NB T8 N.T6) ?_;rintro _ w1 ⟨l1,L1,d,a1,n1,c1,o,rfl,E,t,u,y,z⟩;have C:=St.lr b z;refine lW ?_;have jr:=C.qq;have ku:=St.Un jr E.2.2;have im:=ku.qq.sr (B:=As.os RR.key 43 2 ra rn rc (bG++[])) (by rw [List.append_nil]);refine EX.jd rfl (RS.tmp rfl<|RS.tmp rfl<|RS.tmp rfl<|RS.nil) rfl<|?_;exact⟨l1,lf,dq,o,L1,[],d,a1,ra,n1,c1,rn,rc,_,rfl,E.1,E.2.1,t,u,y,fE.refl _ _,im.p8.drop.p8.drop.p8.drop.p7.p1.p7.p7.p7.p7.p7⟩
set_option maxHeartbeats 4000000 in
theorem gZ{goals:List Key}(gJ:St w M Z w []) (ht:j5 prog Z w) (hu:Rd RR.dM 4 Z w ar r cr aa) (Ie:Rd RR.aD 4 Z w a1 n1 e1 x.ab) (hr:Rd RR.iV 8 Z w a2 n2 e2 x.ai) (hg:Rd RR.key 2 Z w ag ng eg goals) (u:ao aa) (d:LC aa x) (hk:∀k∈goals,dU aa k) (h32:goals.length≤32):Calls prog 12 #[.slice ar r cr,.agg (x.row a1 n1 e1 a2 n2 e2).toArray,.slice ag ng eg] w fun e w'=>∃(b':cB) (bG rs:List Key) (a1' a2' a3':Option Addr) (n1' e1' n2' e2' n3' e3':Nat) (Z':Nat→Prop),e=.returned (.tuple #[.agg (b'.row a1' n1' e1' a2' n2' e2').toArray,.slice a3' n3' e3',.int .i64 0])∧dD aa (valOf aa x.ab) goals x b' [] bG∧b'.ab=x.ab∧(∀k∈goals,aw k=true∨az b' k=true)∧sD rs∧rs.Perm bG∧fE w.heap.size Z Z'∧St w M Z' w' [As.os RR.aD 80 4 a1' n1' e1' b'.ab,As.os RR.iV 50 8 a2' n2' e2' b'.ai,As.os RR.key 43 2 a3' n3' e3' rs]:=by
 have RF:=d.lb.tM;have hS:=d.lb.small u;have hgn:=hg.len;refine enter func12 rfl ntmps12 rfl<|?_;have aO:=gJ;have st1:=aO.fr hu;have st2:=st1.fr Ie;have lN:=st2.fr hr;have jl:=lN.fr hg;have ki:=jl.fact (B:=As.fz (FZ.Iy prog)) ht (fun _ d=>d);refine(dx) ki fun b4 w1 CX H0 jr=>?_;refine(gx) jr fun b6 w2 Lx Wx W=>?_;refine(bP) cc W.b1<|(eY) (sf (As.gr W.g6) (As.gr W.g5) (As.gr W.g4) u RF (As.gr W.g3) hk h32) W fun w3 s3 im=>?_;refine(aX) (fun g22=>?_) fun g22=>?_
 ·
  exact cL g22
 refine(bP) cc im.b1<|?_;have R:=im;refine(cJ) U7 (vV (x:=x) R.e0 (As.gf R.g2) (As.gr R.g6) (As.gr R.g5) (As.gr R.g4) RF.2.2.2.2.2.2.2.1 (Nat.le_trans RF.2.2.2.2.1 (by decide)) RF.2.2.2.2.2.2.1) ?_;rintro _ w4 ⟨D,S,wb,lf0,X4,Z1,rfl,hmt,yz,hfv,hdi,X5,sa⟩;have fw:=St.lv R sa yz;have MM:=yz.le R.size;have eC:=fw.fact (B:=As.fz (S.FV prog aa x)) hfv (fun _ d=>d);have eQ:=eC.fr (hdi);have dG:=eQ.fr (X5);refine kL ?_;have dX:=dG.fV RR.key 43 2;refine bM ?_;refine WC.nf (σ:=Nat × (List Rec) × (Key→RL) × (List (Key × Value)) × (List (Key × Value)) × (List Key) × (Option Addr) × Nat × Nat × (Nat→Prop)) (db:=fun(i,l1,z,C,E,h,DO,G,H,T)=>[(4,.pointer (some ⟨b4,0,none⟩)),(6,.pointer (some ⟨b6,0,none⟩)),(10,.pointer (some ⟨wb,0,none⟩)),(29,.slice ag ng eg),(30,.int .i64 (ng:Int)),(31,.int .i64 (i:Int))]) (F:=fun(i,l1,z,C,E,h,DO,G,H,T)=>[As.map Key.val S.m E,As.blk wb 95 (D.wc S.s x.ad DO G H),As.map Key.val D.m C,As.eR 50 z l1,As.os RR.key 43 2 DO G H h]) (I:=fun(i,l1,z,C,E,h,DO,G,H,T)=>(i≤ng)∧(dD aa (valOf aa x.ab) goals x ⟨x.ad,x.ab,l1⟩ [] h)∧(cQ l1 z C)∧(aJ aa x.ab E)∧(∀y∈goals.take i,(aw y=true∨az ⟨x.ad,x.ab,l1⟩ y=true))∧(fE w.heap.size Z T)∧True) (μ:=fun(i,l1,z,C,E,h,DO,G,H,T)=>ng - i) (Zf:=fun(i,l1,z,C,E,h,DO,G,H,T)=>T) (0,x.ai,lf0,X4,[],[],none,0,0,_) (dX.p8.p8.p8.p7) Sub.t (⟨Nat.zero_le _,.start,hmt,aJ.nil,by simp,MM,trivial⟩)<|?_;rintro⟨i,l1,z,C,E,h,DO,G,H,T⟩ w5 dQ ⟨hi,FJ,Ii,CE,kx,sw,_⟩;simp only [CA,NA] at dQ hi FJ Ii CE kx sw ⊢;refine(aX) (fun Md=>?_) fun Md=>?_
 ·
  simp at Md
  have x5:i<goals.length:=by omega
  have WX:cx goals[i]:=(hk _ (List.getElem_mem x5)).cx;obtain⟨_,X6,_⟩:=FJ.ready u d hk;refine dp ?_;obtain⟨jj,sJ,sK,eB,ma,jB,iH,iI⟩:=Rd.at (As.gr dQ.g12) x5;have jB:=RR.bt jB;subst jB;have gI:=dQ.fg iI iH;refine nx ?_;refine WP .r (PV.dR ez eB rfl rfl (by omega))<|(bP) ak (As.nS gI.g0)<|(gx) gI fun b12 w6 afy afz X=>?_;refine(dZ) gk X fun w7 nT rH fh=>?_;refine(bP) ak fh.b0<|?_;have J:=fh;refine(cJ) U8 (yn (aD:=x.ab) (k:=goals[i]) J.e0 (As.gb J.g3) (As.gm J.g4) Ii (As.o7 J.g5) X6 WX) ?_;rintro _ w8 ⟨o1,o2,o3,rfl,j0⟩;have Y:=St.lr J j0;refine bM ?_;have gY:=St.Kq (EK:=43) (ES:=9) (k:=goals[i]) (c:=da ⟨x.ad,x.ab,l1⟩ [] goals[i]) Y;refine bM ?_;refine WC.nf (σ:=(List Rec) × (Key→RL) × (List (Key × Value)) × (List (Key × Value)) × (List Key) × (Option Addr) × Nat × Nat × (Nat→Prop) × (List (bZ × fo)) × (Option Addr) × Nat × Nat) (db:=fun(b,K,N,dj,o,O,P,Q,U,L,al,nl,el)=>[(4,.pointer (some ⟨b4,0,none⟩)),(6,.pointer (some ⟨b6,0,none⟩)),(10,.pointer (some ⟨wb,0,none⟩)),(13,.slice al nl el),(29,.slice ag ng eg),(30,.int .i64 (ng:Int)),(31,.int .i64 (i:Int))]) (F:=fun(b,K,N,dj,o,O,P,Q,U,L,al,nl,el)=>[As.map Key.val S.m dj,As.blk wb 95 (D.wc S.s x.ad O P Q),As.map Key.val D.m N,As.eR 50 K b,As.os RR.key 43 2 O P Q o,As.os RR.iN 131 6 al nl el L,As.many (tV 43 9 L)]) (I:=fun(b,K,N,dj,o,O,P,Q,U,L,al,nl,el)=>(dD aa (valOf aa x.ab) goals x ⟨x.ad,x.ab,b⟩ (L.map Prod.fst) o)∧(cQ b K N)∧(aJ aa x.ab dj)∧(∀y∈goals.take i,(aw y=true∨az ⟨x.ad,x.ab,b⟩ y=true))∧(aw goals[i]=true∨az ⟨x.ad,x.ab,b⟩ goals[i]=true∨∃g q,L.map Prod.fst=g::q∧g.key=goals[i])∧(fE w.heap.size Z U)∧True) (μ:=fun(b,K,N,dj,o,O,P,Q,U,L,al,nl,el)=>Nq aa ⟨x.ad,x.ab,b⟩ (L.map Prod.fst)) (Zf:=fun(b,K,N,dj,o,O,P,Q,U,L,al,nl,el)=>U) (l1,z,C,E,h,DO,G,H,_,(if da ⟨x.ad,x.ab,l1⟩ [] goals[i]=true then [((⟨goals[i],false,0,[],[]⟩:bZ),(⟨none,0,0,none,0,0⟩:fo))] else []),o1,o2,o3) (gY.p1.p8.p8.p8.p8.p8) Sub.t (⟨dD.taken FJ (List.getElem_mem x5),Ii,CE,kx,Cl,sw,trivial⟩)<|?_;rintro⟨b,K,N,dj,o,O,P,Q,U,L,al,nl,el⟩ w9 p ⟨V,mJ,ss,oe,Tm,Ih,_⟩;simp only [CA,NA] at p V mJ ss oe Tm Ih ⊢;refine(aX) (fun F0=>?_) fun F0=>?_
  ·
   simp at F0
   have hLn:=((As.gs p.g5)).len;obtain⟨Lp,f,A,rfl⟩:=GV (L:=L) (by omega);simp only [List.map_append,List.map_cons,List.map_nil] at V Tm;obtain⟨afA,X7,hp6,Jt,RG,X8,X9,pE,afC,Ya⟩:=V.ready u d hk;obtain⟨hfo,⟨j,hj,TF⟩,hsz⟩:=Ya f (by simp);have hmn:=mJ.len ((As.gm p.g2)).nodup
   have hp7:Lp.length≤1000:=by simp at hp6;omega
   have RG:b.length<4000:=RG;refine fb ?_;have gw:=p.p6.p6.p6.p6.p6.p6.qt.p7;refine(cJ) Va (yE (x0:=x) gw.e8 (As.gf gw.g12) (As.gr gw.g11) (As.gr gw.g10) ss mJ u hS X7 hp7 Jt (by omega) hfo hj TF hsz (by omega) X8 X9) ?_;rintro _ lI ⟨l3,lf3,Yb,gp,L3,rk,er,o4,ra3,o5,o6,rn3,rc3,Z5,rfl,ML,CS,FK,CK,pR,RH,ur⟩;have ic:=St.lv gw ur RH;have hZ5:=Ih.trans RH gw.size;obtain rfl:er=0:=V.OO u d hk ML
   replace CS:=CS rfl
   have Yc:=Tm.imp id (FS.bot ML);refine aT ?_;refine(aX) (fun g49=>?_) fun g49=>?_
   ·
    exact cL g49
   refine fb ?_;refine EX.again (l3,lf3,Yb,gp,o++rk,ra3,rn3,rc3,_,L3,o4,o5,o6) Sub.t ⟨ic.qt.qt.qt.qt.qt.qt.qt.qt.qt.qt.qt.pC,⟨V.step ML CS,FK,CK,fun y hy=>(oe y hy).imp id ML.IH,Yc,hZ5,trivial⟩⟩ (by simp only [List.map_append,List.map_cons,List.map_nil];exact V.less u d hk ML CS)
  simp at F0
  have hLn:=((As.gs p.g5)).len;obtain rfl:L=[]:=List.eq_nil_of_length_eq_zero (by omega);have MN:=GW x5 oe Tm;refine kL ?_;refine fx (i+1,b,K,N,dj,o,O,P,Q,_) ⟨p.p5.drop.p5.drop.p5.drop.p5.drop,⟨by omega,V,mJ,ss,MN,Ih,trivial⟩⟩
 simp at Md
 have lL:goals.take i=goals:=List.take_of_length_le (by omega);rw [lL] at kx;obtain⟨hbk,_,_,Jt,RG,_,_,BO,Yd,_⟩:=FJ.ready u d hk;have RG:l1.length<4000:=RG;refine fj ?_;refine WC.cu (m:=6) [] [1] [0,1,2,3,4,5] [] dQ (av.cons M1<|av.nil) mixed (by kernel_rfl) (by kernel_rfl) rfl<|(gK) (fun w6 R1x Rf gI Jh=>?_);simp only [CA,NA] at gI;have X:=gI.p3.p3.p3;refine OX.call Vb rfl rfl ((vT X.e3 (As.gr X.g6) Ii Yd (by omega) (Nat.le_trans RF.2.2.2.2.1 (by decide))).mono ?_);rintro _ w7 ⟨s1,s2,s3,s4,s5,s6,Z6,rfl,RJ,Fs⟩;have fh:=St.lv X Fs RJ;have hZ6:=sw.trans RJ X.size;refine⟨_,rfl,Fs.cq.size,_,rfl,_,_,_,fh,aC.k4<|aC.k4<|aC.k4<|aC.k4<|aC.nil,av.cons M0<|av.nil,?_⟩
 iterate 3 refine DG.a ?_
 refine(yM) fG SV.g0<|(ly)<|?_;intro w8 Jb J;simp only [CM,NM,CA,NA,iK.it] at J;have Y:=J;refine(cJ) Pp (si Y.e0 (Ow.rd (As.gs Y.g4) (by omega)) (OR.lt (As.gs Y.g4)) BO (by omega)) ?_;rintro _ w9 ⟨q1,q2,q3,rs,rfl,Tn,HQ,vK⟩;have gY:=St.lr Y vK;refine(dZ) kW gY.qq fun lI Bt wu p=>?_;refine bM ?_;refine WL.nil (EX.np ?_);refine bM ?_;refine EX.jd rfl (RS.cell cc rfl p.b0 rfl<|RS.tmp rfl<|RS.tmp rfl<|RS.nil) rfl<|?_;exact⟨⟨x.ad,x.ab,l1⟩,h,rs,s1,s2,q1,s3,s4,s5,s6,q2,q3,_,rfl,FJ,rfl,kx,Tn,HQ,hZ6,p.p1.p4.p4.k3⟩
end Go.Rc

