/- Walks over the program, part WYk. Conditions: as each theorem says. -/
import Derived.Test.YtfamnpoplgkkcaaGreatDoorKFacts
import Derived.Test.YtfamnpoplgkkcaaGreatDoorKWYg
import Derived.Test.YtfamnpoplgkkcaaGreatDoorKWLibE
import Derived.Test.YtfamnpoplgkkcaaGreatDoorKWZh
import Derived.Test.YtfamnpoplgkkcaaGreatDoorKWZr
import Derived.Test.YtfamnpoplgkkcaaGreatDoorKBg
set_option linter.all false
namespace Go.Rc
open Go Go.Proofs Go.Proofs.Tryz
variable {v wb rn rc i r c e2 nl el n n1 e1 n2 cr ng eg:Nat}{rev:Int}{aC:List bG}{l:List Rec}{D:WD}{ra a a2 al a1 ar ag:Option Addr}{lf:Key→RL}{cS ml:List (Key × Value)}{bO:List Key}{f:Value}{w:World}{M Z A:Nat→Prop}{aa:List aF}{k:Key}{x0 x:bZ}{S:SD}
set_option maxHeartbeats 400000
theorem yq{f:bT}{A:ek}{value:ByteArray}(d:St w M Z w [As.blk wb 86 (D.wc v rev ra rn rc),As.map Key.val D.m cS,As.dR 47 lf l,As.os RR.key 41 2 ra rn rc bO,As.os RR.key 41 2 A.a A.n A.c f.reads]) (g:cy l lf cS) (h:f.reads.length≤4000) (hr:bO.length≤100000) (o:cS.length<4000):Calls prog 120 #[.pointer (some ⟨wb,0,none⟩),.agg (bT.ve (f,A)).toArray,.string value] w fun e w'=>∃(q:RL) (a:Option Addr) (n c:Nat) (Z':Nat→Prop),e=.returned (.int .i64 0)∧eI w.heap.size Z Z'∧St w M Z' w' [As.blk wb 86 (D.wc v rev a n c),As.map Key.val D.m (cw cS f.key (.pointer (some ⟨q.b,0,none⟩))),As.dR 47 (qI lf f.key q) (ez l (cc ⟨rev,aC,l⟩ f.key value f.reads)),As.os RR.key 41 2 a n c (bO++[f.key]),As.os RR.key 41 2 A.a A.n A.c f.reads]:=by
 cases j:ay l f.key with
 | none=>exact wt d g h hr j o
 | some r=>exact wu d g h hr j
theorem q4{ae:List ByteArray}{B C:Nat→Prop}{r2:Nat}(d:k=aK aa (i:Int)) (ht:kb prog A w) (b:ao aa) (hi:i<aa.length) (hr:eJ B w a r c aa) (hl:Strs C w a2 r2 e2 ae) (hsz:∀s∈ae,s.size≤1000):CR prog 119 #[.slice a r c,k.val,.slice a2 r2 e2] w ((aO aa k ae).val):=by
 have e:=b.len;subst d;rw [iZ hi (by omega)];exact ie ht b hi hr hl hsz
set_option maxHeartbeats 4000000 in
theorem yr{L:List (bT × ek)}{f:bT}{A:ek}(gV:St w M Z w [As.map Key.val S.m ml,As.map Key.val S.q [],As.blk wb 86 (D.wc S.s rev ra rn rc),As.map Key.val D.m cS,As.dR 47 lf l,As.os RR.key 41 2 ra rn rc bO,As.os RR.gU 126 6 al nl el (L++[(f,A)]),As.many (r7 41 9 (L++[(f,A)]))]) (hf:(S.FV prog aa x0).p Z w) (F1:Rd RR.aC 4 Z w D.a1 D.n1 D.c1 x0.ab) (O1:Rd RR.eU 4 Z w D.ar D.r D.cr aa) (hm:aR aa x0.ab ml) (G:cy l lf cS) (R:ao aa) (hS:∀k,(valOf aa x0.ab k).size≤1000) (QT:KR aa l) (YE:L.length≤1000) (U6:bO.length≤100000) (Q0:cS.length<4000) (X:fX aa f) (hi:i<aa.length) (U7:f.key=aK aa (i:Int)) (hsz:∀s∈f.ae,s.size≤1000) (T:f.running=true):Calls prog 72 #[.pointer (some ⟨wb,0,none⟩),.slice al nl el,.func (.func 34) #[] #[]] w fun e w'=>∃(l':List Rec) (YL:Key→RL) (O2 Y:List (Key × Value)) (L':List (bT × ek)) (rk:List Key) (d:Bool) (er:Int) (a QE:Option Addr) (n c YM YN:Nat) (Z':Nat→Prop),e=.returned (.tuple #[.slice a n c,.bool d,.int .i64 er])∧FS aa (valOf aa x0.ab) ⟨rev,x0.ab,l⟩ (L.map Prod.fst) f ⟨rev,x0.ab,l'⟩ (L'.map Prod.fst) rk er∧(er=0→L'.map Prod.fst≠L.map Prod.fst++[f])∧cy l' YL O2∧aR aa x0.ab Y∧eP ml Y∧eI w.heap.size Z Z'∧St w M Z' w' [As.map Key.val S.m Y,As.map Key.val S.q [],As.blk wb 86 (D.wc S.s rev QE YM YN),As.map Key.val D.m O2,As.dR 47 YL l',As.os RR.key 41 2 QE YM YN (bO++rk),As.os RR.gU 126 6 a n c L',As.many (r7 41 9 L')]:=by
 have OS:=(As.gs gV.g6).len;rw [List.length_append,List.length_singleton] at OS
 have OQ:((L++[(f,A)]).map Prod.fst)=L.map Prod.fst++[f]:=by simp
 have Kz:=X.len;have CZ:=X.fk.le R;refine enter func72 rfl ntmps72 rfl<|?_;have aM:=gV;have st1:=aM.fr F1;have st2:=st1.fr O1;have ka:=st2.fact (B:=As.fz (S.FV prog aa x0)) hf (fun _ hx=>hx);have jW:=ka.oU;have U:=St.Gv jW;have hkn:=((As.gs U.g0)).len;have hyn:=((As.gs U.g1)).len;refine ho ?_;obtain⟨jq,y⟩:=Ow.addr (As.gs U.g12) (ck L (f,A));refine cv ?_;refine WP .r ((PV.sub rfl rfl (by omega) (by omega)).cast (v':=.int .i64 (L.length:Int)) (congrArg (Value.int .i64) (by omega)))<|WP .r (PV.ef pL (i:=L.length) y rfl rfl (by omega))<|cv ?_;refine WC.cz (m:=14) [] [12] [0,1,2,3,4,5,6,7,8,9,10,11,12,13] [(13,.blk 140 [.bool false,.string ⟨#[]⟩,.int .i64 0,.string ⟨#[]⟩])] U (av.k4 M0 M1 M2 M3<|av.k4 M4 M5 M6 M7<|av.k4 M8 M9 nW qq<|av.cons q9<|av.nil) mixed (by kernel_rfl) (by kernel_rfl) rfl<|?_
 iterate 3 refine DG.a ?_
 refine(wW) vD SV.g8<|?_
 iterate 3 refine DG.a ?_
 refine DQ .r (fun I J K _ j H=>PV.uD aq (Ow.n5 (As.gs (j.sv H).g12) (by rw [List.length_append,List.length_singleton];omega) y (ck L (f,A))) rfl rfl)<|?_
 iterate 3 refine DG.a ?_
 refine DQ .r (fun I J K _ j H=>V1 CC (Ow.n5 (As.gs (j.sv H).g12) (by rw [List.length_append,List.length_singleton];omega) y (ck L (f,A))) .r)<|(gR) (fun w1 ace YO Q U8=>?_);simp only [CA,NA] at Q;refine OX.call GL rfl rfl ((q4 U7 ((As.gf Q.g3)).1.2.2.2 R hi (As.gr Q.g4) (Ow.rd (As.gs Q.g1) (by omega)) hsz).mono ?_);rintro _ w2 ⟨rfl,s2⟩;have mi:=Q.step s2;refine⟨_,rfl,s2.size,_,rfl,_,_,_,mi,aG.k4<|aG.k4<|aG.k4<|aG.cons<|aG.nil,av.k4 M0 M1 M2 M3<|av.k4 M4 M5 M6 M7<|av.k4 M8 M9 nW qq<|av.cons q9<|av.nil,?_⟩;refine DG.side (s:=.blk 140 [.bool false,.string ⟨#[]⟩,.int .i64 0,.string ⟨#[]⟩]) rfl rfl rfl rfl rfl rfl (fun I J K ux j=>OX.alloc y5 rfl fun b wy z hb=>⟨z.ext.size,_,rfl,⟨b,rfl⟩,j.dG z hb⟩)<|?_;rintro _ ⟨QR,rfl⟩;refine(lJ) ?_;intro w3 qR kF;simp only [CM,NM,CA,NA,iv.it] at kF;refine(dH) mb kF fun w4 oB qx t=>?_;refine WL.nil (EX.np ?_);refine(bF) ed t.b0<|(bl) (fun U9=>?_) fun U9=>?_
 ·
  have N:(aO aa f.key f.ae).done=true:=U9;refine cm ?_;have hN4:=t.cu;refine WC.dS (m:=6) t mixed<|cM ?_;refine DP .r (fun _ hC=>VA Ct (Ow.n5 (As.gs hC.2.g13) (by rw [List.length_append,List.length_singleton];omega) y (ck L (f,A))) .r)<|(kf) e4 St.g0<|(da)<|?_;rintro w5 ⟨Va,O⟩ _;have o:=O.p1.oV.oV.oV.oV;refine(c6) Nl (yq (aC:=x0.ab) (f:=f) (A:=A) (value:=(aO aa f.key f.ae).value) o.e5 G (by omega) U6 Q0) ?_;rintro _ w6 ⟨q,q1,q2,q3,Z1,rfl,wD,J2⟩;have C:=St.lv o J2 wD;have qz:=wD.le o.size;refine(bl) (fun K2=>?_) fun K2=>?_
  ·
   exact cI K2
  refine eE ?_;refine WP .r ((PV.sub rfl rfl (by omega) (by omega)).cast (v':=.int .i64 (L.length:Int)) (congrArg (Value.int .i64) (by omega)))<|WP .r (PV.sB pL (i:=L.length) (Ow.rd (As.gs C.g13) (by rw [List.length_append,List.length_singleton];omega)) rfl rfl (by omega))<|eE ?_;have E:=C.Bl;have F:=St.H8 E;refine EX.gJ rfl (RS.tmp rfl<|RS.tmp rfl<|RS.tmp rfl<|RS.nil) rfl<|?_;exact⟨_,_,_,ml,L,[f.key],true,0,_,q1,_,_,_,_,_,rfl,FS.put T N,fun _ e=>by simpa using congrArg List.length e,(G.put (r:=cc ⟨rev,x0.ab,l⟩ f.key (aO aa f.key f.ae).value f.reads) (q:=q) (cD l _)),hm,eP.refl _,qz,F.p5.drop.p5.drop.p5.drop.p6.drop.p6.drop.p6.drop.p4.p4.p4.p4.p7.p7⟩
 have N:(aO aa f.key f.ae).done=false:=U9;obtain⟨hnx,R7⟩:=X.fk.next R N;refine(lj) aq t.b0<|nx ?_;refine WL.c1 (u:=.int .i64 (bD ⟨rev,x0.ab,l⟩ (L.map Prod.fst++[f]) [] (aO aa f.key f.ae).ask)) (jX (aC:=x0.ab) (As.gb t.g9) (As.gm t.g10) G (As.nJ t.g11) QT (Ow.rd (As.gs t.g13) (by rw [List.length_append,List.length_singleton];omega)) R7.cn) (by rw [OQ]) t fun w5 s5 O=>?_;refine(bl) (fun Vb=>?_) fun Vb=>?_
 ·
  have zP:bD ⟨rev,x0.ab,l⟩ (L.map Prod.fst++[f]) [] (aO aa f.key f.ae).ask=3:=by simpa using Vb
  refine hY ?_;have o:=O.p3.p3.p3;have C:=St.Ew o;have E:=C.oU.rE (B:=As.os RR.key 41 2 ra rn rc (bO++[])) (by rw [List.append_nil]);refine EX.gJ rfl (RS.tmp rfl<|RS.tmp rfl<|RS.tmp rfl<|RS.nil) rfl<|?_;exact⟨l,lf,cS,ml,(L++[(f,A)]),[],false,43,_,_,_,_,_,_,_,rfl,by simpa using FS.KD (aa:=aa) T N zP,fun h=>absurd h (by decide),G,hm,eP.refl _,eI.refl _ _,E.p2.drop.p2.drop.p2.drop.p2.drop.p7.p1.p7.p7.p7.p7.p7⟩
 have zP:bD ⟨rev,x0.ab,l⟩ (L.map Prod.fst++[f]) [] (aO aa f.key f.ae).ask≠3:=by simpa using Vb
 refine(bl) (fun KU=>?_) fun KU=>?_
 ·
  exact absurd (by simpa using KU) (r8 (x:=⟨rev,x0.ab,l⟩) (l:=(L.map Prod.fst++[f])) (k:=(aO aa f.key f.ae).ask))
 skip
 refine(bl) (fun Vc=>?_) fun Vc=>?_
 ·
  have V:bD ⟨rev,x0.ab,l⟩ (L.map Prod.fst++[f]) [] (aO aa f.key f.ae).ask=1:=by simpa using Vc
  refine(lj) aq O.b0<|?_;have o:=O.Bl;refine(c6) Jb (jY (k:=(aO aa f.key f.ae).ask) o.e1 (by rw [List.length_append,List.length_singleton];omega)) ?_;rintro _ w6 ⟨p1,p2,p3,rfl,J2⟩;have C:=St.lr o J2;refine ho ?_;have E:=C.p4.p4.p4;have F:=St.Ew E;have ee:=F;have P:=St.B5 (g:=⟨(aO aa f.key f.ae).ask,false,0,[],[]⟩) ee rfl rfl;have fx:=P.nZ.rE (B:=As.os RR.key 41 2 ra rn rc (bO++[])) (by rw [List.append_nil]);refine EX.gJ rfl (RS.tmp rfl<|RS.tmp rfl<|RS.tmp rfl<|RS.nil) rfl<|?_;exact⟨l,lf,cS,ml,_,[],true,0,_,_,_,_,_,_,_,rfl,by simpa using FS.push (aa:=aa) T N V,fun _ e=>by simp at e,G,hm,eP.refl _,eI.refl _ _,fx.p3.drop.p3.drop.p3.drop.p3.drop.p2.p1.p7.p7.p7.p7.p7⟩
 have V:bD ⟨rev,x0.ab,l⟩ (L.map Prod.fst++[f]) [] (aO aa f.key f.ae).ask≠1:=by simpa using Vc
 refine cv ?_;refine WC.cz (m:=20) [1] [9,17,19] [2,3,4,5,6,7,8,9,14,15,16,17,10,11,12,13,18,19,0,1] [(8,.sl 41 1 (aO aa f.key f.ae).ask.cells),(18,.sl 9 1 [.string (cB (valOf aa x0.ab) ⟨rev,x0.ab,l⟩ (aO aa f.key f.ae).ask)])] O (av.k4 M0 M3 M4 M5<|av.cons M6<|av.cons q9<|av.cons wZ<|av.nil) mixed (by kernel_rfl) (by kernel_rfl) rfl<|?_
 iterate 3 refine DG.a ?_
 refine DQ .r (fun I J K _ j H=>V1 eD (Ow.n5 (As.gs (j.sv H).g6) (by rw [List.length_append,List.length_singleton];omega) y (ck L (f,A))) .r)<|(AF) aq SV.g0<|?_;refine DG.side (s:=.sl 41 1 (aO aa f.key f.ae).ask.cells) rfl rfl rfl rfl rfl rfl (fun I J K ux j=>OX.bf (us:=(aO aa f.key f.ae).ask.cells) ey rfl rfl rfl rfl fun b wy z hb=>⟨z.ext.size,_,rfl,⟨b,rfl⟩,j.dG z hb⟩)<|?_;rintro _ ⟨Vd,rfl⟩;refine(gR) (fun w6 Ot C3 o pY=>?_);simp only [CA,NA] at o;refine OX.oL qJ rfl rfl rfl (As.gs o.g1) (SR.dU (A:=fun _=>True) (x:=(aO aa f.key f.ae).ask) (show bC _ Vd _ _ from o.ok _ (.tail _ (.tail _ (.tail _ (.tail _ (.tail _ (.tail _ (.tail _ (.tail _ (.tail _ (.tail _ (.tail _ (.tail _ (.tail _ (.tail _ (pY _ (.head _))))))))))))))))) trivial rfl (by simp [Key.cells,Value.oneCell']) rfl) (by show(A.n+1)*_≤_;omega) (by show A.n+1≤_;omega) (Nat.zero_le _) fun a75 W w7 Ve O3 Vf acg=>?_;have C:=o.p1.gK O3 Ve Vf;refine⟨O3.size,_,rfl,_,_,_,C,aG.k4<|aG.k4<|aG.k4<|aG.k2<|aG.nil,av.k4 M1 M3 M4 M5<|av.cons M6<|av.cons q9<|av.cons wZ<|av.nil,?_⟩
 iterate 2 refine DG.a ?_
 refine(AF) aq SV.g0<|(gR) (fun w8 ach YP E Vg=>?_);simp only [CA,NA] at E;have F:=E.nZ.nZ.nZ.nZ.nZ;refine OX.call Nn rfl rfl ((yp (k:=(aO aa f.key f.ae).ask) (L:=(L.map Prod.fst++[f])) F.e5 (As.gf F.g9) (As.gr F.g11) hm G R hS R7 (kU V zP)).mono ?_);rintro _ w9 ⟨dW,rfl,yP,Aq,tQ⟩;have ee:=St.lr F tQ;refine⟨_,rfl,tQ.cH.size,_,rfl,_,_,_,ee,aG.k4<|aG.k4<|aG.k4<|aG.k2<|aG.nil,av.k4 M6 M8 M9 nW<|av.cons qq<|av.cons q9<|av.cons wZ<|av.nil,?_⟩
 iterate 3 refine DG.a ?_
 refine DQ .r (fun I J K _ j H=>V1 CC (Ow.n5 (As.gs (j.sv H).g6) (by rw [List.length_append,List.length_singleton];omega) y (ck L (f,A))) .r)<|?_;refine DG.side (s:=.sl 9 1 [.string (cB (valOf aa x0.ab) ⟨rev,x0.ab,l⟩ (aO aa f.key f.ae).ask)]) rfl rfl rfl rfl rfl rfl (fun I J K ux j=>OX.bf (us:=[.string (cB (valOf aa x0.ab) ⟨rev,x0.ab,l⟩ (aO aa f.key f.ae).ask)]) tp rfl rfl rfl rfl fun b wy z hb=>⟨z.ext.size,_,rfl,⟨b,rfl⟩,j.dG z hb⟩)<|?_;rintro _ ⟨b84,rfl⟩;refine(gR) (fun oC acj YQ P J3=>?_);simp only [CA,NA] at P;refine OX.oL GA rfl rfl rfl (As.gs P.g7) (SR.dU (A:=fun _=>True) (x:=(cB (valOf aa x0.ab) ⟨rev,x0.ab,l⟩ (aO aa f.key f.ae).ask)) (show bC _ b84 _ _ from P.ok _ (.tail _ (.tail _ (.tail _ (.tail _ (.tail _ (.tail _ (.tail _ (.tail _ (.tail _ (.tail _ (.tail _ (.tail _ (.tail _ (.tail _ (J3 _ (.head _))))))))))))))))) trivial rfl (by simp [Value.oneCell']) rfl) (by show(A.n2+1)*_≤_;omega) (by show A.n2+1≤_;omega) (Nat.zero_le _) fun a85 J4 qy Vh YR Vi ack=>?_;have fx:=P.p7.gK YR Vh Vi;refine⟨YR.size,_,rfl,_,_,_,fx,aG.k4<|aG.k4<|aG.k4<|aG.k2<|aG.nil,av.k4 M7 M8 M9 nW<|av.cons qq<|av.cons q9<|av.cons wZ<|av.nil,?_⟩
 iterate 2 refine DG.a ?_
 refine(lJ) ?_;intro uy O4 eG;simp only [CM,NM,CA,NA,iv.it] at eG;refine cm ?_;refine WL.go rfl (OX.Ei (f:=4) MB (As.gs eG.g15) y (by omega) rfl rfl rfl ((({f with reads:=f.reads++[(aO aa f.key f.ae).ask]}:bT),(⟨a75,A.n+1,W,A.a2,A.n2,A.c2⟩:ek)):bT × ek) (fun r h=>by rw [RR.bp h];rfl) fun wY s19 Vj=>?_);have fw:=eG.p15.gK s19 Vj (fun x h=>.inl h);refine cm ?_;refine WL.go rfl (OX.Ei (f:=5) GG (As.gs fw.g0) y (by omega) rfl rfl rfl ((({f with reads:=f.reads++[(aO aa f.key f.ae).ask],ae:=f.ae++[(cB (valOf aa x0.ab) ⟨rev,x0.ab,l⟩ (aO aa f.key f.ae).ask)]}:bT),(⟨a75,A.n+1,W,a85,A.n2+1,J4⟩:ek)):bT × ek) (fun r h=>by rw [RR.bp h];rfl) fun C6 YS Vk=>?_);have gQ:=fw.gK YS Vk (fun x h=>.inl h);refine WL.nil (EX.np ?_);refine mG ?_;have gl:=gQ.nZ.p4.oU;have ig:=St.Ew (f:=({f with reads:=f.reads++[(aO aa f.key f.ae).ask],ae:=f.ae++[(cB (valOf aa x0.ab) ⟨rev,x0.ab,l⟩ (aO aa f.key f.ae).ask)]}:bT)) (A:=(⟨a75,A.n+1,W,a85,A.n2+1,J4⟩:ek)) gl;have fY:=ig.Bl.rE (B:=As.os RR.key 41 2 ra rn rc (bO++[])) (by rw [List.append_nil]);refine EX.gJ rfl (RS.tmp rfl<|RS.tmp rfl<|RS.tmp rfl<|RS.nil) rfl<|?_;exact⟨l,lf,cS,dW,L++[(({f with reads:=f.reads++[(aO aa f.key f.ae).ask],ae:=f.ae++[(cB (valOf aa x0.ab) ⟨rev,x0.ab,l⟩ (aO aa f.key f.ae).ask)]}:bT),(⟨a75,A.n+1,W,a85,A.n2+1,J4⟩:ek))],[],true,0,_,_,_,_,_,_,_,rfl,by simpa using FS.read (aa:=aa) T N V zP,fun _ e=>by have:=congrArg (fun l=>(l.map bT.reads).flatten.length) e;simp at this,G,yP,Aq,eI.refl _ _,fY.p3.drop.p3.drop.p8.drop.p8.drop.p8.drop.p8.drop.p2.p1.p7.p7.p7.p7.p7⟩
set_option maxHeartbeats 400000
set_option maxRecDepth 100000 in
theorem tR :CR prog 172 #[.int .u64 0] w (.int .i64 0):=by
 refine enter func172 rfl ntmps172 rfl<|?_;have aM:=St.s0 w;refine(bl) (fun g4=>?_) fun g4=>?_
 ·
  exact cI g4
 refine(bl) (fun g8=>?_) fun g8=>?_
 ·
  exact cI g8
 refine(bl) (fun g14=>?_) fun g14=>?_
 ·
  exact cI g14
 refine fE ?_;refine WP .r ((show PV prog _ _ _ _ (.int .u8 0) from⟨rfl,rfl,fun _ _ _ _=>rfl⟩))<|WP .r ((show PV prog _ _ _ _ (.int .u8 0) from⟨rfl,rfl,fun _ _ _ _=>rfl⟩))<|WP .r ((show PV prog _ _ _ _ (.int .i64 0) from⟨rfl,rfl,fun _ _ _ _=>rfl⟩))<|(bJ) ?_;exact⟨rfl,(St.cg aM)⟩
theorem qd :CR prog 126 #[.int .u64 0] w (.int .i64 0):=by
 refine enter func126 rfl ntmps126 rfl<|?_;have aM:=St.s0 w;refine fE ?_;refine WC.dw rfl<|(eO) (tR) aM fun w1 s1 st1=>?_;refine(bJ) ?_;exact⟨rfl,(St.cg st1)⟩
theorem wE :CR prog 174 #[.slice a 0 c,.int .i64 0,.int .i64 0,f] w (.tuple #[]):=by
 refine enter func174 rfl ntmps174 rfl<|?_;have aM:=St.s0 w;refine ho ?_;refine WC.bq (σ:=Unit) (cX:=fun u=>[(0,.slice a 0 c),(1,.int .i64 0),(2,.int .i64 0),(3,f),(8,.int .i64 1)]) (F:=fun u=>[]) (I:=fun u=>True) (μ:=fun u=>0) (()) (aM) Sub.t (trivial)<|?_;rintro u w1 st1 _;simp only [CA,NA] at st1 ⊢;refine(bl) (fun g14=>?_) fun g14=>?_
 ·
  exact cI g14
 refine cv ?_;refine EX.xa (.inr rfl) rfl<|?_;exact⟨rfl,(St.cg st1)⟩
theorem wF :CR prog 129 #[.slice a 0 c,.int .i64 0,.int .i64 0,.int .i64 0,f] w (.tuple #[]):=by
 refine enter func129 rfl ntmps129 rfl<|?_;have aM:=St.s0 w;refine hY ?_;refine WC.bq (σ:=Unit) (cX:=fun u=>[(0,.slice a 0 c),(1,.int .i64 0),(2,.int .i64 0),(3,.int .i64 0),(4,f),(10,.bool true),(11,.bool true)]) (F:=fun u=>[]) (I:=fun u=>True) (μ:=fun u=>0) (()) (aM) Sub.t (trivial)<|?_;rintro u w1 st1 _;simp only [CA,NA] at st1 ⊢;refine ba ?_;refine(bl) (fun b=>?_) fun b=>?_
 ·
  refine(eO) (wE (f:=f)) st1 fun w2 s2 st2=>?_;refine eE ?_;refine EX.xa (.inl rfl) rfl<|?_;exact⟨rfl,(St.cg st2)⟩
 exact cI b
set_option maxRecDepth 100000 in
theorem tS :CR prog 79 #[.slice a 0 c,f] w (.tuple #[]):=by
 refine enter func79 rfl ntmps79 rfl<|?_;have aM:=St.s0 w;refine hY ?_;refine WP .r ((show PV prog _ _ _ _ (.int .u64 0) from⟨rfl,rfl,fun _ _ _ _=>rfl⟩))<|(eO) (qd) aM fun w1 s1 st1=>?_;refine(eO) (wF (f:=f)) st1 fun w2 s2 st2=>?_;refine nx ?_;refine EX.xa (.inr rfl) rfl<|?_;exact⟨rfl,(St.cg st2)⟩
theorem wG :CR prog 163 #[.slice a 0 c,.int .i64 0,.int .i64 0,f] w (.tuple #[]):=by
 refine enter func163 rfl ntmps163 rfl<|?_;have aM:=St.s0 w;refine ho ?_;refine WC.bq (σ:=Unit) (cX:=fun u=>[(0,.slice a 0 c),(1,.int .i64 0),(2,.int .i64 0),(3,f),(8,.int .i64 1)]) (F:=fun u=>[]) (I:=fun u=>True) (μ:=fun u=>0) (()) (aM) Sub.t (trivial)<|?_;rintro u w1 st1 _;simp only [CA,NA] at st1 ⊢;refine(bl) (fun g14=>?_) fun g14=>?_
 ·
  exact cI g14
 refine cv ?_;refine EX.xa (.inr rfl) rfl<|?_;exact⟨rfl,(St.cg st1)⟩
theorem wH :CR prog 125 #[.slice a 0 c,.int .i64 0,.int .i64 0,.int .i64 0,f] w (.tuple #[]):=by
 refine enter func125 rfl ntmps125 rfl<|?_;have aM:=St.s0 w;refine hY ?_;refine WC.bq (σ:=Unit) (cX:=fun u=>[(0,.slice a 0 c),(1,.int .i64 0),(2,.int .i64 0),(3,.int .i64 0),(4,f),(10,.bool true),(11,.bool true)]) (F:=fun u=>[]) (I:=fun u=>True) (μ:=fun u=>0) (()) (aM) Sub.t (trivial)<|?_;rintro u w1 st1 _;simp only [CA,NA] at st1 ⊢;refine ba ?_;refine(bl) (fun b=>?_) fun b=>?_
 ·
  refine(eO) (wG (f:=f)) st1 fun w2 s2 st2=>?_;refine eE ?_;refine EX.xa (.inl rfl) rfl<|?_;exact⟨rfl,(St.cg st2)⟩
 exact cI b
set_option maxRecDepth 100000 in
theorem tT :CR prog 75 #[.slice a 0 c,f] w (.tuple #[]):=by
 refine enter func75 rfl ntmps75 rfl<|?_;have aM:=St.s0 w;refine hY ?_;refine WP .r ((show PV prog _ _ _ _ (.int .u64 0) from⟨rfl,rfl,fun _ _ _ _=>rfl⟩))<|(eO) (qd) aM fun w1 s1 st1=>?_;refine(eO) (wH (f:=f)) st1 fun w2 s2 st2=>?_;refine nx ?_;refine EX.xa (.inr rfl) rfl<|?_;exact⟨rfl,(St.cg st2)⟩
set_option maxHeartbeats 400000
theorem tU{l:List (Rec × RL)}(b:St w M Z w [As.os RR.xW 47 8 a n c l]) (hn:l.length≤1000000):Calls prog 75 #[.slice a n c,.func (.func 76) #[] #[]] w fun e w'=>e=.returned (.tuple #[])∧∃l',l'.Perm l∧(l'.Pairwise fun x y=>¬bj y.1.key x.1.key<0)∧St w M Z w' [As.os RR.xW 47 8 a n c l']:=by
 by_cases h:l=[]
 ·
  have hl:=(As.gs b.g0).len;subst h;have hl:n=0:=hl;subst hl;refine tT.mono<|?_;rintro e w' ⟨rfl,hc⟩;exact⟨rfl,[],.nil,.nil,b.step hc⟩
 exact tV b h hn
set_option maxHeartbeats 1600000 in
theorem tW(gV:St w M Z w [As.blk wb 86 (D.wc v rev ra rn rc),As.map Key.val D.m cS,As.dR 47 lf l]) (F1:Rd RR.aC 4 Z w D.a1 D.n1 D.c1 aC) (H:cy l lf cS) (hs:lk l) (h6:l.length≤4000) (h7:aC.length≤4000):Calls prog 36 #[.pointer (some ⟨wb,0,none⟩)] w fun e w'=>∃(a1 a2:Option Addr) (n1 e1 n2 e2:Nat) (Z':Nat→Prop),e=.returned (.agg (bZ.row ⟨rev,aC,l⟩ a1 n1 e1 a2 n2 e2).toArray)∧eI w.heap.size Z Z'∧St w M Z' w' [As.blk wb 86 (D.wc v rev ra rn rc),As.os RR.aC 88 4 a1 n1 e1 aC,As.os RR.iz 47 8 a2 n2 e2 l]:=by
 refine enter func36 rfl ntmps36 rfl<|?_;have aM:=gV;have st1:=aM.fr F1;refine(fF) st1 fun b2 w1 QU Da st2=>?_;refine(lj) cq st2.b2<|(fF) st2 fun b3 w2 Ui KP ka=>?_;refine(dH) iJ ka fun w3 oB qx jW=>?_;refine ho ?_;refine WP .r (PV.ld1 (j:=2) hV jW.b3 rfl rfl)<|?_;have X:=jW;refine(c6) MR (kD X.e0 (As.gr X.g2) (by omega)) ?_;rintro _ w4 ⟨o1,o2,o3,rfl,tN⟩;have jt:=St.lr X tN;refine nx ?_;refine WL.s1 jt.p1 fun w5 _ mi=>?_;refine nx ?_;refine WL.s1 mi fun w6 _ J=>?_;refine cv ?_;have Y:=((As.gm J.g5)).nodup;refine(bF) dD J.b4<|?_;refine WL.go rfl (OX.range dE (As.gm J.g5) rfl rfl fun K w7 sI JR UK=>?_);have oo:=J.p5;have gj:=oo.gS (B:=As.HN Key.val K D.m cS cS none) (sI.p.mono (fun x _ d=>by cases d)) UK (fun x d=>by rcases d with h | h;exact .inr (h ▸ JR);exact .inl h);refine cM ?_;have e7:=gj.gx RR.xW 47 8;have eF:=e7.fact (B:=As.fz (mN [])) mN.nil (fun _ d=>d);refine WC.lG (σ:=(List (Key × Value)) × (Option (Key × Value)) × (List (Rec × RL)) × (Option Addr) × Nat × Nat × (Nat→Prop)) (cX:=fun(left,cur,L,g,o,s,z)=>[(2,.pointer (some ⟨b2,0,none⟩)),(3,.pointer (some ⟨b3,0,none⟩)),(22,.pointer (some ⟨K,0,none⟩))]) (F:=fun(left,cur,L,g,o,s,z)=>[As.HN Key.val K D.m cS left cur,As.blk b3 31 [.int .i64 rev,.slice o1 o2 o3,.slice g o s],As.os RR.xW 47 8 g o s L,As.fz (mN L)]) (I:=fun(left,cur,L,g,o,s,z)=>(Cd l cS left L)∧(∀q∈left,q∈cS)∧(eI w.heap.size Z z)∧True) (μ:=fun(left,cur,L,g,o,s,z)=>left.length) (Zf:=fun(left,cur,L,g,o,s,z)=>z) (cS,none,[],none,0,0,_) (eF.p1.p3.p3) Sub.t (⟨Cd.start,fun _ h=>h,eI.refl _ _,trivial⟩)<|?_;rintro⟨left,cur,L,g,o,s,z⟩ w8 N ⟨O,JS,qz,_⟩;simp only [CA,NA] at N O JS qz ⊢;have YT:=((As.gs N.g2)).len;have hLl:=O.len H Y;refine cm ?_;refine WL.go rfl (OX.next ((As.Ef N.g0)) rfl rfl fun rN Dd w9 sN hN UM=>?_);have gi:=N;have C:=gi.gS (B:=As.HN Key.val K D.m cS Dd rN) (sN.p.mono (fun x _ d=>by simp at d;exact .inl d)) UM (fun x d=>.inl d);refine WP .r (PV.ext rfl (yM _))<|(bl) (fun g24=>?_) fun g24=>?_
 ·
  obtain⟨p,rfl⟩:=Option.isSome_iff_exists.1 g24;obtain⟨P,vp⟩:=p;obtain⟨jN,Q,rfl⟩:=hN;have KW:=JS _ (List.mem_of_getElem? Q);obtain⟨r1,E⟩:=(H.key (k:=P)).1 (List.mem_map.2 ⟨_,KW,rfl⟩);have Q3:=H.yes E
  have hvp:vp=.pointer (some ⟨(lf P).b,0,none⟩):=by rw [(oN Y).2 KW] at Q3;exact Option.some.inj Q3
  subst hvp;refine dz ?_;refine WP .r (PV.entry (As.Ef C.g0) rfl)<|cv ?_;have F3:=(((As.nJ C.g8)).1 _ _ E).2.2;have G:=C.fact (As.DZ (((((As.nJ C.g8)).1 _ _ E).2.1))) (fun _ d=>d);have aco:=G.size;refine WC.cz (m:=7) [] [5,6] [2,3,4,5,6,0,1] [] G (av.k4 M0 M1 M2 M3<|av.k4 M4 M5 M6 M7<|av.cons M8<|av.cons M9<|av.nil) mixed (by kernel_rfl) (by kernel_rfl) rfl<|?_
  iterate 2 refine DG.a ?_
  refine DQ .r (fun wx Zx Rx _ nj sn=>VA dV (bC.range ((As.nJ (nj.sv sn).g9).1 _ _ E).1) .r)<|(gR) (fun oC KX Ax R mh=>?_);simp only [CA,NA] at R;have u:=R;refine OX.call Jc rfl rfl ((k7 u.e0 (As.gr u.g0) F3).mono ?_);rintro _ qy ⟨q1,T,U,rfl,wI⟩;have V:=St.lr u wI;have hgq:=St.gg wI;have Vl:=u.size;have W:=V.dM (by omega);have F4:=qz.trans (eI.uS (F:=fun x=>x∈bN q1) hgq) Vl;refine⟨_,rfl,wI.cH.size,_,rfl,_,_,_,W,aG.k4<|aG.k4<|aG.k2<|aG.cons<|aG.nil,av.k4 M1 M2 M3 M4<|av.k4 M5 M6 M7 M8<|av.cons M9<|av.cons nW<|av.nil,?_⟩;refine(gR) (fun uy Uy JM gl Dc=>?_);simp only [CA,NA] at gl;refine OX.bf (us:=(Rec.tf ((r1,(⟨0,q1,T,U⟩:RL)):Rec × RL))) Cw rfl rfl rfl rfl fun FP wY Av JJ=>?_;have ig:=gl.dG Av JJ;refine⟨Av.ext.size,_,rfl,_,_,_,ig,aG.k4<|aG.k4<|aG.k4<|aG.nil,av.k4 M2 M3 M4 M5<|av.k4 M6 M7 M8 M9<|av.cons nW<|av.cons qq<|av.nil,?_⟩;refine(wW) iH SV.g2<|(lJ)<|?_;intro C6 C4 fY;simp only [CM,NM,CA,NA,iv.it] at fY;refine WL.ap rfl rfl fY.p5 (SR.dU (A:=fun _=>True) (x:=((r1,(⟨0,q1,T,U⟩:RL)):Rec × RL)) (As.gb fY.g0) trivial rfl (Rec.Ia _) rfl) fun QS FQ C9 Ou Ov ij=>?_;refine nx ?_;refine WL.s1 ij.p5 fun Aw _ fb=>?_;refine WL.nil (EX.np ?_);have eH:=fb.fact (B:=As.fz (mN (L++[(r1,(⟨0,q1,T,U⟩:RL))]))) (mN.snoc (As.gf fb.g6) (As.gr fb.g3) F3) (fun _ d=>d);have gC:=eH.p7.drop;refine nx ?_;refine EX.again (left.eraseIdx jN,some (P,.pointer (some ⟨(lf P).b,0,none⟩)),L++[(r1,(⟨0,q1,T,U⟩:RL))],_,_,_,_) Sub.t ⟨gC.p3.drop.p3.drop.p3.drop.p2.p2.p3,⟨O.next Q E,fun q hq=>JS q (List.mem_of_mem_eraseIdx hq),F4,trivial⟩⟩ (by simp only [];rw [List.length_eraseIdx_of_lt (List.getElem?_eq_some_iff.1 Q).1];have:=(List.getElem?_eq_some_iff.1 Q).1;omega)
 have zN:rN=none:=by simpa using g24
 subst zN;obtain⟨rfl,rfl⟩:=hN;refine(bF) iH C.b1<|?_;have G:=C.p2;refine(c6) Tw (tU G.e1 (by omega)) ?_;rintro _ oC ⟨rfl,L2,yE,zt,Di⟩;have R:=St.lr G Di;have hLf:=O.done H Y hs yE zt;have u:=R;have V:=u.conv (B:=As.os RR.iz 47 8 g o s l) (hLf ▸ mN.iz (As.gs u.g0) (fun y hy=>(As.gf u.g3) y (yE.mem_iff.1 hy))) (fun _ h=>h);refine(bS) cq V.b2<|(dH) iJ V.p5 fun qy Ap uV W=>?_;refine(nC) cq W.b0<|?_;exact⟨o1,g,o2,o3,o,s,_,rfl,qz,W.p1.p5.p7.k3⟩
set_option maxHeartbeats 400000
theorem q5(z:St w M Z w []) (B:Rd RR.aC 4 Z w a1 n1 e1 x.ab) (hr:Rd RR.iz 8 Z w a2 n2 e2 x.ai):Calls prog 13 #[.agg (x.row a1 n1 e1 a2 n2 e2).toArray,k.val] w fun e w'=>e=.returned (.tuple #[.string (iy x k),.bool (fo x k)])∧St w M Z w' []:=by
 refine enter func13 rfl ntmps13 rfl<|?_;have aM:=z;have st1:=aM.fr B;have st2:=st1.fr hr;refine(dt) st2 fun b2 w1 I J C=>?_;refine(dt) C fun b3 w2 K L u=>?_;refine(bS) aq u.b0<|(eO) (bM (k:=k)) u fun w3 N b=>?_;refine(bl) (fun g9=>?_) fun g9=>?_
 ·
  have d:fo x k=true:=by unfold fo;rw [g9];rfl
  have j:iy x k=(aL x.ab k).value:=by unfold iy;rw [if_pos g9]
  refine(bS) cq b.b1<|(bS) aq b.b0<|(eO) (nR (As.gr b.g3) (As.gr b.g2)) b fun w4 O m=>?_;refine(xt) ?_;exact⟨by rw [d,j],m.k0⟩
 skip
 refine(bF) iH b.b1<|(bS) aq b.b0<|?_;have m:=b;refine(c6) Te (tH (k:=k) m.e0 (As.gr m.g2)) ?_;rintro _ w4 ⟨f1,f2,f3,rfl,_,E⟩;have F:=St.lr m E;refine(fF) F fun P w5 Q R G=>?_;refine(dH) iK G fun w6 T U o=>?_;refine dz ?_;refine WC.eC (t:=28) (v:=.bool (!((ay x.ai k).isSome && decide ((aD x.ai k).ak=x.ad)))) o ?_<|?_
 ·
  refine(c7) (fun g22=>?_) (fun g22=>?_)
  ·
   exact(cP) (tG g22) (o)
  refine(bF) aT o.b0<|(bF) aT o.b3<|?_;exact(cP) (tG g22) (o)
 intro w7 p;refine(bl) (fun q=>?_) fun q=>?_
 ·
  have dF:ax k=false:=by simpa using g9
  have d:fo x k=false:=by
   unfold fo
   rw [dF,Bool.false_or,Bool.eq_false_iff];intro s;rw [Bool.and_eq_true] at s;have y:=s.1;have H:=of_decide_eq_true s.2;have g:=q
   simp at g
   exact g.elim (fun h=>by rw [h] at y;cases y) fun h=>h H
  have j:iy x k=⟨#[]⟩:=by unfold iy;rw [if_neg (by rw [dF];simp),if_neg (by rw [d];simp)]
  refine(xt) ?_;exact⟨by rw [d,j],p.k0⟩
 have dF:ax k=false:=by simpa using g9
 have d:fo x k=true:=by unfold fo;rw [dF,Bool.false_or];simpa using q
 have j:iy x k=(aD x.ai k).value:=by unfold iy;rw [if_neg (by rw [dF];simp),if_pos d]
 refine(bF) e4 p.b0<|(xt) ?_;exact⟨by rw [d,j],p.k0⟩
set_option maxHeartbeats 400000
theorem qe{pb:Nat}(hk:eV aa k) (b:bC w pb 27 [.slice ar r cr]) (hu:eJ A w ar r cr aa):CR prog 65 #[k.val,.pointer (some ⟨pb,0,none⟩)] w (.bool false):=by
 refine enter func65 rfl ntmps65 rfl<|?_;have aM:=St.s0 w;refine(dt) aM fun b2 w1 d e st1=>?_;refine dz ?_;refine WP .r (PV.j1 vD (bC.range (b.ext (St.cg st1))) rfl rfl)<|(bS) aq st1.b0<|(eO) (q6 hk (hu.ext (St.cg st1))) st1 fun w2 s2 st2=>?_;refine(bJ) ?_;exact⟨rfl,(St.cg st2)⟩
theorem qf{l:List Key}(hu:eJ A w ar r cr aa) (g:Rd RR.aC 4 Z w a1 n1 e1 x.ab) (hr:Rd RR.iz 8 Z w a2 n2 e2 x.ai) (h:ao aa) (j:po aa x) (e:Rd RR.key 2 Z w ag ng eg l) (hk:∀k∈l,eV aa k) (o:l.length≤32):CR prog 30 #[.slice ar r cr,.agg (x.row a1 n1 e1 a2 n2 e2).toArray,.slice ag ng eg] w (.int .i64 0):=by
 have q:=e.len;refine enter func30 rfl ntmps30 rfl<|?_;have aM:=St.s0 w;refine(dt) aM fun b3 w1 s t st1=>?_;refine(dt) st1 fun b4 w2 y z st2=>?_;refine eE ?_;refine WP .r (PV.j1 vD st2.b1 rfl rfl)<|(eO) (pW (hu.ext (St.cg st2)) h) st2 fun w3 B b=>?_;refine cv ?_;refine WC.dw rfl<|(bS) cq b.b0<|(eO) (nn (g.ext (St.cg b)) (hr.ext (St.cg b)) j) b fun w4 C d=>?_;refine cv ?_;refine WC.dw rfl<|(bl) (fun g15=>?_) fun g15=>?_
 ·
  exact absurd (of_decide_eq_true g15) (by omega)
 skip
 refine cM ?_;refine WP .r (PV.func (us:=[]) (vs:=[.pointer (some ⟨b3,0,none⟩)]) rfl rfl)<|?_;refine WL.c1 (u:=.bool false) (mj (p:=fun _=>false) Tp (e.ext (St.cg d)) (fun w1 h1 k hm=>qe (hk k hm) (((As.gb d.g1)).ext h1) ((hu.ext (St.cg d)).ext h1))) (by rw [List.any_eq_false.2 (fun _ _=>by simp)]) d fun w5 E m=>?_;refine cM ?_;refine WC.dw rfl<|(bJ) ?_;exact⟨rfl,(St.cg m)⟩
set_option maxHeartbeats 400000
theorem tX{l:List Key}(b:St w M Z w [As.os RR.key 41 2 a n c l]) (hn:l.length≤1000000):Calls prog 79 #[.slice a n c,.func (.func 77) #[] #[]] w fun e w'=>e=.returned (.tuple #[])∧∃l',l'.Perm l∧(l'.Pairwise fun x y=>¬bj y x<0)∧St w M Z w' [As.os RR.key 41 2 a n c l']:=by
 by_cases h:l=[]
 ·
  have hl:=(As.gs b.g0).len;subst h;have hl:n=0:=hl;subst hl;refine tS.mono<|?_;rintro e w' ⟨rfl,hc⟩;exact⟨rfl,[],.nil,.nil,b.step hc⟩
 exact nU b h hn
theorem qg{l:List Key}(q:St w M Z w []) (hl:Rd RR.key 2 Z w a n c l) (g:l.Nodup) (hn:l.length≤1000000):Calls prog 37 #[.slice a n c] w fun e w'=>∃h j m,∃l':List Key,e=.returned (.slice h j m)∧sV l'∧l'.Perm l∧St w M Z w' [As.os RR.key 41 2 h j m l']:=by
 refine enter func37 rfl ntmps37 rfl<|?_;have aM:=q;have st1:=aM.fr hl;refine ho ?_;have st2:=st1;refine(c6) CN (fU st2.e0 (As.gr st2.g0) hn) ?_;rintro _ w1 ⟨b1,b2,c1,rfl,s⟩;have t:=St.lr st2 s;refine fE ?_;have o:=t;refine(c6) MT (tX o.e1 hn) ?_;rintro _ w2 ⟨rfl,d,b,u,y⟩;have p:=St.lr o y;have E:d.length=l.length:=b.length_eq;have z:d.Nodup:=b.nodup_iff.2 g;have B:=sX b g u;refine(eO) (jl (Ow.rd (As.gs p.g0) (by omega)) z) p fun w3 F C=>?_;refine(bJ) ?_;exact⟨b1,_,c1,d,rfl,B,b,C.p1.drop⟩
theorem qh{l:List Key}(j:St w M Z w []) (hl:Rd RR.key 2 (fun x=>Z x∨x∈bN a) w a n c l) (o:∀x∈bN a,x<w.heap.size) (p:l.Nodup) (hn:l.length≤1000000):Calls prog 37 #[.slice a n c] w fun e w'=>∃b d g,∃l':List Key,e=.returned (.slice b d g)∧sV l'∧l'.Perm l∧St w M Z w' [As.os RR.key 41 2 b d g l']:=by
 have q:St w M (fun x=>Z x∨x∈bN a) w []:=⟨j.cH,fun x s=>s.elim (j.kc x) (o x),by simp,by simp,.nil,by simp⟩;refine(qg q hl p hn).mono<|?_;rintro e w' ⟨b,d,g,l',rfl,t,u,m⟩;exact⟨b,d,g,l',rfl,t,u,m.Sf (fun _ h=>.inl h) (Ow.z (As.gs m.g0))⟩
theorem wJ{L:List (bT × ek)}{f:bT}{A:ek}(G:St w M Z w [As.map Key.val S.m ml,As.map Key.val S.q [],As.blk wb 86 (D.wc S.s rev ra rn rc),As.map Key.val D.m cS,As.dR 47 lf l,As.os RR.key 41 2 ra rn rc bO,As.os RR.gU 126 6 al nl el (L++[(f,A)]),As.many (r7 41 9 (L++[(f,A)]))]) (X:(S.FV prog aa x0).p Z w) (Y:Rd RR.aC 4 Z w D.a1 D.n1 D.c1 x0.ab) (O1:Rd RR.eU 4 Z w D.ar D.r D.cr aa) (hm:aR aa x0.ab ml) (H:cy l lf cS) (I:ao aa) (J:∀k,(valOf aa x0.ab k).size≤1000) (K:KR aa l) (N:L.length≤1000) (U6:bO.length≤100000) (Q0:cS.length<4000) (O:fX aa f) (hi:i<aa.length) (U7:f.key=aK aa (i:Int)) (hsz:∀s∈f.ae,s.size≤1000) (h6:l.length≤4000) (KY:∀r∈l,r.reads.length≤4000) (R6:∀r∈l,r.ak≤rev):Calls prog 35 #[.pointer (some ⟨wb,0,none⟩),.slice al nl el,.func (.func 34) #[] #[]] w fun e w'=>∃(l':List Rec) (P:Key→RL) (Q j:List (Key × Value)) (L':List (bT × ek)) (rk:List Key) (d:Bool) (g:Int) (a R:Option Addr) (n c T U:Nat) (Z':Nat→Prop),e=.returned (.tuple #[.slice a n c,.bool d,.int .i64 g])∧FS aa (valOf aa x0.ab) ⟨rev,x0.ab,l⟩ (L.map Prod.fst) f ⟨rev,x0.ab,l'⟩ (L'.map Prod.fst) rk g∧(g=0→L'.map Prod.fst≠L.map Prod.fst++[f])∧cy l' P Q∧aR aa x0.ab j∧eP ml j∧eI w.heap.size Z Z'∧St w M Z' w' [As.map Key.val S.m j,As.map Key.val S.q [],As.blk wb 86 (D.wc S.s rev R T U),As.map Key.val D.m Q,As.dR 47 P l',As.os RR.key 41 2 R T U (bO++rk),As.os RR.gU 126 6 a n c L',As.many (r7 41 9 L')]:=by
 have OS:=(As.gs G.g6).len;rw [List.length_append,List.length_singleton] at OS;refine enter func35 rfl ntmps35 rfl<|?_;have aM:=G;have st1:=aM.fr Y;have st2:=st1.fr O1;have h:=st2.fact (B:=As.fz (S.FV prog aa x0)) X (fun _ hx=>hx);refine oa ?_;obtain⟨jq,V⟩:=Ow.addr (As.gs h.g9) (ck L (f,A));refine cv ?_;refine WP .r ((PV.sub rfl rfl (by omega) (by omega)).cast (v':=.int .i64 (L.length:Int)) (congrArg (Value.int .i64) (by omega)))<|WP .r (PV.ef pL (i:=L.length) V rfl rfl (by omega))<|(bF) ed (Ow.n5 (As.gs h.g9) (by rw [List.length_append,List.length_singleton];omega) V (ck L (f,A)))<|(bl) (fun g15=>?_) fun g15=>?_
 ·
  have o:f.running=true:=g15;refine dz ?_;have b:=h.oU.oU.oU.oU.oU.oU.oU.oU;refine(c6) Tu (yr b.e8 (As.gf b.g8) (As.gr b.g10) (As.gr b.g9) hm H I J K N U6 Q0 O hi U7 hsz o) ?_;rintro _ w1 ⟨l1,lf1,Vm,t,L1,rk,d,g,a1,BN,n1,c1,rn1,rc1,Z1,rfl,J5,AY,u,y,z,W,C⟩;have E:=St.lv b C W;have qz:=W.le b.size;refine mG ?_;refine EX.gJ rfl (RS.tmp rfl<|RS.tmp rfl<|RS.tmp rfl<|RS.nil) rfl<|?_;exact⟨l1,lf1,Vm,t,L1,rk,d,g,a1,BN,n1,c1,rn1,rc1,_,rfl,J5,AY,u,y,z,qz,E.p8.drop.p8.drop.p8.drop⟩
 have o:f.running=false:=by simpa using g15
 refine eE ?_;have b:=h.p9.p8.p8.p8.p8.p8;refine(c6) Tv (tP b.e6 (As.gf b.g6) (As.gr b.g8) hm H I J K N o h6 KY R6 O.R4) ?_;rintro _ w1 ⟨l1,L1,d,g,a1,n1,c1,t,rfl,F,u,y,z,C⟩;have E:=St.lr b C;refine oa ?_;have jt:=E.oU;have mi:=St.Sm jt F.2.2;have kF:=mi.oU.rE (B:=As.os RR.key 41 2 ra rn rc (bO++[])) (by rw [List.append_nil]);refine EX.gJ rfl (RS.tmp rfl<|RS.tmp rfl<|RS.tmp rfl<|RS.nil) rfl<|?_;exact⟨l1,lf,cS,t,L1,[],d,g,a1,ra,n1,c1,rn,rc,_,rfl,F.1,F.2.1,u,y,z,eI.refl _ _,kF.p8.drop.p8.drop.p8.drop.p7.p1.p7.p7.p7.p7.p7⟩
set_option maxHeartbeats 4000000 in
theorem eQ{goals:List Key}(gV:St w M Z w []) (ht:kb prog Z w) (hu:Rd RR.eU 4 Z w ar r cr aa) (F1:Rd RR.aC 4 Z w a1 n1 e1 x.ab) (hr:Rd RR.iz 8 Z w a2 n2 e2 x.ai) (hg:Rd RR.key 2 Z w ag ng eg goals) (u:ao aa) (d:LC aa x) (hk:∀k∈goals,eV aa k) (h32:goals.length≤32):Calls prog 11 #[.slice ar r cr,.agg (x.row a1 n1 e1 a2 n2 e2).toArray,.slice ag ng eg] w fun e w'=>∃(b':bZ) (bO rs:List Key) (YU YV YW:Option Addr) (YX YY YZ Y0 Y1 Y2:Nat) (Z':Nat→Prop),e=.returned (.tuple #[.agg (b'.row YU YX YY YV YZ Y0).toArray,.slice YW Y1 Y2,.int .i64 0])∧eM aa (valOf aa x.ab) goals x b' [] bO∧b'.ab=x.ab∧(∀k∈goals,ax k=true∨aA b' k=true)∧sV rs∧rs.Perm bO∧eI w.heap.size Z Z'∧St w M Z' w' [As.os RR.aC 88 4 YU YX YY b'.ab,As.os RR.iz 47 8 YV YZ Y0 b'.ai,As.os RR.key 41 2 YW Y1 Y2 rs]:=by
 have O5:=d.lb.BM;have hS:=d.lb.small u;have hgn:=hg.len;refine enter func11 rfl ntmps11 rfl<|?_;have aM:=gV;have st1:=aM.fr hu;have st2:=st1.fr F1;have ka:=st2.fr hr;have jW:=ka.fr hg;have mf:=jW.fact (B:=As.fz (FZ.LP prog)) ht (fun _ d=>d);refine(dt) mf fun b4 w1 FK FL jt=>?_;refine(fF) jt fun b6 w2 Jp Jq W=>?_;refine(bS) cq W.b1<|(eO) (qf (As.gr W.g6) (As.gr W.g5) (As.gr W.g4) u O5 (As.gr W.g3) hk h32) W fun w3 s3 kF=>?_;refine(bl) (fun g22=>?_) fun g22=>?_
 ·
  exact cI g22
 refine(bS) cq kF.b1<|?_;have R:=kF;refine(c6) S6 (tY (x:=x) R.e0 (As.gf R.g2) (As.gr R.g6) (As.gr R.g5) (As.gr R.g4) O5.2.2.2.2.2.2.2.1 (Nat.le_trans O5.2.2.2.2.1 (by decide)) O5.2.2.2.2.2.2.1) ?_;rintro _ w4 ⟨D,S,wb,lf0,Vn,Z1,rfl,Y3,wD,hfv,hdi,Vo,tN⟩;have gj:=St.lv R tN wD;have J6:=wD.le R.size;have e7:=gj.fact (B:=As.fz (S.FV prog aa x)) hfv (fun _ d=>d);have eF:=e7.fr (hdi);have gk:=eF.fr (Vo);refine mG ?_;have gi:=gk.gx RR.key 41 2;refine cm ?_;refine WC.lG (σ:=Nat × (List Rec) × (Key→RL) × (List (Key × Value)) × (List (Key × Value)) × (List Key) × (Option Addr) × Nat × Nat × (Nat→Prop)) (cX:=fun(i,l1,z,C,E,h,BN,G,H,T)=>[(4,.pointer (some ⟨b4,0,none⟩)),(6,.pointer (some ⟨b6,0,none⟩)),(10,.pointer (some ⟨wb,0,none⟩)),(29,.slice ag ng eg),(30,.int .i64 (ng:Int)),(31,.int .i64 (i:Int))]) (F:=fun(i,l1,z,C,E,h,BN,G,H,T)=>[As.map Key.val S.m E,As.blk wb 86 (D.wc S.s x.ad BN G H),As.map Key.val D.m C,As.dR 47 z l1,As.os RR.key 41 2 BN G H h]) (I:=fun(i,l1,z,C,E,h,BN,G,H,T)=>(i≤ng)∧(eM aa (valOf aa x.ab) goals x ⟨x.ad,x.ab,l1⟩ [] h)∧(cy l1 z C)∧(aR aa x.ab E)∧(∀y∈goals.take i,(ax y=true∨aA ⟨x.ad,x.ab,l1⟩ y=true))∧(eI w.heap.size Z T)∧True) (μ:=fun(i,l1,z,C,E,h,BN,G,H,T)=>ng - i) (Zf:=fun(i,l1,z,C,E,h,BN,G,H,T)=>T) (0,x.ai,lf0,Vn,[],[],none,0,0,_) (gi.p8.p8.p8.p7) Sub.t (⟨Nat.zero_le _,.start,Y3,aR.nil,by simp,J6,trivial⟩)<|?_;rintro⟨i,l1,z,C,E,h,BN,G,H,T⟩ w5 ee ⟨hi,Dj,F5,FU,pZ,qz,_⟩;simp only [CA,NA] at ee hi Dj F5 FU pZ qz ⊢;refine(bl) (fun Vp=>?_) fun Vp=>?_
 ·
  simp at Vp
  have Az:i<goals.length:=by omega
  have Uh:cn goals[i]:=(hk _ (List.getElem_mem Az)).cn;obtain⟨_,Vq,_⟩:=Dj.ready u d hk;refine dz ?_;obtain⟨jq,tw,pS,fy,jT,mn,iL,iM⟩:=Rd.at (As.gr ee.g12) Az;have mn:=RR.bp mn;subst mn;have gB:=ee.fg iM iL;refine nx ?_;refine WP .r (PV.ef fR fy rfl rfl (by omega))<|(bS) aq (As.mF gB.g0)<|(fF) gB fun b12 w6 acz acA X=>?_;refine(dH) gz X fun w7 oB qx eG=>?_;refine(bS) aq eG.b0<|?_;have J:=eG;refine(c6) S7 (we (aC:=x.ab) (k:=goals[i]) J.e0 (As.gb J.g3) (As.gm J.g4) F5 (As.nJ J.g5) Vq Uh) ?_;rintro _ w8 ⟨o1,o2,o3,rfl,k8⟩;have Y:=St.lr J k8;refine cm ?_;have gl:=St.Ib (EK:=41) (ES:=9) (k:=goals[i]) (c:=cG ⟨x.ad,x.ab,l1⟩ [] goals[i]) Y;refine cm ?_;refine WC.lG (σ:=(List Rec) × (Key→RL) × (List (Key × Value)) × (List (Key × Value)) × (List Key) × (Option Addr) × Nat × Nat × (Nat→Prop) × (List (bT × ek)) × (Option Addr) × Nat × Nat) (cX:=fun(b,K,N,dW,o,O,P,Q,U,L,al,nl,el)=>[(4,.pointer (some ⟨b4,0,none⟩)),(6,.pointer (some ⟨b6,0,none⟩)),(10,.pointer (some ⟨wb,0,none⟩)),(13,.slice al nl el),(29,.slice ag ng eg),(30,.int .i64 (ng:Int)),(31,.int .i64 (i:Int))]) (F:=fun(b,K,N,dW,o,O,P,Q,U,L,al,nl,el)=>[As.map Key.val S.m dW,As.blk wb 86 (D.wc S.s x.ad O P Q),As.map Key.val D.m N,As.dR 47 K b,As.os RR.key 41 2 O P Q o,As.os RR.gU 126 6 al nl el L,As.many (r7 41 9 L)]) (I:=fun(b,K,N,dW,o,O,P,Q,U,L,al,nl,el)=>(eM aa (valOf aa x.ab) goals x ⟨x.ad,x.ab,b⟩ (L.map Prod.fst) o)∧(cy b K N)∧(aR aa x.ab dW)∧(∀y∈goals.take i,(ax y=true∨aA ⟨x.ad,x.ab,b⟩ y=true))∧(ax goals[i]=true∨aA ⟨x.ad,x.ab,b⟩ goals[i]=true∨∃g q,L.map Prod.fst=g::q∧g.key=goals[i])∧(eI w.heap.size Z U)∧True) (μ:=fun(b,K,N,dW,o,O,P,Q,U,L,al,nl,el)=>KJ aa ⟨x.ad,x.ab,b⟩ (L.map Prod.fst)) (Zf:=fun(b,K,N,dW,o,O,P,Q,U,L,al,nl,el)=>U) (l1,z,C,E,h,BN,G,H,_,(if cG ⟨x.ad,x.ab,l1⟩ [] goals[i]=true then [((⟨goals[i],false,0,[],[]⟩:bT),(⟨none,0,0,none,0,0⟩:ek))] else []),o1,o2,o3) (gl.p1.p8.p8.p8.p8.p8) Sub.t (⟨eM.taken Dj (List.getElem_mem Az),F5,FU,pZ,zX,qz,trivial⟩)<|?_;rintro⟨b,K,N,dW,o,O,P,Q,U,L,al,nl,el⟩ w9 p ⟨V,oq,yP,xQ,Ma,F4,_⟩;simp only [CA,NA] at p V oq yP xQ Ma F4 ⊢;refine(bl) (fun K2=>?_) fun K2=>?_
  ·
   simp at K2
   have YT:=((As.gs p.g5)).len;obtain⟨Lp,f,A,rfl⟩:=EB (L:=L) (by omega);simp only [List.map_append,List.map_cons,List.map_nil] at V Ma;obtain⟨acB,Vr,hp6,GX,O6,Vs,Vt,qA,acD,Vu⟩:=V.ready u d hk;obtain⟨hfo,⟨j,hj,RA⟩,hsz⟩:=Vu f (by simp);have hmn:=oq.len ((As.gm p.g2)).nodup
   have hp7:Lp.length≤1000:=by simp at hp6;omega
   have O6:b.length<4000:=O6;refine eE ?_;have fY:=p.p6.p6.p6.p6.p6.p6.oV.p7;refine(c6) S9 (wJ (x0:=x) fY.e8 (As.gf fY.g12) (As.gr fY.g11) (As.gr fY.g10) yP oq u hS Vr hp7 GX (by omega) hfo hj RA hsz (by omega) Vs Vt) ?_;rintro _ oC ⟨l3,lf3,Vv,iO,L3,rk,d3,er,o4,ra3,o5,o6,rn3,rc3,Z5,rfl,J5,AY,Dk,Q1,JY,O7,Di⟩;have ij:=St.lv fY Di O7;have hZ5:=F4.trans O7 fY.size;obtain rfl:er=0:=V.Me u d hk J5
   replace AY:=AY rfl
   have Vw:=Ma.imp id (FS.bot J5);refine ba ?_;refine(bl) (fun Y4=>?_) fun Y4=>?_
   ·
    exact cI Y4
   refine eE ?_;refine EX.again (l3,lf3,Vv,iO,o++rk,ra3,rn3,rc3,_,L3,o4,o5,o6) Sub.t ⟨ij.oV.oV.oV.oV.oV.oV.oV.oV.oV.oV.oV.nZ,⟨V.step J5 AY,Dk,Q1,fun y hy=>(xQ y hy).imp id J5.QM,Vw,hZ5,trivial⟩⟩ (by simp only [List.map_append,List.map_cons,List.map_nil];exact V.less u d hk J5 AY)
  simp at K2
  have YT:=((As.gs p.g5)).len;obtain rfl:L=[]:=List.eq_nil_of_length_eq_zero (by omega);have J7:=EC Az xQ Ma;refine mG ?_;refine fJ (i+1,b,K,N,dW,o,O,P,Q,_) ⟨p.p5.drop.p5.drop.p5.drop.p5.drop,⟨by omega,V,oq,yP,J7,F4,trivial⟩⟩
 simp at Vp
 have lH:goals.take i=goals:=List.take_of_length_le (by omega);rw [lH] at pZ;obtain⟨hbk,_,_,GX,O6,_,_,zs,Vx,_⟩:=Dj.ready u d hk;have O6:l1.length<4000:=O6;refine fE ?_;refine WC.cz (m:=6) [] [1] [0,1,2,3,4,5] [] ee (av.cons M1<|av.nil) mixed (by kernel_rfl) (by kernel_rfl) rfl<|(gR) (fun w6 Yy OE gB GS=>?_);simp only [CA,NA] at gB;have X:=gB.p3.p3.p3;refine OX.call Ta rfl rfl ((tW X.e3 (As.gr X.g6) F5 Vx (by omega) (Nat.le_trans O5.2.2.2.2.1 (by decide))).mono ?_);rintro _ w7 ⟨s1,s2,s3,s4,s5,s6,Z6,rfl,O8,Dl⟩;have eG:=St.lv X Dl O8;have hZ6:=qz.trans O8 X.size;refine⟨_,rfl,Dl.cH.size,_,rfl,_,_,_,eG,aG.k4<|aG.k4<|aG.k4<|aG.k4<|aG.nil,av.cons M0<|av.nil,?_⟩
 iterate 3 refine DG.a ?_
 refine(wW) eD SV.g0<|(lJ)<|?_;intro w8 O4 J;simp only [CM,NM,CA,NA,iv.it] at J;have Y:=J;refine(c6) MO (qh Y.e0 (Ow.rd (As.gs Y.g4) (by omega)) (OR.lt (As.gs Y.g4)) zs (by omega)) ?_;rintro _ w9 ⟨q1,q2,q3,rs,rfl,Q4,KW,tQ⟩;have gl:=St.lr Y tQ;refine(dH) iJ gl.oU fun oC Ap uV p=>?_;refine cm ?_;refine WL.nil (EX.np ?_);refine cm ?_;refine EX.gJ rfl (RS.cell cq rfl p.b0 rfl<|RS.tmp rfl<|RS.tmp rfl<|RS.nil) rfl<|?_;exact⟨⟨x.ad,x.ab,l1⟩,h,rs,s1,s2,q1,s3,s4,s5,s6,q2,q3,_,rfl,Dj,rfl,pZ,Q4,KW,hZ6,p.p1.p4.p4.k3⟩
end Go.Rc

