/- Walks over the program, part WYk. Conditions: as each theorem says. -/
import Derived.Test.YtmpkegmkoclbhaaGreatDoorMFacts
import Derived.Test.YtmpkegmkoclbhaaGreatDoorMWYg
import Derived.Test.YtmpkegmkoclbhaaGreatDoorMWLibE
import Derived.Test.YtmpkegmkoclbhaaGreatDoorMWUa
import Derived.Test.YtmpkegmkoclbhaaGreatDoorMWZr
import Derived.Test.YtmpkegmkoclbhaaGreatDoorMBi
set_option linter.all false
namespace Go.Rc
open Go Go.Proofs Go.Proofs.Tryz
variable {v wb rn rc i r c e2 nl el n n1 e1 n2 cr ng eg:Nat}{rev:Int}{aC:List cv}{l:List Rec}{D:WD}{ra a a2 al a1 ar ag:Option Addr}{lf:Key→RL}{eH ml:List (Key × Value)}{bj:List Key}{f:Value}{w:World}{M Z A:Nat→Prop}{aa:List aG}{k:Key}{x0 x:cm}{S:SD}
set_option maxHeartbeats 400000
theorem F3{f:br}{A:eB}{value:ByteArray}(d:St w M Z w [As.blk wb 74 (D.wc v rev ra rn rc),As.map Key.val D.m eH,As.gy 88 lf l,As.os RR.key 40 2 ra rn rc bj,As.os RR.key 40 2 A.a A.n A.c f.reads]) (g:dw l lf eH) (h:f.reads.length≤4000) (hr:bj.length≤100000) (o:eH.length<4000):Calls prog 108 #[.pointer (some ⟨wb,0,none⟩),.agg (br.ov (f,A)).toArray,.string value] w fun e w'=>∃(q:RL) (a:Option Addr) (n c:Nat) (Z':Nat→Prop),e=.returned (.int .i64 0)∧bH w.heap.size Z Z'∧St w M Z' w' [As.blk wb 74 (D.wc v rev a n c),As.map Key.val D.m (cL eH f.key (.pointer (some ⟨q.b,0,none⟩))),As.gy 88 (wI lf f.key q) (eh l (bF ⟨rev,aC,l⟩ f.key value f.reads)),As.os RR.key 40 2 a n c (bj++[f.key]),As.os RR.key 40 2 A.a A.n A.c f.reads]:=by
 cases j:aA l f.key with
 | none=>exact C5 d g h hr j o
 | some r=>exact C6 d g h hr j
theorem xc{ae:List ByteArray}{B C:Nat→Prop}{r2:Nat}(d:k=aL aa (i:Int)) (ht:lE prog A w) (b:aq aa) (hi:i<aa.length) (hr:fR B w a r c aa) (hl:Strs C w a2 r2 e2 ae) (hsz:∀s∈ae,s.size≤1000):CR prog 107 #[.slice a r c,k.val,.slice a2 r2 e2] w ((aH aa k ae).val):=by
 have e:=b.len;subst d;rw [dU hi (by omega)];exact ll ht b hi hr hl hsz
set_option maxHeartbeats 4000000 in
theorem F4{L:List (br × eB)}{f:br}{A:eB}(gE:St w M Z w [As.map Key.val S.m ml,As.map Key.val S.q [],As.blk wb 74 (D.wc S.s rev ra rn rc),As.map Key.val D.m eH,As.gy 88 lf l,As.os RR.key 40 2 ra rn rc bj,As.os RR.im 115 6 al nl el (L++[(f,A)]),As.many (x5 40 9 (L++[(f,A)]))]) (hf:(S.FV prog aa x0).p Z w) (Oc:Rd RR.aC 4 Z w D.a1 D.n1 D.c1 x0.ab) (Gv:Rd RR.eX 4 Z w D.ar D.r D.cr aa) (hm:aU aa x0.ab ml) (G:dw l lf eH) (R:aq aa) (hS:∀k,(valOf aa x0.ab k).size≤1000) (KH:KR aa l) (hL6:L.length≤1000) (Zo:bj.length≤100000) (hn4:eH.length<4000) (X:fo aa f) (hi:i<aa.length) (hki:f.key=aL aa (i:Int)) (hsz:∀s∈f.ae,s.size≤1000) (T:f.running=true):Calls prog 61 #[.pointer (some ⟨wb,0,none⟩),.slice al nl el,.func (.func 28) #[] #[]] w fun e w'=>∃(l':List Rec) (lf':Key→RL) (Zt Y:List (Key × Value)) (L':List (br × eB)) (rk:List Key) (d:Bool) (er:Int) (a ra':Option Addr) (n c rn' rc':Nat) (Z':Nat→Prop),e=.returned (.tuple #[.slice a n c,.bool d,.int .i64 er])∧FS aa (valOf aa x0.ab) ⟨rev,x0.ab,l⟩ (L.map Prod.fst) f ⟨rev,x0.ab,l'⟩ (L'.map Prod.fst) rk er∧(er=0→L'.map Prod.fst≠L.map Prod.fst++[f])∧dw l' lf' Zt∧aU aa x0.ab Y∧gh ml Y∧bH w.heap.size Z Z'∧St w M Z' w' [As.map Key.val S.m Y,As.map Key.val S.q [],As.blk wb 74 (D.wc S.s rev ra' rn' rc'),As.map Key.val D.m Zt,As.gy 88 lf' l',As.os RR.key 40 2 ra' rn' rc' (bj++rk),As.os RR.im 115 6 a n c L',As.many (x5 40 9 L')]:=by
 have Iy:=(As.gs gE.g6).len;rw [List.length_append,List.length_singleton] at Iy
 have Zp:((L++[(f,A)]).map Prod.fst)=L.map Prod.fst++[f]:=by simp
 have Yi:=X.len;have yk:=X.gL.le R;refine enter func61 rfl ntmps61 rfl<|?_;have aP:=gE;have st1:=aP.fr Oc;have st2:=st1.fr Gv;have iV:=st2.fact (B:=As.fz (S.FV prog aa x0)) hf (fun _ hx=>hx);have iq:=iV.kD;have U:=St.OT iq;have PA:=((As.gs U.g0)).len;have hyn:=((As.gs U.g1)).len;refine gX ?_;obtain⟨gV,y⟩:=Ow.addr (As.gs U.g12) (bG L (f,A));refine cj ?_;refine WP .r ((PV.sub rfl rfl (by omega) (by omega)).cast (v':=.int .i64 (L.length:Int)) (congrArg (Value.int .i64) (by omega)))<|WP .r (PV.dQ mP (i:=L.length) y rfl rfl (by omega))<|cj ?_;refine WC.bL (m:=14) [] [12] [0,1,2,3,4,5,6,7,8,9,10,11,12,13] [(13,.blk 152 [.bool false,.string ⟨#[]⟩,.int .i64 0,.string ⟨#[]⟩])] U (ai.k4 M0 M1 M2 M3<|ai.k4 M4 M5 M6 M7<|ai.k4 M8 M9 gN hU<|ai.cons jG<|ai.nil) mixed (by kernel_rfl) (by kernel_rfl) rfl<|?_
 iterate 3 refine DG.a ?_
 refine(ou) jB SV.g8<|?_
 iterate 3 refine DG.a ?_
 refine DQ .r (fun I J K _ j H=>PV.wg ao (Ow.jI (As.gs (j.sv H).g12) (by rw [List.length_append,List.length_singleton];omega) y (bG L (f,A))) rfl rfl)<|?_
 iterate 3 refine DG.a ?_
 refine DQ .r (fun I J K _ j H=>V1 rR (Ow.jI (As.gs (j.sv H).g12) (by rw [List.length_append,List.length_singleton];omega) y (bG L (f,A))) .r)<|(fM) (fun w1 agH Zu Q T5=>?_);simp only [CA,NA] at Q;refine OX.call O9 rfl rfl ((xc hki ((As.gf Q.g3)).1.2.2.2 R hi (As.gr Q.g4) (Ow.rd (As.gs Q.g1) (by omega)) hsz).mono ?_);rintro _ w2 ⟨rfl,s2⟩;have hJ:=Q.step s2;refine⟨_,rfl,s2.size,_,rfl,_,_,_,hJ,aw.k4<|aw.k4<|aw.k4<|aw.cons<|aw.nil,ai.k4 M0 M1 M2 M3<|ai.k4 M4 M5 M6 M7<|ai.k4 M8 M9 gN hU<|ai.cons jG<|ai.nil,?_⟩;refine DG.side (s:=.blk 152 [.bool false,.string ⟨#[]⟩,.int .i64 0,.string ⟨#[]⟩]) rfl rfl rfl rfl rfl rfl (fun I J K pV j=>OX.alloc oS rfl fun b wy z hb=>⟨z.ext.size,_,rfl,⟨b,rfl⟩,j.cX z hb⟩)<|?_;rintro _ ⟨PG,rfl⟩;refine(jm) ?_;intro w3 oA iK;simp only [CM,NM,CA,NA,hV.it] at iK;refine(cI) gD iK fun w4 jS jZ t=>?_;refine WL.nil (EX.np ?_);refine(a8) dH t.b0<|(aT) (fun g31=>?_) fun g31=>?_
 ·
  have N:(aH aa f.key f.ae).done=true:=g31;refine bN ?_;have YO:=t.bO;refine WC.dS (m:=6) t mixed<|cq ?_;refine DP .r (fun _ hC=>VA nJ (Ow.jI (As.gs hC.2.g13) (by rw [List.length_append,List.length_singleton];omega) y (bG L (f,A))) .r)<|(iu) fw St.g0<|(cQ)<|?_;rintro w5 ⟨r8,O⟩ _;have o:=O.p1.oK.oK.oK.oK;refine(bX) Xi (F3 (aC:=x0.ab) (f:=f) (A:=A) (value:=(aH aa f.key f.ae).value) o.e5 G (by omega) Zo hn4) ?_;rintro _ w6 ⟨q,q1,q2,q3,Z1,rfl,nS,zL⟩;have C:=St.lv o zL nS;have mU:=nS.le o.size;refine(aT) (fun LD=>?_) fun LD=>?_
  ·
   exact dz LD
  refine ez ?_;refine WP .r ((PV.sub rfl rfl (by omega) (by omega)).cast (v':=.int .i64 (L.length:Int)) (congrArg (Value.int .i64) (by omega)))<|WP .r (PV.na mP (i:=L.length) (Ow.rd (As.gs C.g13) (by rw [List.length_append,List.length_singleton];omega)) rfl rfl (by omega))<|ez ?_;have E:=C.qg;have F:=St.Re E;refine EX.ey rfl (RS.tmp rfl<|RS.tmp rfl<|RS.tmp rfl<|RS.nil) rfl<|?_;exact⟨_,_,_,ml,L,[f.key],true,0,_,q1,_,_,_,_,_,rfl,FS.put T N,fun _ e=>by simpa using congrArg List.length e,(G.put (r:=bF ⟨rev,x0.ab,l⟩ f.key (aH aa f.key f.ae).value f.reads) (q:=q) (cN l _)),hm,gh.refl _,mU,F.p5.drop.p5.drop.p5.drop.p6.drop.p6.drop.p6.drop.p4.p4.p4.p4.p7.p7⟩
 have N:(aH aa f.key f.ae).done=false:=g31;obtain⟨G0,KW⟩:=X.gL.next R N;refine(hW) ao t.b0<|nx ?_;refine WL.c1 (u:=.int .i64 (bJ ⟨rev,x0.ab,l⟩ (L.map Prod.fst++[f]) [] (aH aa f.key f.ae).ask)) (nT (aC:=x0.ab) (As.gb t.g9) (As.gm t.g10) G (As.sL t.g11) KH (Ow.rd (As.gs t.g13) (by rw [List.length_append,List.length_singleton];omega)) KW.cZ) (by rw [Zp]) t fun w5 s5 O=>?_;refine(aT) (fun Zv=>?_) fun Zv=>?_
 ·
  have uN:bJ ⟨rev,x0.ab,l⟩ (L.map Prod.fst++[f]) [] (aH aa f.key f.ae).ask=3:=by simpa using Zv
  refine kE ?_;have o:=O.p3.p3.p3;have C:=St.MG o;have E:=C.kD.rz (B:=As.os RR.key 40 2 ra rn rc (bj++[])) (by rw [List.append_nil]);refine EX.ey rfl (RS.tmp rfl<|RS.tmp rfl<|RS.tmp rfl<|RS.nil) rfl<|?_;exact⟨l,lf,eH,ml,(L++[(f,A)]),[],false,43,_,_,_,_,_,_,_,rfl,by simpa using FS.QM (aa:=aa) T N uN,fun h=>absurd h (by decide),G,hm,gh.refl _,bH.refl _ _,E.p2.drop.p2.drop.p2.drop.p2.drop.p7.p1.p7.p7.p7.p7.p7⟩
 have uN:bJ ⟨rev,x0.ab,l⟩ (L.map Prod.fst++[f]) [] (aH aa f.key f.ae).ask≠3:=by simpa using Zv
 refine(aT) (fun Ve=>?_) fun Ve=>?_
 ·
  exact absurd (by simpa using Ve) (x7 (x:=⟨rev,x0.ab,l⟩) (l:=(L.map Prod.fst++[f])) (k:=(aH aa f.key f.ae).ask))
 skip
 refine(aT) (fun g60=>?_) fun g60=>?_
 ·
  have V:bJ ⟨rev,x0.ab,l⟩ (L.map Prod.fst++[f]) [] (aH aa f.key f.ae).ask=1:=by simpa using g60
  refine(hW) ao O.b0<|?_;have o:=O.qg;refine(bX) Sk (nU (k:=(aH aa f.key f.ae).ask) o.e1 (by rw [List.length_append,List.length_singleton];omega)) ?_;rintro _ w6 ⟨p1,p2,p3,rfl,zL⟩;have C:=St.lr o zL;refine gX ?_;have E:=C.p4.p4.p4;have F:=St.MG E;have ed:=F;have P:=St.JV (g:=⟨(aH aa f.key f.ae).ask,false,0,[],[]⟩) ed rfl rfl;have ew:=P.kB.rz (B:=As.os RR.key 40 2 ra rn rc (bj++[])) (by rw [List.append_nil]);refine EX.ey rfl (RS.tmp rfl<|RS.tmp rfl<|RS.tmp rfl<|RS.nil) rfl<|?_;exact⟨l,lf,eH,ml,_,[],true,0,_,_,_,_,_,_,_,rfl,by simpa using FS.push (aa:=aa) T N V,fun _ e=>by simp at e,G,hm,gh.refl _,bH.refl _ _,ew.p3.drop.p3.drop.p3.drop.p3.drop.p2.p1.p7.p7.p7.p7.p7⟩
 have V:bJ ⟨rev,x0.ab,l⟩ (L.map Prod.fst++[f]) [] (aH aa f.key f.ae).ask≠1:=by simpa using g60
 refine cj ?_;refine WC.bL (m:=20) [1] [9,17,19] [2,3,4,5,6,7,8,9,14,15,16,17,10,11,12,13,18,19,0,1] [(8,.sl 40 1 (aH aa f.key f.ae).ask.cells),(18,.sl 9 1 [.string (bS (valOf aa x0.ab) ⟨rev,x0.ab,l⟩ (aH aa f.key f.ae).ask)])] O (ai.k4 M0 M3 M4 M5<|ai.cons M6<|ai.cons jG<|ai.cons mu<|ai.nil) mixed (by kernel_rfl) (by kernel_rfl) rfl<|?_
 iterate 3 refine DG.a ?_
 refine DQ .r (fun I J K _ j H=>V1 dE (Ow.jI (As.gs (j.sv H).g6) (by rw [List.length_append,List.length_singleton];omega) y (bG L (f,A))) .r)<|(yI) ao SV.g0<|?_;refine DG.side (s:=.sl 40 1 (aH aa f.key f.ae).ask.cells) rfl rfl rfl rfl rfl rfl (fun I J K pV j=>OX.aO (us:=(aH aa f.key f.ae).ask.cells) dx rfl rfl rfl rfl fun b wy z hb=>⟨z.ext.size,_,rfl,⟨b,rfl⟩,j.cX z hb⟩)<|?_;rintro _ ⟨b74,rfl⟩;refine(fM) (fun w6 TD FQ o oZ=>?_);simp only [CA,NA] at o;refine OX.jT kX rfl rfl rfl (As.gs o.g1) (SR.dd (A:=fun _=>True) (x:=(aH aa f.key f.ae).ask) (show bT _ b74 _ _ from o.ok _ (.tail _ (.tail _ (.tail _ (.tail _ (.tail _ (.tail _ (.tail _ (.tail _ (.tail _ (.tail _ (.tail _ (.tail _ (.tail _ (.tail _ (oZ _ (.head _))))))))))))))))) trivial rfl (by simp [Key.cells,Value.oneCell']) rfl) (by show(A.n+1)*_≤_;omega) (by show A.n+1≤_;omega) (Nat.zero_le _) fun a75 W w7 agL Zw agM ao9=>?_;have C:=o.p1.eS Zw agL agM;refine⟨Zw.size,_,rfl,_,_,_,C,aw.k4<|aw.k4<|aw.k4<|aw.k2<|aw.nil,ai.k4 M1 M3 M4 M5<|ai.cons M6<|ai.cons jG<|ai.cons mu<|ai.nil,?_⟩
 iterate 2 refine DG.a ?_
 refine(yI) ao SV.g0<|(fM) (fun w8 apa akO E agN=>?_);simp only [CA,NA] at E;have F:=E.kB.kB.kB.kB.kB;refine OX.call Xj rfl rfl ((F0 (k:=(aH aa f.key f.ae).ask) (L:=(L.map Prod.fst++[f])) F.e5 (As.gf F.g9) (As.gr F.g11) hm G R hS KW (pB V uN)).mono ?_);rintro _ w9 ⟨eO,rfl,AQ,vk,nQ⟩;have ed:=St.lr F nQ;refine⟨_,rfl,nQ.bV.size,_,rfl,_,_,_,ed,aw.k4<|aw.k4<|aw.k4<|aw.k2<|aw.nil,ai.k4 M6 M8 M9 gN<|ai.cons hU<|ai.cons jG<|ai.cons mu<|ai.nil,?_⟩
 iterate 3 refine DG.a ?_
 refine DQ .r (fun I J K _ j H=>V1 rR (Ow.jI (As.gs (j.sv H).g6) (by rw [List.length_append,List.length_singleton];omega) y (bG L (f,A))) .r)<|?_;refine DG.side (s:=.sl 9 1 [.string (bS (valOf aa x0.ab) ⟨rev,x0.ab,l⟩ (aH aa f.key f.ae).ask)]) rfl rfl rfl rfl rfl rfl (fun I J K pV j=>OX.aO (us:=[.string (bS (valOf aa x0.ab) ⟨rev,x0.ab,l⟩ (aH aa f.key f.ae).ask)]) jq rfl rfl rfl rfl fun b wy z hb=>⟨z.ext.size,_,rfl,⟨b,rfl⟩,j.cX z hb⟩)<|?_;rintro _ ⟨b84,rfl⟩;refine(fM) (fun iS apc akP P T6=>?_);simp only [CA,NA] at P;refine OX.jT Ce rfl rfl rfl (As.gs P.g7) (SR.dd (A:=fun _=>True) (x:=(bS (valOf aa x0.ab) ⟨rev,x0.ab,l⟩ (aH aa f.key f.ae).ask)) (show bT _ b84 _ _ from P.ok _ (.tail _ (.tail _ (.tail _ (.tail _ (.tail _ (.tail _ (.tail _ (.tail _ (.tail _ (.tail _ (.tail _ (.tail _ (.tail _ (.tail _ (T6 _ (.head _))))))))))))))))) trivial rfl (by simp [Value.oneCell']) rfl) (by show(A.n2+1)*_≤_;omega) (by show A.n2+1≤_;omega) (Nat.zero_le _) fun a85 T7 iX agO s85 agP apd=>?_;have ew:=P.p7.eS s85 agO agP;refine⟨s85.size,_,rfl,_,_,_,ew,aw.k4<|aw.k4<|aw.k4<|aw.k2<|aw.nil,ai.k4 M7 M8 M9 gN<|ai.cons hU<|ai.cons jG<|ai.cons mu<|ai.nil,?_⟩
 iterate 2 refine DG.a ?_
 refine(jm) ?_;intro ly PC eb;simp only [CM,NM,CA,NA,hV.it] at eb;refine bN ?_;refine WL.go rfl (OX.AL (f:=4) R2 (As.gs eb.g15) y (by omega) rfl rfl rfl ((({f with reads:=f.reads++[(aH aa f.key f.ae).ask]}:br),(⟨a75,A.n+1,W,A.a2,A.n2,A.c2⟩:eB)):br × eB) (fun r h=>by rw [RR.ba h];rfl) fun oo s19 Oe=>?_);have dG:=eb.VE.eS s19 Oe (fun x h=>.inl h);refine bN ?_;refine WL.go rfl (OX.AL (f:=5) Km (As.gs dG.g0) y (by omega) rfl rfl rfl ((({f with reads:=f.reads++[(aH aa f.key f.ae).ask],ae:=f.ae++[(bS (valOf aa x0.ab) ⟨rev,x0.ab,l⟩ (aH aa f.key f.ae).ask)]}:br),(⟨a75,A.n+1,W,a85,A.n2+1,T7⟩:eB)):br × eB) (fun r h=>by rw [RR.ba h];rfl) fun r7 s20 Of=>?_);have dP:=dG.eS s20 Of (fun x h=>.inl h);refine WL.nil (EX.np ?_);refine jL ?_;have fA:=dP.kB.p4.kD;have dI:=St.MG (f:=({f with reads:=f.reads++[(aH aa f.key f.ae).ask],ae:=f.ae++[(bS (valOf aa x0.ab) ⟨rev,x0.ab,l⟩ (aH aa f.key f.ae).ask)]}:br)) (A:=(⟨a75,A.n+1,W,a85,A.n2+1,T7⟩:eB)) fA;have eJ:=dI.qg.rz (B:=As.os RR.key 40 2 ra rn rc (bj++[])) (by rw [List.append_nil]);refine EX.ey rfl (RS.tmp rfl<|RS.tmp rfl<|RS.tmp rfl<|RS.nil) rfl<|?_;exact⟨l,lf,eH,eO,L++[(({f with reads:=f.reads++[(aH aa f.key f.ae).ask],ae:=f.ae++[(bS (valOf aa x0.ab) ⟨rev,x0.ab,l⟩ (aH aa f.key f.ae).ask)]}:br),(⟨a75,A.n+1,W,a85,A.n2+1,T7⟩:eB))],[],true,0,_,_,_,_,_,_,_,rfl,by simpa using FS.read (aa:=aa) T N V uN,fun _ e=>by have:=congrArg (fun l=>(l.map br.reads).flatten.length) e;simp at this,G,AQ,vk,bH.refl _ _,eJ.p3.drop.p3.drop.p8.drop.p8.drop.p8.drop.p8.drop.p2.p1.p7.p7.p7.p7.p7⟩
set_option maxHeartbeats 400000
set_option maxRecDepth 100000 in
theorem Ag :CR prog 162 #[.int .u64 0] w (.int .i64 0):=by
 refine enter func162 rfl ntmps162 rfl<|?_;have aP:=St.s0 w;refine(aT) (fun g4=>?_) fun g4=>?_
 ·
  exact dz g4
 refine(aT) (fun g8=>?_) fun g8=>?_
 ·
  exact dz g8
 refine(aT) (fun g14=>?_) fun g14=>?_
 ·
  exact dz g14
 refine fO ?_;refine WP .r ((show PV prog _ _ _ _ (.int .u8 0) from⟨rfl,rfl,fun _ _ _ _=>rfl⟩))<|WP .r ((show PV prog _ _ _ _ (.int .u8 0) from⟨rfl,rfl,fun _ _ _ _=>rfl⟩))<|WP .r ((show PV prog _ _ _ _ (.int .i64 0) from⟨rfl,rfl,fun _ _ _ _=>rfl⟩))<|(bw) ?_;exact⟨rfl,(St.cg aP)⟩
theorem vT :CR prog 114 #[.int .u64 0] w (.int .i64 0):=by
 refine enter func114 rfl ntmps114 rfl<|?_;have aP:=St.s0 w;refine fO ?_;refine WC.fi rfl<|(eN) (Ag) aP fun w1 s1 st1=>?_;refine(bw) ?_;exact⟨rfl,(St.cg st1)⟩
theorem Db :CR prog 164 #[.slice a 0 c,.int .i64 0,.int .i64 0,f] w (.tuple #[]):=by
 refine enter func164 rfl ntmps164 rfl<|?_;have aP:=St.s0 w;refine gX ?_;refine WC.bq (σ:=Unit) (dn:=fun u=>[(0,.slice a 0 c),(1,.int .i64 0),(2,.int .i64 0),(3,f),(8,.int .i64 1)]) (F:=fun u=>[]) (I:=fun u=>True) (μ:=fun u=>0) (()) (aP) Sub.t (trivial)<|?_;rintro u w1 st1 _;simp only [CA,NA] at st1 ⊢;refine(aT) (fun g14=>?_) fun g14=>?_
 ·
  exact dz g14
 refine cj ?_;refine EX.mV (.inr rfl) rfl<|?_;exact⟨rfl,(St.cg st1)⟩
theorem Dc :CR prog 117 #[.slice a 0 c,.int .i64 0,.int .i64 0,.int .i64 0,f] w (.tuple #[]):=by
 refine enter func117 rfl ntmps117 rfl<|?_;have aP:=St.s0 w;refine kE ?_;refine WC.bq (σ:=Unit) (dn:=fun u=>[(0,.slice a 0 c),(1,.int .i64 0),(2,.int .i64 0),(3,.int .i64 0),(4,f),(10,.bool true),(11,.bool true)]) (F:=fun u=>[]) (I:=fun u=>True) (μ:=fun u=>0) (()) (aP) Sub.t (trivial)<|?_;rintro u w1 st1 _;simp only [CA,NA] at st1 ⊢;refine aX ?_;refine(aT) (fun b=>?_) fun b=>?_
 ·
  refine(eN) (Db (f:=f)) st1 fun w2 s2 st2=>?_;refine ez ?_;refine EX.mV (.inl rfl) rfl<|?_;exact⟨rfl,(St.cg st2)⟩
 exact dz b
set_option maxRecDepth 100000 in
theorem Ah :CR prog 68 #[.slice a 0 c,f] w (.tuple #[]):=by
 refine enter func68 rfl ntmps68 rfl<|?_;have aP:=St.s0 w;refine kE ?_;refine WP .r ((show PV prog _ _ _ _ (.int .u64 0) from⟨rfl,rfl,fun _ _ _ _=>rfl⟩))<|(eN) (vT) aP fun w1 s1 st1=>?_;refine(eN) (Dc (f:=f)) st1 fun w2 s2 st2=>?_;refine nx ?_;refine EX.mV (.inr rfl) rfl<|?_;exact⟨rfl,(St.cg st2)⟩
theorem Dd :CR prog 153 #[.slice a 0 c,.int .i64 0,.int .i64 0,f] w (.tuple #[]):=by
 refine enter func153 rfl ntmps153 rfl<|?_;have aP:=St.s0 w;refine gX ?_;refine WC.bq (σ:=Unit) (dn:=fun u=>[(0,.slice a 0 c),(1,.int .i64 0),(2,.int .i64 0),(3,f),(8,.int .i64 1)]) (F:=fun u=>[]) (I:=fun u=>True) (μ:=fun u=>0) (()) (aP) Sub.t (trivial)<|?_;rintro u w1 st1 _;simp only [CA,NA] at st1 ⊢;refine(aT) (fun g14=>?_) fun g14=>?_
 ·
  exact dz g14
 refine cj ?_;refine EX.mV (.inr rfl) rfl<|?_;exact⟨rfl,(St.cg st1)⟩
theorem De :CR prog 113 #[.slice a 0 c,.int .i64 0,.int .i64 0,.int .i64 0,f] w (.tuple #[]):=by
 refine enter func113 rfl ntmps113 rfl<|?_;have aP:=St.s0 w;refine kE ?_;refine WC.bq (σ:=Unit) (dn:=fun u=>[(0,.slice a 0 c),(1,.int .i64 0),(2,.int .i64 0),(3,.int .i64 0),(4,f),(10,.bool true),(11,.bool true)]) (F:=fun u=>[]) (I:=fun u=>True) (μ:=fun u=>0) (()) (aP) Sub.t (trivial)<|?_;rintro u w1 st1 _;simp only [CA,NA] at st1 ⊢;refine aX ?_;refine(aT) (fun b=>?_) fun b=>?_
 ·
  refine(eN) (Dd (f:=f)) st1 fun w2 s2 st2=>?_;refine ez ?_;refine EX.mV (.inl rfl) rfl<|?_;exact⟨rfl,(St.cg st2)⟩
 exact dz b
set_option maxRecDepth 100000 in
theorem Ai :CR prog 64 #[.slice a 0 c,f] w (.tuple #[]):=by
 refine enter func64 rfl ntmps64 rfl<|?_;have aP:=St.s0 w;refine kE ?_;refine WP .r ((show PV prog _ _ _ _ (.int .u64 0) from⟨rfl,rfl,fun _ _ _ _=>rfl⟩))<|(eN) (vT) aP fun w1 s1 st1=>?_;refine(eN) (De (f:=f)) st1 fun w2 s2 st2=>?_;refine nx ?_;refine EX.mV (.inr rfl) rfl<|?_;exact⟨rfl,(St.cg st2)⟩
set_option maxHeartbeats 400000
theorem Aj{l:List (Rec × RL)}(b:St w M Z w [As.os RR.EH 88 8 a n c l]) (hn:l.length≤1000000):Calls prog 64 #[.slice a n c,.func (.func 65) #[] #[]] w fun e w'=>e=.returned (.tuple #[])∧∃l',l'.Perm l∧(l'.Pairwise fun x y=>¬bC y.1.key x.1.key<0)∧St w M Z w' [As.os RR.EH 88 8 a n c l']:=by
 by_cases h:l=[]
 ·
  have hl:=(As.gs b.g0).len;subst h;have hl:n=0:=hl;subst hl;refine Ai.mono<|?_;rintro e w' ⟨rfl,hc⟩;exact⟨rfl,[],.nil,.nil,b.step hc⟩
 exact zZ b h hn
set_option maxHeartbeats 1600000 in
theorem Ak(gE:St w M Z w [As.blk wb 74 (D.wc v rev ra rn rc),As.map Key.val D.m eH,As.gy 88 lf l]) (Oc:Rd RR.aC 4 Z w D.a1 D.n1 D.c1 aC) (H:dw l lf eH) (hs:pT l) (h6:l.length≤4000) (h7:aC.length≤4000):Calls prog 30 #[.pointer (some ⟨wb,0,none⟩)] w fun e w'=>∃(a1 a2:Option Addr) (n1 e1 n2 e2:Nat) (Z':Nat→Prop),e=.returned (.agg (cm.row ⟨rev,aC,l⟩ a1 n1 e1 a2 n2 e2).toArray)∧bH w.heap.size Z Z'∧St w M Z' w' [As.blk wb 74 (D.wc v rev ra rn rc),As.os RR.aC 78 4 a1 n1 e1 aC,As.os RR.ei 88 8 a2 n2 e2 l]:=by
 refine enter func30 rfl ntmps30 rfl<|?_;have aP:=gE;have st1:=aP.fr Oc;refine(eW) st1 fun b2 w1 TL wo st2=>?_;refine(hW) aM st2.b2<|(eW) st2 fun b3 w2 H5 wK iV=>?_;refine(cI) dL iV fun w3 jS jZ iq=>?_;refine gX ?_;refine WP .r (PV.ld1 (j:=2) i6 iq.b3 rfl rfl)<|?_;have X:=iq;refine(bX) W3 (oX X.e0 (As.gr X.g2) (by omega)) ?_;rintro _ w4 ⟨o1,o2,o3,rfl,oz⟩;have iE:=St.lr X oz;refine nx ?_;refine WL.s1 iE.p1 fun w5 _ hJ=>?_;refine nx ?_;refine WL.s1 hJ fun w6 _ J=>?_;refine cj ?_;have Y:=((As.gm J.g5)).nodup;refine(a8) fX J.b4<|?_;refine WL.go rfl (OX.range fZ (As.gm J.g5) rfl rfl fun K w7 sI TQ hmI=>?_);have iH:=J.p5;have eD:=iH.kC (B:=As.QR Key.val K D.m eH eH none) (sI.p.mono (fun x _ d=>by cases d)) hmI (fun x d=>by rcases d with h | h;exact .inr (h ▸ TQ);exact .inl h);refine cq ?_;have di:=eD.dq RR.EH 88 8;have cY:=di.fact (B:=As.fz (rK [])) rK.nil (fun _ d=>d);refine WC.ia (σ:=(List (Key × Value)) × (Option (Key × Value)) × (List (Rec × RL)) × (Option Addr) × Nat × Nat × (Nat→Prop)) (dn:=fun(left,cur,L,g,o,s,z)=>[(2,.pointer (some ⟨b2,0,none⟩)),(3,.pointer (some ⟨b3,0,none⟩)),(22,.pointer (some ⟨K,0,none⟩))]) (F:=fun(left,cur,L,g,o,s,z)=>[As.QR Key.val K D.m eH left cur,As.blk b3 31 [.int .i64 rev,.slice o1 o2 o3,.slice g o s],As.os RR.EH 88 8 g o s L,As.fz (rK L)]) (I:=fun(left,cur,L,g,o,s,z)=>(J3 l eH left L)∧(∀q∈left,q∈eH)∧(bH w.heap.size Z z)∧True) (μ:=fun(left,cur,L,g,o,s,z)=>left.length) (Zf:=fun(left,cur,L,g,o,s,z)=>z) (eH,none,[],none,0,0,_) (cY.p1.p3.p3) Sub.t (⟨J3.start,fun _ h=>h,bH.refl _ _,trivial⟩)<|?_;rintro⟨left,cur,L,g,o,s,z⟩ w8 N ⟨O,TS,mU,_⟩;simp only [CA,NA] at N O TS mU ⊢;have hLn:=((As.gs N.g2)).len;have hLl:=O.len H Y;refine bN ?_;refine WL.go rfl (OX.next ((As.Mr N.g0)) rfl rfl fun rN K4 w9 sN hN Wt=>?_);have db:=N;have C:=db.kC (B:=As.QR Key.val K D.m eH K4 rN) (sN.p.mono (fun x _ d=>by simp at d;exact .inl d)) Wt (fun x d=>.inl d);refine WP .r (PV.ext rfl (Gu _))<|(aT) (fun g24=>?_) fun g24=>?_
 ·
  obtain⟨p,rfl⟩:=Option.isSome_iff_exists.1 g24;obtain⟨P,vp⟩:=p;obtain⟨jN,Q,rfl⟩:=hN;have NR:=TS _ (List.mem_of_getElem? Q);obtain⟨r1,E⟩:=(H.key (k:=P)).1 (List.mem_map.2 ⟨_,NR,rfl⟩);have hgv:=H.yes E
  have hvp:vp=.pointer (some ⟨(lf P).b,0,none⟩):=by rw [(tY Y).2 NR] at hgv;exact Option.some.inj hgv
  subst hvp;refine de ?_;refine WP .r (PV.entry (As.Mr C.g0) rfl)<|cj ?_;have DH:=(((As.sL C.g8)).1 _ _ E).2.2;have G:=C.fact (As.Jf (((((As.sL C.g8)).1 _ _ E).2.1))) (fun _ d=>d);have apf:=G.size;refine WC.bL (m:=7) [] [5,6] [2,3,4,5,6,0,1] [] G (ai.k4 M0 M1 M2 M3<|ai.k4 M4 M5 M6 M7<|ai.cons M8<|ai.cons M9<|ai.nil) mixed (by kernel_rfl) (by kernel_rfl) rfl<|?_
  iterate 2 refine DG.a ?_
  refine DQ .r (fun wx Zx Rx _ pN wu=>VA cV (bT.range ((As.sL (pN.sv wu).g9).1 _ _ E).1) .r)<|(fM) (fun iS G2 qR R jF=>?_);simp only [CA,NA] at R;have u:=R;refine OX.call Sl rfl rfl ((pM u.e0 (As.gr u.g0) DH).mono ?_);rintro _ iX ⟨q1,T,U,rfl,lS⟩;have V:=St.lr u lS;have hgq:=St.bP lS;have T8:=u.size;have W:=V.aY (by omega);have qL:=mU.trans (bH.dA (F:=fun x=>x∈aI q1) hgq) T8;refine⟨_,rfl,lS.bV.size,_,rfl,_,_,_,W,aw.k4<|aw.k4<|aw.k2<|aw.cons<|aw.nil,ai.k4 M1 M2 M3 M4<|ai.k4 M5 M6 M7 M8<|ai.cons M9<|ai.cons gN<|ai.nil,?_⟩;refine(fM) (fun ly TM FU fA o0=>?_);simp only [CA,NA] at fA;refine OX.aO (us:=(Rec.y9 ((r1,(⟨0,q1,T,U⟩:RL)):Rec × RL))) nK rfl rfl rfl rfl fun N6 oo Iq TJ=>?_;have dI:=fA.cX Iq TJ;refine⟨Iq.ext.size,_,rfl,_,_,_,dI,aw.k4<|aw.k4<|aw.k4<|aw.nil,ai.k4 M2 M3 M4 M5<|ai.k4 M6 M7 M8 M9<|ai.cons gN<|ai.cons hU<|ai.nil,?_⟩;refine(ou) dD SV.g2<|(jm)<|?_;intro r7 qH eJ;simp only [CM,NM,CA,NA,hV.it] at eJ;refine WL.ap rfl rfl eJ.p5 (SR.dd (A:=fun _=>True) (x:=((r1,(⟨0,q1,T,U⟩:RL)):Rec × RL)) (As.gb eJ.g0) trivial rfl (Rec.Rg _) rfl) fun a34 N7 pU Y2 N8 fB=>?_;refine nx ?_;refine WL.s1 fB.p5 fun tE _ ee=>?_;refine WL.nil (EX.np ?_);have eP:=ee.fact (B:=As.fz (rK (L++[(r1,(⟨0,q1,T,U⟩:RL))]))) (rK.snoc (As.gf ee.g6) (As.gr ee.g3) DH) (fun _ d=>d);have dM:=eP.p7.drop;refine nx ?_;refine EX.again (left.eraseIdx jN,some (P,.pointer (some ⟨(lf P).b,0,none⟩)),L++[(r1,(⟨0,q1,T,U⟩:RL))],_,_,_,_) Sub.t ⟨dM.p3.drop.p3.drop.p3.drop.p2.p2.p3,⟨O.next Q E,fun q hq=>TS q (List.mem_of_mem_eraseIdx hq),qL,trivial⟩⟩ (by simp only [];rw [List.length_eraseIdx_of_lt (List.getElem?_eq_some_iff.1 Q).1];have:=(List.getElem?_eq_some_iff.1 Q).1;omega)
 have Ey:rN=none:=by simpa using g24
 subst Ey;obtain⟨rfl,rfl⟩:=hN;refine(a8) dD C.b1<|?_;have G:=C.p2;refine(bX) aea (Aj G.e1 (by omega)) ?_;rintro _ iS ⟨rfl,L2,wm,sw,qK⟩;have R:=St.lr G qK;have hLf:=O.done H Y hs wm sw;have u:=R;have V:=u.conv (B:=As.os RR.ei 88 8 g o s l) (hLf ▸ rK.ei (As.gs u.g0) (fun y hy=>(As.gf u.g3) y (wm.mem_iff.1 hy))) (fun _ h=>h);refine(aZ) aM V.b2<|(cI) dL V.p5 fun iX re mz W=>?_;refine(kS) aM W.b0<|?_;exact⟨o1,g,o2,o3,o,s,_,rfl,mU,W.p1.p5.p7.k3⟩
set_option maxHeartbeats 400000
theorem xd(z:St w M Z w []) (B:Rd RR.aC 4 Z w a1 n1 e1 x.ab) (hr:Rd RR.ei 8 Z w a2 n2 e2 x.ah):Calls prog 18 #[.agg (x.row a1 n1 e1 a2 n2 e2).toArray,k.val] w fun e w'=>e=.returned (.tuple #[.string (i1 x k),.bool (gq x k)])∧St w M Z w' []:=by
 refine enter func18 rfl ntmps18 rfl<|?_;have aP:=z;have st1:=aP.fr B;have st2:=st1.fr hr;refine(dy) st2 fun b2 w1 I J C=>?_;refine(dy) C fun b3 w2 K L u=>?_;refine(aZ) ao u.b0<|(eN) (cO (k:=k)) u fun w3 N b=>?_;refine(aT) (fun g9=>?_) fun g9=>?_
 ·
  have d:gq x k=true:=by unfold gq;rw [g9];rfl
  have j:i1 x k=(bz x.ab k).value:=by unfold i1;rw [if_pos g9]
  refine(aZ) aM b.b1<|(aZ) ao b.b0<|(eN) (tg (As.gr b.g3) (As.gr b.g2)) b fun w4 O m=>?_;refine(AJ) ?_;exact⟨by rw [d,j],m.k0⟩
 skip
 refine(a8) dD b.b1<|(aZ) ao b.b0<|?_;have m:=b;refine(bX) adS (zT (k:=k) m.e0 (As.gr m.g2)) ?_;rintro _ w4 ⟨f1,f2,f3,rfl,_,E⟩;have F:=St.lr m E;refine(eW) F fun P w5 Q R G=>?_;refine(cI) fY G fun w6 T U o=>?_;refine de ?_;refine WC.dW (t:=28) (v:=.bool (!((aA x.ah k).isSome && decide ((aD x.ah k).av=x.ad)))) o ?_<|?_
 ·
  refine(dc) (fun g22=>?_) (fun g22=>?_)
  ·
   exact(cz) (tG g22) (o)
  refine(a8) aN o.b0<|(a8) aN o.b3<|?_;exact(cz) (tG g22) (o)
 intro w7 p;refine(aT) (fun q=>?_) fun q=>?_
 ·
  have eQ:ay k=false:=by simpa using g9
  have d:gq x k=false:=by
   unfold gq
   rw [eQ,Bool.false_or,Bool.eq_false_iff];intro s;rw [Bool.and_eq_true] at s;have y:=s.1;have H:=of_decide_eq_true s.2;have g:=q
   simp at g
   exact g.elim (fun h=>by rw [h] at y;cases y) fun h=>h H
  have j:i1 x k=⟨#[]⟩:=by unfold i1;rw [if_neg (by rw [eQ];simp),if_neg (by rw [d];simp)]
  refine(AJ) ?_;exact⟨by rw [d,j],p.k0⟩
 have eQ:ay k=false:=by simpa using g9
 have d:gq x k=true:=by unfold gq;rw [eQ,Bool.false_or];simpa using q
 have j:i1 x k=(aD x.ah k).value:=by unfold i1;rw [if_neg (by rw [eQ];simp),if_pos d]
 refine(a8) fw p.b0<|(AJ) ?_;exact⟨by rw [d,j],p.k0⟩
set_option maxHeartbeats 400000
theorem vU{pb:Nat}(hk:dX aa k) (b:bT w pb 27 [.slice ar r cr]) (hu:fR A w ar r cr aa):CR prog 54 #[k.val,.pointer (some ⟨pb,0,none⟩)] w (.bool false):=by
 refine enter func54 rfl ntmps54 rfl<|?_;have aP:=St.s0 w;refine(dy) aP fun b2 w1 d e st1=>?_;refine de ?_;refine WP .r (PV.mw jB (bT.range (b.ext (St.cg st1))) rfl rfl)<|(aZ) ao st1.b0<|(eN) (xe hk (hu.ext (St.cg st1))) st1 fun w2 s2 st2=>?_;refine(bw) ?_;exact⟨rfl,(St.cg st2)⟩
theorem vV{l:List Key}(hu:fR A w ar r cr aa) (g:Rd RR.aC 4 Z w a1 n1 e1 x.ab) (hr:Rd RR.ei 8 Z w a2 n2 e2 x.ah) (h:aq aa) (j:uB aa x) (e:Rd RR.key 2 Z w ag ng eg l) (hk:∀k∈l,dX aa k) (o:l.length≤32):CR prog 24 #[.slice ar r cr,.agg (x.row a1 n1 e1 a2 n2 e2).toArray,.slice ag ng eg] w (.int .i64 0):=by
 have q:=e.len;refine enter func24 rfl ntmps24 rfl<|?_;have aP:=St.s0 w;refine(dy) aP fun b3 w1 s t st1=>?_;refine(dy) st1 fun b4 w2 y z st2=>?_;refine ez ?_;refine WP .r (PV.mw jB st2.b1 rfl rfl)<|(eN) (vG (hu.ext (St.cg st2)) h) st2 fun w3 B b=>?_;refine cj ?_;refine WC.fi rfl<|(aZ) aM b.b0<|(eN) (se (g.ext (St.cg b)) (hr.ext (St.cg b)) j) b fun w4 C d=>?_;refine cj ?_;refine WC.fi rfl<|(aT) (fun g15=>?_) fun g15=>?_
 ·
  exact absurd (of_decide_eq_true g15) (by omega)
 skip
 refine cq ?_;refine WP .r (PV.func (us:=[]) (vs:=[.pointer (some ⟨b3,0,none⟩)]) rfl rfl)<|?_;refine WL.c1 (u:=.bool false) (qS (p:=fun _=>false) ad3 (e.ext (St.cg d)) (fun w1 h1 k hm=>vU (hk k hm) (((As.gb d.g1)).ext h1) ((hu.ext (St.cg d)).ext h1))) (by rw [List.any_eq_false.2 (fun _ _=>by simp)]) d fun w5 E m=>?_;refine cq ?_;refine WC.fi rfl<|(bw) ?_;exact⟨rfl,(St.cg m)⟩
set_option maxHeartbeats 400000
theorem Al{l:List Key}(b:St w M Z w [As.os RR.key 40 2 a n c l]) (hn:l.length≤1000000):Calls prog 68 #[.slice a n c,.func (.func 66) #[] #[]] w fun e w'=>e=.returned (.tuple #[])∧∃l',l'.Perm l∧(l'.Pairwise fun x y=>¬bC y x<0)∧St w M Z w' [As.os RR.key 40 2 a n c l']:=by
 by_cases h:l=[]
 ·
  have hl:=(As.gs b.g0).len;subst h;have hl:n=0:=hl;subst hl;refine Ah.mono<|?_;rintro e w' ⟨rfl,hc⟩;exact⟨rfl,[],.nil,.nil,b.step hc⟩
 exact ti b h hn
theorem vW{l:List Key}(q:St w M Z w []) (hl:Rd RR.key 2 Z w a n c l) (g:l.Nodup) (hn:l.length≤1000000):Calls prog 31 #[.slice a n c] w fun e w'=>∃h j m,∃l':List Key,e=.returned (.slice h j m)∧wF l'∧l'.Perm l∧St w M Z w' [As.os RR.key 40 2 h j m l']:=by
 refine enter func31 rfl ntmps31 rfl<|?_;have aP:=q;have st1:=aP.fr hl;refine gX ?_;have st2:=st1;refine(bX) Kr (js st2.e0 (As.gr st2.g0) hn) ?_;rintro _ w1 ⟨b1,b2,c1,rfl,s⟩;have t:=St.lr st2 s;refine fO ?_;have o:=t;refine(bX) W5 (Al o.e1 hn) ?_;rintro _ w2 ⟨rfl,d,b,u,y⟩;have p:=St.lr o y;have E:d.length=l.length:=b.length_eq;have z:d.Nodup:=b.nodup_iff.2 g;have B:=yV b g u;refine(eN) (mJ (Ow.rd (As.gs p.g0) (by omega)) z) p fun w3 F C=>?_;refine(bw) ?_;exact⟨b1,_,c1,d,rfl,B,b,C.p1.drop⟩
theorem vX{l:List Key}(j:St w M Z w []) (hl:Rd RR.key 2 (fun x=>Z x∨x∈aI a) w a n c l) (o:∀x∈aI a,x<w.heap.size) (p:l.Nodup) (hn:l.length≤1000000):Calls prog 31 #[.slice a n c] w fun e w'=>∃b d g,∃l':List Key,e=.returned (.slice b d g)∧wF l'∧l'.Perm l∧St w M Z w' [As.os RR.key 40 2 b d g l']:=by
 have q:St w M (fun x=>Z x∨x∈aI a) w []:=⟨j.bV,fun x s=>s.elim (j.jK x) (o x),by simp,by simp,.nil,by simp⟩;refine(vW q hl p hn).mono<|?_;rintro e w' ⟨b,d,g,l',rfl,t,u,m⟩;exact⟨b,d,g,l',rfl,t,u,m.unz (fun _ h=>.inl h) (Ow.z (As.gs m.g0))⟩
theorem Df{L:List (br × eB)}{f:br}{A:eB}(G:St w M Z w [As.map Key.val S.m ml,As.map Key.val S.q [],As.blk wb 74 (D.wc S.s rev ra rn rc),As.map Key.val D.m eH,As.gy 88 lf l,As.os RR.key 40 2 ra rn rc bj,As.os RR.im 115 6 al nl el (L++[(f,A)]),As.many (x5 40 9 (L++[(f,A)]))]) (X:(S.FV prog aa x0).p Z w) (Y:Rd RR.aC 4 Z w D.a1 D.n1 D.c1 x0.ab) (Gv:Rd RR.eX 4 Z w D.ar D.r D.cr aa) (hm:aU aa x0.ab ml) (H:dw l lf eH) (I:aq aa) (J:∀k,(valOf aa x0.ab k).size≤1000) (K:KR aa l) (N:L.length≤1000) (Zo:bj.length≤100000) (hn4:eH.length<4000) (O:fo aa f) (hi:i<aa.length) (hki:f.key=aL aa (i:Int)) (hsz:∀s∈f.ae,s.size≤1000) (h6:l.length≤4000) (Vf:∀r∈l,r.reads.length≤4000) (hvr:∀r∈l,r.av≤rev):Calls prog 29 #[.pointer (some ⟨wb,0,none⟩),.slice al nl el,.func (.func 28) #[] #[]] w fun e w'=>∃(l':List Rec) (P:Key→RL) (Q j:List (Key × Value)) (L':List (br × eB)) (rk:List Key) (d:Bool) (g:Int) (a R:Option Addr) (n c T U:Nat) (Z':Nat→Prop),e=.returned (.tuple #[.slice a n c,.bool d,.int .i64 g])∧FS aa (valOf aa x0.ab) ⟨rev,x0.ab,l⟩ (L.map Prod.fst) f ⟨rev,x0.ab,l'⟩ (L'.map Prod.fst) rk g∧(g=0→L'.map Prod.fst≠L.map Prod.fst++[f])∧dw l' P Q∧aU aa x0.ab j∧gh ml j∧bH w.heap.size Z Z'∧St w M Z' w' [As.map Key.val S.m j,As.map Key.val S.q [],As.blk wb 74 (D.wc S.s rev R T U),As.map Key.val D.m Q,As.gy 88 P l',As.os RR.key 40 2 R T U (bj++rk),As.os RR.im 115 6 a n c L',As.many (x5 40 9 L')]:=by
 have Iy:=(As.gs G.g6).len;rw [List.length_append,List.length_singleton] at Iy;refine enter func29 rfl ntmps29 rfl<|?_;have aP:=G;have st1:=aP.fr Y;have st2:=st1.fr Gv;have h:=st2.fact (B:=As.fz (S.FV prog aa x0)) X (fun _ hx=>hx);refine kR ?_;obtain⟨gV,V⟩:=Ow.addr (As.gs h.g9) (bG L (f,A));refine cj ?_;refine WP .r ((PV.sub rfl rfl (by omega) (by omega)).cast (v':=.int .i64 (L.length:Int)) (congrArg (Value.int .i64) (by omega)))<|WP .r (PV.dQ mP (i:=L.length) V rfl rfl (by omega))<|(a8) dH (Ow.jI (As.gs h.g9) (by rw [List.length_append,List.length_singleton];omega) V (bG L (f,A)))<|(aT) (fun g15=>?_) fun g15=>?_
 ·
  have o:f.running=true:=g15;refine de ?_;have b:=h.kD.kD.kD.kD.kD.kD.kD.kD;refine(bX) ad8 (F4 b.e8 (As.gf b.g8) (As.gr b.g10) (As.gr b.g9) hm H I J K N Zo hn4 O hi hki hsz o) ?_;rintro _ w1 ⟨l1,lf1,agR,t,L1,rk,d,g,a1,JF,n1,c1,rn1,rc1,Z1,rfl,T9,Bg,u,y,z,W,C⟩;have E:=St.lv b C W;have mU:=W.le b.size;refine jL ?_;refine EX.ey rfl (RS.tmp rfl<|RS.tmp rfl<|RS.tmp rfl<|RS.nil) rfl<|?_;exact⟨l1,lf1,agR,t,L1,rk,d,g,a1,JF,n1,c1,rn1,rc1,_,rfl,T9,Bg,u,y,z,mU,E.p8.drop.p8.drop.p8.drop⟩
 have o:f.running=false:=by simpa using g15
 refine ez ?_;have b:=h.p9.p8.p8.p8.p8.p8;refine(bX) ad9 (Af b.e6 (As.gf b.g6) (As.gr b.g8) hm H I J K N o h6 Vf hvr O.at0) ?_;rintro _ w1 ⟨l1,L1,d,g,a1,n1,c1,t,rfl,F,u,y,z,C⟩;have E:=St.lr b C;refine kR ?_;have iE:=E.kD;have hJ:=St.ac0 iE F.2.2;have iK:=hJ.kD.rz (B:=As.os RR.key 40 2 ra rn rc (bj++[])) (by rw [List.append_nil]);refine EX.ey rfl (RS.tmp rfl<|RS.tmp rfl<|RS.tmp rfl<|RS.nil) rfl<|?_;exact⟨l1,lf,eH,t,L1,[],d,g,a1,ra,n1,c1,rn,rc,_,rfl,F.1,F.2.1,u,y,z,bH.refl _ _,iK.p8.drop.p8.drop.p8.drop.p7.p1.p7.p7.p7.p7.p7⟩
set_option maxHeartbeats 4000000 in
theorem fh{goals:List Key}(gE:St w M Z w []) (ht:lE prog Z w) (hu:Rd RR.eX 4 Z w ar r cr aa) (Oc:Rd RR.aC 4 Z w a1 n1 e1 x.ab) (hr:Rd RR.ei 8 Z w a2 n2 e2 x.ah) (hg:Rd RR.key 2 Z w ag ng eg goals) (u:aq aa) (d:LC aa x) (hk:∀k∈goals,dX aa k) (h32:goals.length≤32):Calls prog 10 #[.slice ar r cr,.agg (x.row a1 n1 e1 a2 n2 e2).toArray,.slice ag ng eg] w fun e w'=>∃(b':cm) (bj rs:List Key) (Ze Zj a3':Option Addr) (Zg Zi Zk Zl n3' e3':Nat) (Z':Nat→Prop),e=.returned (.tuple #[.agg (b'.row Ze Zg Zi Zj Zk Zl).toArray,.slice a3' n3' e3',.int .i64 0])∧ft aa (valOf aa x.ab) goals x b' [] bj∧b'.ab=x.ab∧(∀k∈goals,ay k=true∨az b' k=true)∧wF rs∧rs.Perm bj∧bH w.heap.size Z Z'∧St w M Z' w' [As.os RR.aC 78 4 Ze Zg Zi b'.ab,As.os RR.ei 88 8 Zj Zk Zl b'.ah,As.os RR.key 40 2 a3' n3' e3' rs]:=by
 have Zy:=d.lb.JE;have hS:=d.lb.small u;have N9:=hg.len;refine enter func10 rfl ntmps10 rfl<|?_;have aP:=gE;have st1:=aP.fr hu;have st2:=st1.fr Oc;have iV:=st2.fr hr;have iq:=iV.fr hg;have i7:=iq.fact (B:=As.fz (FZ.Js prog)) ht (fun _ d=>d);refine(dy) i7 fun b4 w1 Ff IK iE=>?_;refine(eW) iE fun b6 w2 DD IF W=>?_;refine(aZ) aM W.b1<|(eN) (vV (As.gr W.g6) (As.gr W.g5) (As.gr W.g4) u Zy (As.gr W.g3) hk h32) W fun w3 s3 iK=>?_;refine(aT) (fun g22=>?_) fun g22=>?_
 ·
  exact dz g22
 refine(aZ) aM iK.b1<|?_;have R:=iK;refine(bX) adK (Am (x:=x) R.e0 (As.gf R.g2) (As.gr R.g6) (As.gr R.g5) (As.gr R.g4) Zy.2.2.2.2.2.2.2.1 (Nat.le_trans Zy.2.2.2.2.1 (by decide)) Zy.2.2.2.2.2.2.1) ?_;rintro _ w4 ⟨D,S,wb,lf0,agS,Z1,rfl,hmt,nS,hfv,hdi,agT,oz⟩;have eD:=St.lv R oz nS;have wt:=nS.le R.size;have di:=eD.fact (B:=As.fz (S.FV prog aa x)) hfv (fun _ d=>d);have cY:=di.fr (hdi);have dm:=cY.fr (agT);refine jL ?_;have db:=dm.dq RR.key 40 2;refine bN ?_;refine WC.ia (σ:=Nat × (List Rec) × (Key→RL) × (List (Key × Value)) × (List (Key × Value)) × (List Key) × (Option Addr) × Nat × Nat × (Nat→Prop)) (dn:=fun(i,l1,z,C,E,h,JF,G,H,T)=>[(4,.pointer (some ⟨b4,0,none⟩)),(6,.pointer (some ⟨b6,0,none⟩)),(10,.pointer (some ⟨wb,0,none⟩)),(29,.slice ag ng eg),(30,.int .i64 (ng:Int)),(31,.int .i64 (i:Int))]) (F:=fun(i,l1,z,C,E,h,JF,G,H,T)=>[As.map Key.val S.m E,As.blk wb 74 (D.wc S.s x.ad JF G H),As.map Key.val D.m C,As.gy 88 z l1,As.os RR.key 40 2 JF G H h]) (I:=fun(i,l1,z,C,E,h,JF,G,H,T)=>(i≤ng)∧(ft aa (valOf aa x.ab) goals x ⟨x.ad,x.ab,l1⟩ [] h)∧(dw l1 z C)∧(aU aa x.ab E)∧(∀y∈goals.take i,(ay y=true∨az ⟨x.ad,x.ab,l1⟩ y=true))∧(bH w.heap.size Z T)∧True) (μ:=fun(i,l1,z,C,E,h,JF,G,H,T)=>ng - i) (Zf:=fun(i,l1,z,C,E,h,JF,G,H,T)=>T) (0,x.ah,lf0,agS,[],[],none,0,0,_) (db.p8.p8.p8.p7) Sub.t (⟨Nat.zero_le _,.start,hmt,aU.nil,by simp,wt,trivial⟩)<|?_;rintro⟨i,l1,z,C,E,h,JF,G,H,T⟩ w5 ed ⟨hi,K8,Og,H9,ox,mU,_⟩;simp only [CA,NA] at ed hi K8 Og H9 ox mU ⊢;refine(aT) (fun Ti=>?_) fun Ti=>?_
 ·
  simp at Ti
  have wN:i<goals.length:=by omega
  have hnk:cZ goals[i]:=(hk _ (List.getElem_mem wN)).cZ;obtain⟨_,agU,_⟩:=K8.ready u d hk;refine de ?_;obtain⟨gV,k8,ky,cW,gW,gg,eG,eV⟩:=Rd.at (As.gr ed.g12) wN;have gg:=RR.ba gg;subst gg;have gx:=ed.fg eV eG;refine nx ?_;refine WP .r (PV.dQ et cW rfl rfl (by omega))<|(aZ) ao (As.lG gx.g0)<|(eW) gx fun b12 w6 Zm Zn X=>?_;refine(cI) hP X fun w7 jS jZ eb=>?_;refine(aZ) ao eb.b0<|?_;have J:=eb;refine(bX) adL (CY (aC:=x.ab) (k:=goals[i]) J.e0 (As.gb J.g3) (As.gm J.g4) Og (As.sL J.g5) agU hnk) ?_;rintro _ w8 ⟨o1,o2,o3,rfl,j0⟩;have Y:=St.lr J j0;refine bN ?_;have fA:=St.Rh (EK:=40) (ES:=9) (k:=goals[i]) (c:=cM ⟨x.ad,x.ab,l1⟩ [] goals[i]) Y;refine bN ?_;refine WC.ia (σ:=(List Rec) × (Key→RL) × (List (Key × Value)) × (List (Key × Value)) × (List Key) × (Option Addr) × Nat × Nat × (Nat→Prop) × (List (br × eB)) × (Option Addr) × Nat × Nat) (dn:=fun(b,K,N,eO,o,O,P,Q,U,L,al,nl,el)=>[(4,.pointer (some ⟨b4,0,none⟩)),(6,.pointer (some ⟨b6,0,none⟩)),(10,.pointer (some ⟨wb,0,none⟩)),(13,.slice al nl el),(29,.slice ag ng eg),(30,.int .i64 (ng:Int)),(31,.int .i64 (i:Int))]) (F:=fun(b,K,N,eO,o,O,P,Q,U,L,al,nl,el)=>[As.map Key.val S.m eO,As.blk wb 74 (D.wc S.s x.ad O P Q),As.map Key.val D.m N,As.gy 88 K b,As.os RR.key 40 2 O P Q o,As.os RR.im 115 6 al nl el L,As.many (x5 40 9 L)]) (I:=fun(b,K,N,eO,o,O,P,Q,U,L,al,nl,el)=>(ft aa (valOf aa x.ab) goals x ⟨x.ad,x.ab,b⟩ (L.map Prod.fst) o)∧(dw b K N)∧(aU aa x.ab eO)∧(∀y∈goals.take i,(ay y=true∨az ⟨x.ad,x.ab,b⟩ y=true))∧(ay goals[i]=true∨az ⟨x.ad,x.ab,b⟩ goals[i]=true∨∃g q,L.map Prod.fst=g::q∧g.key=goals[i])∧(bH w.heap.size Z U)∧True) (μ:=fun(b,K,N,eO,o,O,P,Q,U,L,al,nl,el)=>U0 aa ⟨x.ad,x.ab,b⟩ (L.map Prod.fst)) (Zf:=fun(b,K,N,eO,o,O,P,Q,U,L,al,nl,el)=>U) (l1,z,C,E,h,JF,G,H,_,(if cM ⟨x.ad,x.ab,l1⟩ [] goals[i]=true then [((⟨goals[i],false,0,[],[]⟩:br),(⟨none,0,0,none,0,0⟩:eB))] else []),o1,o2,o3) (fA.p1.p8.p8.p8.p8.p8) Sub.t (⟨ft.taken K8 (List.getElem_mem wN),Og,H9,ox,HI,mU,trivial⟩)<|?_;rintro⟨b,K,N,eO,o,O,P,Q,U,L,al,nl,el⟩ w9 p ⟨V,pK,AQ,pC,hbo,qL,_⟩;simp only [CA,NA] at p V pK AQ pC hbo qL ⊢;refine(aT) (fun LD=>?_) fun LD=>?_
  ·
   simp at LD
   have hLn:=((As.gs p.g5)).len;obtain⟨Lp,f,A,rfl⟩:=MK (L:=L) (by omega);simp only [List.map_append,List.map_cons,List.map_nil] at V hbo;obtain⟨Ua,agV,hp6,PY,Vh,agW,agX,tq,apr,agY⟩:=V.ready u d hk;obtain⟨Dg,⟨j,hj,UQ⟩,hsz⟩:=agY f (by simp);have hmn:=pK.len ((As.gm p.g2)).nodup
   have hp7:Lp.length≤1000:=by simp at hp6;omega
   have Vh:b.length<4000:=Vh;refine ez ?_;have eJ:=p.p6.p6.p6.p6.p6.p6.oK.p7;refine(bX) adN (Df (x0:=x) eJ.e8 (As.gf eJ.g12) (As.gr eJ.g11) (As.gr eJ.g10) AQ pK u hS agV hp7 PY (by omega) Dg hj UQ hsz (by omega) agW agX) ?_;rintro _ iS ⟨l3,lf3,agZ,iT,L3,rk,d3,er,o4,ra3,o5,o6,rn3,rc3,Z5,rfl,T9,Bg,K9,Ie,tD,vE,qK⟩;have fB:=St.lv eJ qK vE;have yp:=qL.trans vE eJ.size;obtain rfl:er=0:=V.Wk u d hk T9
   replace Bg:=Bg rfl
   have ag0:=hbo.imp id (FS.bot T9);refine aX ?_;refine(aT) (fun g49=>?_) fun g49=>?_
   ·
    exact dz g49
   refine ez ?_;refine EX.again (l3,lf3,agZ,iT,o++rk,ra3,rn3,rc3,_,L3,o4,o5,o6) Sub.t ⟨fB.oK.oK.oK.oK.oK.oK.oK.oK.oK.oK.oK.kB,⟨V.step T9 Bg,K9,Ie,fun y hy=>(pC y hy).imp id T9.Q9,ag0,yp,trivial⟩⟩ (by simp only [List.map_append,List.map_cons,List.map_nil];exact V.less u d hk T9 Bg)
  simp at LD
  have hLn:=((As.gs p.g5)).len;obtain rfl:L=[]:=List.eq_nil_of_length_eq_zero (by omega);have La:=ML wN pC hbo;refine jL ?_;refine eC (i+1,b,K,N,eO,o,O,P,Q,_) ⟨p.p5.drop.p5.drop.p5.drop.p5.drop,⟨by omega,V,pK,AQ,La,qL,trivial⟩⟩
 simp at Ti
 have hK:goals.take i=goals:=List.take_of_length_le (by omega);rw [hK] at ox;obtain⟨hbk,_,_,PY,Vh,_,_,yG,ag1,_⟩:=K8.ready u d hk;have Vh:l1.length<4000:=Vh;refine fO ?_;refine WC.bL (m:=6) [] [1] [0,1,2,3,4,5] [] ed (ai.cons M1<|ai.nil) mixed (by kernel_rfl) (by kernel_rfl) rfl<|(fM) (fun w6 R1x Za gx PQ=>?_);simp only [CA,NA] at gx;have X:=gx.p3.p3.p3;refine OX.call adO rfl rfl ((Ak X.e3 (As.gr X.g6) Og ag1 (by omega) (Nat.le_trans Zy.2.2.2.2.1 (by decide))).mono ?_);rintro _ w7 ⟨s1,s2,s3,s4,s5,s6,Z6,rfl,vP,jE⟩;have eb:=St.lv X jE vP;have Ab:=mU.trans vP X.size;refine⟨_,rfl,jE.bV.size,_,rfl,_,_,_,eb,aw.k4<|aw.k4<|aw.k4<|aw.k4<|aw.nil,ai.cons M0<|ai.nil,?_⟩
 iterate 3 refine DG.a ?_
 refine(ou) dE SV.g0<|(jm)<|?_;intro w8 PC J;simp only [CM,NM,CA,NA,hV.it] at J;have Y:=J;refine(bX) W0 (vX Y.e0 (Ow.rd (As.gs Y.g4) (by omega)) (OR.lt (As.gs Y.g4)) yG (by omega)) ?_;rintro _ w9 ⟨q1,q2,q3,rs,rfl,hsk,NR,nQ⟩;have fA:=St.lr Y nQ;refine(cI) dL fA.kD fun iS re mz p=>?_;refine bN ?_;refine WL.nil (EX.np ?_);refine bN ?_;refine EX.ey rfl (RS.cell aM rfl p.b0 rfl<|RS.tmp rfl<|RS.tmp rfl<|RS.nil) rfl<|?_;exact⟨⟨x.ad,x.ab,l1⟩,h,rs,s1,s2,q1,s3,s4,s5,s6,q2,q3,_,rfl,K8,rfl,ox,hsk,NR,Ab,p.p1.p4.p4.k3⟩
end Go.Rc

