/- Walks over the program, part WYk. Conditions: as each theorem says. -/
import Derived.Test.YtfamnpoplgkkcaaGreatDoorSFacts
import Derived.Test.YtfamnpoplgkkcaaGreatDoorSWYg
import Derived.Test.YtfamnpoplgkkcaaGreatDoorSWLibE
import Derived.Test.YtfamnpoplgkkcaaGreatDoorSWUa
import Derived.Test.YtfamnpoplgkkcaaGreatDoorSWZr
import Derived.Test.YtfamnpoplgkkcaaGreatDoorSBi
set_option linter.all false
namespace Go.Rc
open Go Go.Proofs Go.Proofs.Tryz
variable {v wb rn rc i r c e2 nl el n n1 e1 n2 cr ng eg:Nat}{rev:Int}{aD:List cB}{l:List Rec}{D:WD}{ra a a2 al a1 ar ag:Option Addr}{lf:Key→RL}{eL ml:List (Key × Value)}{bf:List Key}{f:Value}{w:World}{M Z A:Nat→Prop}{aa:List aG}{k:Key}{x0 x:cz}{S:SD}
set_option maxHeartbeats 400000
theorem F6{f:bq}{A:eC}{value:ByteArray}(d:St w M Z w [As.blk wb 86 (D.wc v rev ra rn rc),As.map Key.val D.m eL,As.gw 47 lf l,As.os RR.key 41 2 ra rn rc bf,As.os RR.key 41 2 A.a A.n A.c f.reads]) (g:dy l lf eL) (h:f.reads.length≤4000) (hr:bf.length≤100000) (o:eL.length<4000):Calls prog 120 #[.pointer (some ⟨wb,0,none⟩),.agg (bq.ot (f,A)).toArray,.string value] w fun e w'=>∃(q:RL) (a:Option Addr) (n c:Nat) (Z':Nat→Prop),e=.returned (.int .i64 0)∧bJ w.heap.size Z Z'∧St w M Z' w' [As.blk wb 86 (D.wc v rev a n c),As.map Key.val D.m (cM eL f.key (.pointer (some ⟨q.b,0,none⟩))),As.gw 47 (wL lf f.key q) (eu l (bL ⟨rev,aD,l⟩ f.key value f.reads)),As.os RR.key 41 2 a n c (bf++[f.key]),As.os RR.key 41 2 A.a A.n A.c f.reads]:=by
 cases j:aB l f.key with
 | none=>exact Db d g h hr j o
 | some r=>exact Dc d g h hr j
theorem xg{ae:List ByteArray}{B C:Nat→Prop}{r2:Nat}(d:k=aI aa (i:Int)) (ht:lA prog A w) (b:aq aa) (hi:i<aa.length) (hr:fG B w a r c aa) (hl:Strs C w a2 r2 e2 ae) (hsz:∀s∈ae,s.size≤1000):CR prog 119 #[.slice a r c,k.val,.slice a2 r2 e2] w ((aH aa k ae).val):=by
 have e:=b.len;subst d;rw [eY hi (by omega)];exact ly ht b hi hr hl hsz
set_option maxHeartbeats 4000000 in
theorem F7{L:List (bq × eC)}{f:bq}{A:eC}(gp:St w M Z w [As.map Key.val S.m ml,As.map Key.val S.q [],As.blk wb 86 (D.wc S.s rev ra rn rc),As.map Key.val D.m eL,As.gw 47 lf l,As.os RR.key 41 2 ra rn rc bf,As.os RR.iq 126 6 al nl el (L++[(f,A)]),As.many (x9 41 9 (L++[(f,A)]))]) (hf:(S.FV prog aa x0).p Z w) (OH:Rd RR.aD 4 Z w D.a1 D.n1 D.c1 x0.ab) (GC:Rd RR.eG 4 Z w D.ar D.r D.cr aa) (hm:aV aa x0.ab ml) (G:dy l lf eL) (R:aq aa) (hS:∀k,(valOf aa x0.ab k).size≤1000) (CE:KR aa l) (hL6:L.length≤1000) (Zz:bf.length≤100000) (hn4:eL.length<4000) (X:ft aa f) (hi:i<aa.length) (hki:f.key=aI aa (i:Int)) (hsz:∀s∈f.ae,s.size≤1000) (T:f.running=true):Calls prog 72 #[.pointer (some ⟨wb,0,none⟩),.slice al nl el,.func (.func 34) #[] #[]] w fun e w'=>∃(l':List Rec) (lf':Key→RL) (ZE Y:List (Key × Value)) (L':List (bq × eC)) (rk:List Key) (d:Bool) (er:Int) (a ra':Option Addr) (n c rn' rc':Nat) (Z':Nat→Prop),e=.returned (.tuple #[.slice a n c,.bool d,.int .i64 er])∧FS aa (valOf aa x0.ab) ⟨rev,x0.ab,l⟩ (L.map Prod.fst) f ⟨rev,x0.ab,l'⟩ (L'.map Prod.fst) rk er∧(er=0→L'.map Prod.fst≠L.map Prod.fst++[f])∧dy l' lf' ZE∧aV aa x0.ab Y∧fW ml Y∧bJ w.heap.size Z Z'∧St w M Z' w' [As.map Key.val S.m Y,As.map Key.val S.q [],As.blk wb 86 (D.wc S.s rev ra' rn' rc'),As.map Key.val D.m ZE,As.gw 47 lf' l',As.os RR.key 41 2 ra' rn' rc' (bf++rk),As.os RR.iq 126 6 a n c L',As.many (x9 41 9 L')]:=by
 have IJ:=(As.gs gp.g6).len;rw [List.length_append,List.length_singleton] at IJ
 have ZA:((L++[(f,A)]).map Prod.fst)=L.map Prod.fst++[f]:=by simp
 have QK:=X.len;have yo:=X.gH.le R;refine enter func72 rfl ntmps72 rfl<|?_;have aQ:=gp;have st1:=aQ.fr OH;have st2:=st1.fr GC;have ir:=st2.fact (B:=As.fz (S.FV prog aa x0)) hf (fun _ hx=>hx);have hJ:=ir.kD;have U:=St.Pc hJ;have Of:=((As.gs U.g0)).len;have hyn:=((As.gs U.g1)).len;refine gK ?_;obtain⟨gJ,y⟩:=Ow.addr (As.gs U.g12) (bG L (f,A));refine ck ?_;refine WP .r ((PV.sub rfl rfl (by omega) (by omega)).cast (v':=.int .i64 (L.length:Int)) (congrArg (Value.int .i64) (by omega)))<|WP .r (PV.dV mM (i:=L.length) y rfl rfl (by omega))<|ck ?_;refine WC.bM (m:=14) [] [12] [0,1,2,3,4,5,6,7,8,9,10,11,12,13] [(13,.blk 140 [.bool false,.string ⟨#[]⟩,.int .i64 0,.string ⟨#[]⟩])] U (ai.k4 M0 M1 M2 M3<|ai.k4 M4 M5 M6 M7<|ai.k4 M8 M9 hP iJ<|ai.cons kB<|ai.nil) mixed (by kernel_rfl) (by kernel_rfl) rfl<|?_
 iterate 3 refine DG.a ?_
 refine(oo) jy SV.g8<|?_
 iterate 3 refine DG.a ?_
 refine DQ .r (fun I J K _ j H=>PV.wA ao (Ow.jD (As.gs (j.sv H).g12) (by rw [List.length_append,List.length_singleton];omega) y (bG L (f,A))) rfl rfl)<|?_
 iterate 3 refine DG.a ?_
 refine DQ .r (fun I J K _ j H=>V1 r5 (Ow.jD (As.gs (j.sv H).g12) (by rw [List.length_append,List.length_singleton];omega) y (bG L (f,A))) .r)<|(fL) (fun w1 agt ZF Q T4=>?_);simp only [CA,NA] at Q;refine OX.call Px rfl rfl ((xg hki ((As.gf Q.g3)).1.2.2.2 R hi (As.gr Q.g4) (Ow.rd (As.gs Q.g1) (by omega)) hsz).mono ?_);rintro _ w2 ⟨rfl,s2⟩;have hh:=Q.step s2;refine⟨_,rfl,s2.size,_,rfl,_,_,_,hh,aw.k4<|aw.k4<|aw.k4<|aw.cons<|aw.nil,ai.k4 M0 M1 M2 M3<|ai.k4 M4 M5 M6 M7<|ai.k4 M8 M9 hP iJ<|ai.cons kB<|ai.nil,?_⟩;refine DG.side (s:=.blk 140 [.bool false,.string ⟨#[]⟩,.int .i64 0,.string ⟨#[]⟩]) rfl rfl rfl rfl rfl rfl (fun I J K qS j=>OX.alloc oM rfl fun b wy z hb=>⟨z.ext.size,_,rfl,⟨b,rfl⟩,j.cZ z hb⟩)<|?_;rintro _ ⟨K6,rfl⟩;refine(jm) ?_;intro w3 oz iI;simp only [CM,NM,CA,NA,hK.it] at iI;refine(cI) gB iI fun w4 jW ka t=>?_;refine WL.nil (EX.np ?_);refine(aZ) dA t.b0<|(aS) (fun g31=>?_) fun g31=>?_
 ·
  have N:(aH aa f.key f.ae).done=true:=g31;refine bO ?_;have Y1:=t.bQ;refine WC.dS (m:=6) t mixed<|cm ?_;refine DP .r (fun _ hC=>VA nG (Ow.jD (As.gs hC.2.g13) (by rw [List.length_append,List.length_singleton];omega) y (bG L (f,A))) .r)<|(iD) e7 St.g0<|(cS)<|?_;rintro w5 ⟨si,O⟩ _;have o:=O.p1.o9.o9.o9.o9;refine(bY) Xu (F6 (aD:=x0.ab) (f:=f) (A:=A) (value:=(aH aa f.key f.ae).value) o.e5 G (by omega) Zz hn4) ?_;rintro _ w6 ⟨q,q1,q2,q3,Z1,rfl,nN,FN⟩;have C:=St.lv o FN nN;have mS:=nN.le o.size;refine(aS) (fun L0=>?_) fun L0=>?_
  ·
   exact dr L0
  refine eD ?_;refine WP .r ((PV.sub rfl rfl (by omega) (by omega)).cast (v':=.int .i64 (L.length:Int)) (congrArg (Value.int .i64) (by omega)))<|WP .r (PV.mX mM (i:=L.length) (Ow.rd (As.gs C.g13) (by rw [List.length_append,List.length_singleton];omega)) rfl rfl (by omega))<|eD ?_;have E:=C.qd;have F:=St.Rq E;refine EX.et rfl (RS.tmp rfl<|RS.tmp rfl<|RS.tmp rfl<|RS.nil) rfl<|?_;exact⟨_,_,_,ml,L,[f.key],true,0,_,q1,_,_,_,_,_,rfl,FS.put T N,fun _ e=>by simpa using congrArg List.length e,(G.put (r:=bL ⟨rev,x0.ab,l⟩ f.key (aH aa f.key f.ae).value f.reads) (q:=q) (cU l _)),hm,fW.refl _,mS,F.p5.drop.p5.drop.p5.drop.p6.drop.p6.drop.p6.drop.p4.p4.p4.p4.p7.p7⟩
 have N:(aH aa f.key f.ae).done=false:=g31;obtain⟨G7,Le⟩:=X.gH.next R N;refine(ia) ao t.b0<|nx ?_;refine WL.c1 (u:=.int .i64 (bH ⟨rev,x0.ab,l⟩ (L.map Prod.fst++[f]) [] (aH aa f.key f.ae).ask)) (nO (aD:=x0.ab) (As.gb t.g9) (As.gm t.g10) G (As.sS t.g11) CE (Ow.rd (As.gs t.g13) (by rw [List.length_append,List.length_singleton];omega)) Le.cY) (by rw [ZA]) t fun w5 s5 O=>?_;refine(aS) (fun ZG=>?_) fun ZG=>?_
 ·
  have uX:bH ⟨rev,x0.ab,l⟩ (L.map Prod.fst++[f]) [] (aH aa f.key f.ae).ask=3:=by simpa using ZG
  refine kg ?_;have o:=O.p3.p3.p3;have C:=St.Na o;have E:=C.kD.rH (B:=As.os RR.key 41 2 ra rn rc (bf++[])) (by rw [List.append_nil]);refine EX.et rfl (RS.tmp rfl<|RS.tmp rfl<|RS.tmp rfl<|RS.nil) rfl<|?_;exact⟨l,lf,eL,ml,(L++[(f,A)]),[],false,43,_,_,_,_,_,_,_,rfl,by simpa using FS.QZ (aa:=aa) T N uX,fun h=>absurd h (by decide),G,hm,fW.refl _,bJ.refl _ _,E.p2.drop.p2.drop.p2.drop.p2.drop.p7.p1.p7.p7.p7.p7.p7⟩
 have uX:bH ⟨rev,x0.ab,l⟩ (L.map Prod.fst++[f]) [] (aH aa f.key f.ae).ask≠3:=by simpa using ZG
 refine(aS) (fun U9=>?_) fun U9=>?_
 ·
  exact absurd (by simpa using U9) (ya (x:=⟨rev,x0.ab,l⟩) (l:=(L.map Prod.fst++[f])) (k:=(aH aa f.key f.ae).ask))
 skip
 refine(aS) (fun g60=>?_) fun g60=>?_
 ·
  have V:bH ⟨rev,x0.ab,l⟩ (L.map Prod.fst++[f]) [] (aH aa f.key f.ae).ask=1:=by simpa using g60
  refine(ia) ao O.b0<|?_;have o:=O.qd;refine(bY) Sq (nP (k:=(aH aa f.key f.ae).ask) o.e1 (by rw [List.length_append,List.length_singleton];omega)) ?_;rintro _ w6 ⟨p1,p2,p3,rfl,FN⟩;have C:=St.lr o FN;refine gK ?_;have E:=C.p4.p4.p4;have F:=St.Na E;have ed:=F;have P:=St.J2 (g:=⟨(aH aa f.key f.ae).ask,false,0,[],[]⟩) ed rfl rfl;have ep:=P.kE.rH (B:=As.os RR.key 41 2 ra rn rc (bf++[])) (by rw [List.append_nil]);refine EX.et rfl (RS.tmp rfl<|RS.tmp rfl<|RS.tmp rfl<|RS.nil) rfl<|?_;exact⟨l,lf,eL,ml,_,[],true,0,_,_,_,_,_,_,_,rfl,by simpa using FS.push (aa:=aa) T N V,fun _ e=>by simp at e,G,hm,fW.refl _,bJ.refl _ _,ep.p3.drop.p3.drop.p3.drop.p3.drop.p2.p1.p7.p7.p7.p7.p7⟩
 have V:bH ⟨rev,x0.ab,l⟩ (L.map Prod.fst++[f]) [] (aH aa f.key f.ae).ask≠1:=by simpa using g60
 refine ck ?_;refine WC.bM (m:=20) [1] [9,17,19] [2,3,4,5,6,7,8,9,14,15,16,17,10,11,12,13,18,19,0,1] [(8,.sl 41 1 (aH aa f.key f.ae).ask.cells),(18,.sl 9 1 [.string (bP (valOf aa x0.ab) ⟨rev,x0.ab,l⟩ (aH aa f.key f.ae).ask)])] O (ai.k4 M0 M3 M4 M5<|ai.cons M6<|ai.cons kB<|ai.cons oj<|ai.nil) mixed (by kernel_rfl) (by kernel_rfl) rfl<|?_
 iterate 3 refine DG.a ?_
 refine DQ .r (fun I J K _ j H=>V1 dK (Ow.jD (As.gs (j.sv H).g6) (by rw [List.length_append,List.length_singleton];omega) y (bG L (f,A))) .r)<|(yR) ao SV.g0<|?_;refine DG.side (s:=.sl 41 1 (aH aa f.key f.ae).ask.cells) rfl rfl rfl rfl rfl rfl (fun I J K qS j=>OX.aP (us:=(aH aa f.key f.ae).ask.cells) dt rfl rfl rfl rfl fun b wy z hb=>⟨z.ext.size,_,rfl,⟨b,rfl⟩,j.cZ z hb⟩)<|?_;rintro _ ⟨b74,rfl⟩;refine(fL) (fun w6 U7 Iy o qT=>?_);simp only [CA,NA] at o;refine OX.jO mb rfl rfl rfl (As.gs o.g1) (SR.dc (A:=fun _=>True) (x:=(aH aa f.key f.ae).ask) (show bR _ b74 _ _ from o.ok _ (.tail _ (.tail _ (.tail _ (.tail _ (.tail _ (.tail _ (.tail _ (.tail _ (.tail _ (.tail _ (.tail _ (.tail _ (.tail _ (.tail _ (qT _ (.head _))))))))))))))))) trivial rfl (by simp [Key.cells,Value.oneCell']) rfl) (by show(A.n+1)*_≤_;omega) (by show A.n+1≤_;omega) (Nat.zero_le _) fun a75 W w7 agx ZH agy aoP=>?_;have C:=o.p1.eU ZH agx agy;refine⟨ZH.size,_,rfl,_,_,_,C,aw.k4<|aw.k4<|aw.k4<|aw.k2<|aw.nil,ai.k4 M1 M3 M4 M5<|ai.cons M6<|ai.cons kB<|ai.cons oj<|ai.nil,?_⟩
 iterate 2 refine DG.a ?_
 refine(yR) ao SV.g0<|(fL) (fun w8 aoQ akG E agz=>?_);simp only [CA,NA] at E;have F:=E.kE.kE.kE.kE.kE;refine OX.call Xv rfl rfl ((F2 (k:=(aH aa f.key f.ae).ask) (L:=(L.map Prod.fst++[f])) F.e5 (As.gf F.g9) (As.gr F.g11) hm G R hS Le (px V uX)).mono ?_);rintro _ w9 ⟨eO,rfl,AV,vx,nL⟩;have ed:=St.lr F nL;refine⟨_,rfl,nL.bW.size,_,rfl,_,_,_,ed,aw.k4<|aw.k4<|aw.k4<|aw.k2<|aw.nil,ai.k4 M6 M8 M9 hP<|ai.cons iJ<|ai.cons kB<|ai.cons oj<|ai.nil,?_⟩
 iterate 3 refine DG.a ?_
 refine DQ .r (fun I J K _ j H=>V1 r5 (Ow.jD (As.gs (j.sv H).g6) (by rw [List.length_append,List.length_singleton];omega) y (bG L (f,A))) .r)<|?_;refine DG.side (s:=.sl 9 1 [.string (bP (valOf aa x0.ab) ⟨rev,x0.ab,l⟩ (aH aa f.key f.ae).ask)]) rfl rfl rfl rfl rfl rfl (fun I J K qS j=>OX.aP (us:=[.string (bP (valOf aa x0.ab) ⟨rev,x0.ab,l⟩ (aH aa f.key f.ae).ask)]) jq rfl rfl rfl rfl fun b wy z hb=>⟨z.ext.size,_,rfl,⟨b,rfl⟩,j.cZ z hb⟩)<|?_;rintro _ ⟨b84,rfl⟩;refine(fL) (fun iP aoS akH P T5=>?_);simp only [CA,NA] at P;refine OX.jO Cf rfl rfl rfl (As.gs P.g7) (SR.dc (A:=fun _=>True) (x:=(bP (valOf aa x0.ab) ⟨rev,x0.ab,l⟩ (aH aa f.key f.ae).ask)) (show bR _ b84 _ _ from P.ok _ (.tail _ (.tail _ (.tail _ (.tail _ (.tail _ (.tail _ (.tail _ (.tail _ (.tail _ (.tail _ (.tail _ (.tail _ (.tail _ (.tail _ (T5 _ (.head _))))))))))))))))) trivial rfl (by simp [Value.oneCell']) rfl) (by show(A.n2+1)*_≤_;omega) (by show A.n2+1≤_;omega) (Nat.zero_le _) fun a85 T6 iW agA s85 agB aoT=>?_;have ep:=P.p7.eU s85 agA agB;refine⟨s85.size,_,rfl,_,_,_,ep,aw.k4<|aw.k4<|aw.k4<|aw.k2<|aw.nil,ai.k4 M7 M8 M9 hP<|ai.cons iJ<|ai.cons kB<|ai.cons oj<|ai.nil,?_⟩
 iterate 2 refine DG.a ?_
 refine(jm) ?_;intro lB PY eb;simp only [CM,NM,CA,NA,hK.it] at eb;refine bO ?_;refine WL.go rfl (OX.AR (f:=4) Sc (As.gs eb.g15) y (by omega) rfl rfl rfl ((({f with reads:=f.reads++[(aH aa f.key f.ae).ask]}:bq),(⟨a75,A.n+1,W,A.a2,A.n2,A.c2⟩:eC)):bq × eC) (fun r h=>by rw [RR.ba h];rfl) fun oh s19 OJ=>?_);have dH:=eb.VC.eU s19 OJ (fun x h=>.inl h);refine bO ?_;refine WL.go rfl (OX.AR (f:=5) Kw (As.gs dH.g0) y (by omega) rfl rfl rfl ((({f with reads:=f.reads++[(aH aa f.key f.ae).ask],ae:=f.ae++[(bP (valOf aa x0.ab) ⟨rev,x0.ab,l⟩ (aH aa f.key f.ae).ask)]}:bq),(⟨a75,A.n+1,W,a85,A.n2+1,T6⟩:eC)):bq × eC) (fun r h=>by rw [RR.ba h];rfl) fun sg s20 OK=>?_);have dI:=dH.eU s20 OK (fun x h=>.inl h);refine WL.nil (EX.np ?_);refine i7 ?_;have fb:=dI.kE.p4.kD;have dN:=St.Na (f:=({f with reads:=f.reads++[(aH aa f.key f.ae).ask],ae:=f.ae++[(bP (valOf aa x0.ab) ⟨rev,x0.ab,l⟩ (aH aa f.key f.ae).ask)]}:bq)) (A:=(⟨a75,A.n+1,W,a85,A.n2+1,T6⟩:eC)) fb;have eN:=dN.qd.rH (B:=As.os RR.key 41 2 ra rn rc (bf++[])) (by rw [List.append_nil]);refine EX.et rfl (RS.tmp rfl<|RS.tmp rfl<|RS.tmp rfl<|RS.nil) rfl<|?_;exact⟨l,lf,eL,eO,L++[(({f with reads:=f.reads++[(aH aa f.key f.ae).ask],ae:=f.ae++[(bP (valOf aa x0.ab) ⟨rev,x0.ab,l⟩ (aH aa f.key f.ae).ask)]}:bq),(⟨a75,A.n+1,W,a85,A.n2+1,T6⟩:eC))],[],true,0,_,_,_,_,_,_,_,rfl,by simpa using FS.read (aa:=aa) T N V uX,fun _ e=>by have:=congrArg (fun l=>(l.map bq.reads).flatten.length) e;simp at this,G,AV,vx,bJ.refl _ _,eN.p3.drop.p3.drop.p8.drop.p8.drop.p8.drop.p8.drop.p2.p1.p7.p7.p7.p7.p7⟩
set_option maxHeartbeats 400000
set_option maxRecDepth 100000 in
theorem Ak :CR prog 172 #[.int .u64 0] w (.int .i64 0):=by
 refine enter func172 rfl ntmps172 rfl<|?_;have aQ:=St.s0 w;refine(aS) (fun g4=>?_) fun g4=>?_
 ·
  exact dr g4
 refine(aS) (fun g8=>?_) fun g8=>?_
 ·
  exact dr g8
 refine(aS) (fun g14=>?_) fun g14=>?_
 ·
  exact dr g14
 refine fH ?_;refine WP .r ((show PV prog _ _ _ _ (.int .u8 0) from⟨rfl,rfl,fun _ _ _ _=>rfl⟩))<|WP .r ((show PV prog _ _ _ _ (.int .u8 0) from⟨rfl,rfl,fun _ _ _ _=>rfl⟩))<|WP .r ((show PV prog _ _ _ _ (.int .i64 0) from⟨rfl,rfl,fun _ _ _ _=>rfl⟩))<|(bA) ?_;exact⟨rfl,(St.cg aQ)⟩
theorem vY :CR prog 126 #[.int .u64 0] w (.int .i64 0):=by
 refine enter func126 rfl ntmps126 rfl<|?_;have aQ:=St.s0 w;refine fH ?_;refine WC.fX rfl<|(eV) (Ak) aQ fun w1 s1 st1=>?_;refine(bA) ?_;exact⟨rfl,(St.cg st1)⟩
theorem Dh :CR prog 174 #[.slice a 0 c,.int .i64 0,.int .i64 0,f] w (.tuple #[]):=by
 refine enter func174 rfl ntmps174 rfl<|?_;have aQ:=St.s0 w;refine gK ?_;refine WC.bm (σ:=Unit) (dn:=fun u=>[(0,.slice a 0 c),(1,.int .i64 0),(2,.int .i64 0),(3,f),(8,.int .i64 1)]) (F:=fun u=>[]) (I:=fun u=>True) (μ:=fun u=>0) (()) (aQ) Sub.t (trivial)<|?_;rintro u w1 st1 _;simp only [CA,NA] at st1 ⊢;refine(aS) (fun g14=>?_) fun g14=>?_
 ·
  exact dr g14
 refine ck ?_;refine EX.mT (.inr rfl) rfl<|?_;exact⟨rfl,(St.cg st1)⟩
theorem Di :CR prog 129 #[.slice a 0 c,.int .i64 0,.int .i64 0,.int .i64 0,f] w (.tuple #[]):=by
 refine enter func129 rfl ntmps129 rfl<|?_;have aQ:=St.s0 w;refine kg ?_;refine WC.bm (σ:=Unit) (dn:=fun u=>[(0,.slice a 0 c),(1,.int .i64 0),(2,.int .i64 0),(3,.int .i64 0),(4,f),(10,.bool true),(11,.bool true)]) (F:=fun u=>[]) (I:=fun u=>True) (μ:=fun u=>0) (()) (aQ) Sub.t (trivial)<|?_;rintro u w1 st1 _;simp only [CA,NA] at st1 ⊢;refine aW ?_;refine(aS) (fun b=>?_) fun b=>?_
 ·
  refine(eV) (Dh (f:=f)) st1 fun w2 s2 st2=>?_;refine eD ?_;refine EX.mT (.inl rfl) rfl<|?_;exact⟨rfl,(St.cg st2)⟩
 exact dr b
set_option maxRecDepth 100000 in
theorem Al :CR prog 79 #[.slice a 0 c,f] w (.tuple #[]):=by
 refine enter func79 rfl ntmps79 rfl<|?_;have aQ:=St.s0 w;refine kg ?_;refine WP .r ((show PV prog _ _ _ _ (.int .u64 0) from⟨rfl,rfl,fun _ _ _ _=>rfl⟩))<|(eV) (vY) aQ fun w1 s1 st1=>?_;refine(eV) (Di (f:=f)) st1 fun w2 s2 st2=>?_;refine nx ?_;refine EX.mT (.inr rfl) rfl<|?_;exact⟨rfl,(St.cg st2)⟩
theorem Dj :CR prog 163 #[.slice a 0 c,.int .i64 0,.int .i64 0,f] w (.tuple #[]):=by
 refine enter func163 rfl ntmps163 rfl<|?_;have aQ:=St.s0 w;refine gK ?_;refine WC.bm (σ:=Unit) (dn:=fun u=>[(0,.slice a 0 c),(1,.int .i64 0),(2,.int .i64 0),(3,f),(8,.int .i64 1)]) (F:=fun u=>[]) (I:=fun u=>True) (μ:=fun u=>0) (()) (aQ) Sub.t (trivial)<|?_;rintro u w1 st1 _;simp only [CA,NA] at st1 ⊢;refine(aS) (fun g14=>?_) fun g14=>?_
 ·
  exact dr g14
 refine ck ?_;refine EX.mT (.inr rfl) rfl<|?_;exact⟨rfl,(St.cg st1)⟩
theorem Dk :CR prog 125 #[.slice a 0 c,.int .i64 0,.int .i64 0,.int .i64 0,f] w (.tuple #[]):=by
 refine enter func125 rfl ntmps125 rfl<|?_;have aQ:=St.s0 w;refine kg ?_;refine WC.bm (σ:=Unit) (dn:=fun u=>[(0,.slice a 0 c),(1,.int .i64 0),(2,.int .i64 0),(3,.int .i64 0),(4,f),(10,.bool true),(11,.bool true)]) (F:=fun u=>[]) (I:=fun u=>True) (μ:=fun u=>0) (()) (aQ) Sub.t (trivial)<|?_;rintro u w1 st1 _;simp only [CA,NA] at st1 ⊢;refine aW ?_;refine(aS) (fun b=>?_) fun b=>?_
 ·
  refine(eV) (Dj (f:=f)) st1 fun w2 s2 st2=>?_;refine eD ?_;refine EX.mT (.inl rfl) rfl<|?_;exact⟨rfl,(St.cg st2)⟩
 exact dr b
set_option maxRecDepth 100000 in
theorem Am :CR prog 75 #[.slice a 0 c,f] w (.tuple #[]):=by
 refine enter func75 rfl ntmps75 rfl<|?_;have aQ:=St.s0 w;refine kg ?_;refine WP .r ((show PV prog _ _ _ _ (.int .u64 0) from⟨rfl,rfl,fun _ _ _ _=>rfl⟩))<|(eV) (vY) aQ fun w1 s1 st1=>?_;refine(eV) (Dk (f:=f)) st1 fun w2 s2 st2=>?_;refine nx ?_;refine EX.mT (.inr rfl) rfl<|?_;exact⟨rfl,(St.cg st2)⟩
set_option maxHeartbeats 400000
theorem An{l:List (Rec × RL)}(b:St w M Z w [As.os RR.EO 47 8 a n c l]) (hn:l.length≤1000000):Calls prog 75 #[.slice a n c,.func (.func 76) #[] #[]] w fun e w'=>e=.returned (.tuple #[])∧∃l',l'.Perm l∧(l'.Pairwise fun x y=>¬bD y.1.key x.1.key<0)∧St w M Z w' [As.os RR.EO 47 8 a n c l']:=by
 by_cases h:l=[]
 ·
  have hl:=(As.gs b.g0).len;subst h;have hl:n=0:=hl;subst hl;refine Am.mono<|?_;rintro e w' ⟨rfl,hc⟩;exact⟨rfl,[],.nil,.nil,b.step hc⟩
 exact Ad b h hn
set_option maxHeartbeats 1600000 in
theorem Ao(gp:St w M Z w [As.blk wb 86 (D.wc v rev ra rn rc),As.map Key.val D.m eL,As.gw 47 lf l]) (OH:Rd RR.aD 4 Z w D.a1 D.n1 D.c1 aD) (H:dy l lf eL) (hs:pQ l) (h6:l.length≤4000) (h7:aD.length≤4000):Calls prog 36 #[.pointer (some ⟨wb,0,none⟩)] w fun e w'=>∃(a1 a2:Option Addr) (n1 e1 n2 e2:Nat) (Z':Nat→Prop),e=.returned (.agg (cz.row ⟨rev,aD,l⟩ a1 n1 e1 a2 n2 e2).toArray)∧bJ w.heap.size Z Z'∧St w M Z' w' [As.blk wb 86 (D.wc v rev ra rn rc),As.os RR.aD 88 4 a1 n1 e1 aD,As.os RR.ew 47 8 a2 n2 e2 l]:=by
 refine enter func36 rfl ntmps36 rfl<|?_;have aQ:=gp;have st1:=aQ.fr OH;refine(eT) st1 fun b2 w1 TH wN st2=>?_;refine(ia) aN st2.b2<|(eT) st2 fun b3 w2 Ib wO ir=>?_;refine(cI) dP ir fun w3 jW ka hJ=>?_;refine gK ?_;refine WP .r (PV.ld1 (j:=2) kO hJ.b3 rfl rfl)<|?_;have X:=hJ;refine(bY) W5 (oR X.e0 (As.gr X.g2) (by omega)) ?_;rintro _ w4 ⟨o1,o2,o3,rfl,oy⟩;have hM:=St.lr X oy;refine nx ?_;refine WL.s1 hM.p1 fun w5 _ hh=>?_;refine nx ?_;refine WL.s1 hh fun w6 _ J=>?_;refine ck ?_;have Y:=((As.gm J.g5)).nodup;refine(aZ) fT J.b4<|?_;refine WL.go rfl (OX.range fU (As.gm J.g5) rfl rfl fun K w7 sI TN hmI=>?_);have iF:=J.p5;have eE:=iF.kC (B:=As.Q5 Key.val K D.m eL eL none) (sI.p.mono (fun x _ d=>by cases d)) hmI (fun x d=>by rcases d with h | h;exact .inr (h ▸ TN);exact .inl h);refine cm ?_;have di:=eE.dp RR.EO 47 8;have cX:=di.fact (B:=As.fz (rS [])) rS.nil (fun _ d=>d);refine WC.gY (σ:=(List (Key × Value)) × (Option (Key × Value)) × (List (Rec × RL)) × (Option Addr) × Nat × Nat × (Nat→Prop)) (dn:=fun(left,cur,L,g,o,s,z)=>[(2,.pointer (some ⟨b2,0,none⟩)),(3,.pointer (some ⟨b3,0,none⟩)),(22,.pointer (some ⟨K,0,none⟩))]) (F:=fun(left,cur,L,g,o,s,z)=>[As.Q5 Key.val K D.m eL left cur,As.blk b3 31 [.int .i64 rev,.slice o1 o2 o3,.slice g o s],As.os RR.EO 47 8 g o s L,As.fz (rS L)]) (I:=fun(left,cur,L,g,o,s,z)=>(Ka l eL left L)∧(∀q∈left,q∈eL)∧(bJ w.heap.size Z z)∧True) (μ:=fun(left,cur,L,g,o,s,z)=>left.length) (Zf:=fun(left,cur,L,g,o,s,z)=>z) (eL,none,[],none,0,0,_) (cX.p1.p3.p3) Sub.t (⟨Ka.start,fun _ h=>h,bJ.refl _ _,trivial⟩)<|?_;rintro⟨left,cur,L,g,o,s,z⟩ w8 N ⟨O,TP,mS,_⟩;simp only [CA,NA] at N O TP mS ⊢;have hLn:=((As.gs N.g2)).len;have hLl:=O.len H Y;refine bO ?_;refine WL.go rfl (OX.next ((As.MM N.g0)) rfl rfl fun rN Lk w9 sN hN hmN=>?_);have cW:=N;have C:=cW.kC (B:=As.Q5 Key.val K D.m eL Lk rN) (sN.p.mono (fun x _ d=>by simp at d;exact .inl d)) hmN (fun x d=>.inl d);refine WP .r (PV.ext rfl (GB _))<|(aS) (fun g24=>?_) fun g24=>?_
 ·
  obtain⟨p,rfl⟩:=Option.isSome_iff_exists.1 g24;obtain⟨P,vp⟩:=p;obtain⟨jN,Q,rfl⟩:=hN;have Oh:=TP _ (List.mem_of_getElem? Q);obtain⟨r1,E⟩:=(H.key (k:=P)).1 (List.mem_map.2 ⟨_,Oh,rfl⟩);have hgv:=H.yes E
  have hvp:vp=.pointer (some ⟨(lf P).b,0,none⟩):=by rw [(ug Y).2 Oh] at hgv;exact Option.some.inj hgv
  subst hvp;refine dd ?_;refine WP .r (PV.entry (As.MM C.g0) rfl)<|ck ?_;have IU:=(((As.sS C.g8)).1 _ _ E).2.2;have G:=C.fact (As.My (((((As.sS C.g8)).1 _ _ E).2.1))) (fun _ d=>d);have aoV:=G.size;refine WC.bM (m:=7) [] [5,6] [2,3,4,5,6,0,1] [] G (ai.k4 M0 M1 M2 M3<|ai.k4 M4 M5 M6 M7<|ai.cons M8<|ai.cons M9<|ai.nil) mixed (by kernel_rfl) (by kernel_rfl) rfl<|?_
  iterate 2 refine DG.a ?_
  refine DQ .r (fun wx Zx Rx _ oA yw=>VA dh (bR.range ((As.sS (oA.sv yw).g9).1 _ _ E).1) .r)<|(fL) (fun iP IA sr R jM=>?_);simp only [CA,NA] at R;have u:=R;refine OX.call Sr rfl rfl ((pL u.e0 (As.gr u.g0) IU).mono ?_);rintro _ iW ⟨q1,T,U,rfl,nR⟩;have V:=St.lr u nR;have hgq:=St.bN nR;have T7:=u.size;have W:=V.a8 (by omega);have qP:=mS.trans (bJ.dC (F:=fun x=>x∈aJ q1) hgq) T7;refine⟨_,rfl,nR.bW.size,_,rfl,_,_,_,W,aw.k4<|aw.k4<|aw.k2<|aw.cons<|aw.nil,ai.k4 M1 M2 M3 M4<|ai.k4 M5 M6 M7 M8<|ai.cons M9<|ai.cons hP<|ai.nil,?_⟩;refine(fL) (fun lB TJ FX fb oT=>?_);simp only [CA,NA] at fb;refine OX.aP (us:=(Rec.zm ((r1,(⟨0,q1,T,U⟩:RL)):Rec × RL))) nH rfl rfl rfl rfl fun OB oh Iz TG=>?_;have dN:=fb.cZ Iz TG;refine⟨Iz.ext.size,_,rfl,_,_,_,dN,aw.k4<|aw.k4<|aw.k4<|aw.nil,ai.k4 M2 M3 M4 M5<|ai.k4 M6 M7 M8 M9<|ai.cons hP<|ai.cons iJ<|ai.nil,?_⟩;refine(oo) dF SV.g2<|(jm)<|?_;intro sg tM eN;simp only [CM,NM,CA,NA,hK.it] at eN;refine WL.ap rfl rfl eN.p5 (SR.dc (A:=fun _=>True) (x:=((r1,(⟨0,q1,T,U⟩:RL)):Rec × RL)) (As.gb eN.g0) trivial rfl (Rec.Rt _) rfl) fun a34 OC pR Zg Zi fh=>?_;refine nx ?_;refine WL.s1 fh.p5 fun tL _ dQ=>?_;refine WL.nil (EX.np ?_);have eZ:=dQ.fact (B:=As.fz (rS (L++[(r1,(⟨0,q1,T,U⟩:RL))]))) (rS.snoc (As.gf dQ.g6) (As.gr dQ.g3) IU) (fun _ d=>d);have dB:=eZ.p7.drop;refine nx ?_;refine EX.again (left.eraseIdx jN,some (P,.pointer (some ⟨(lf P).b,0,none⟩)),L++[(r1,(⟨0,q1,T,U⟩:RL))],_,_,_,_) Sub.t ⟨dB.p3.drop.p3.drop.p3.drop.p2.p2.p3,⟨O.next Q E,fun q hq=>TP q (List.mem_of_mem_eraseIdx hq),qP,trivial⟩⟩ (by simp only [];rw [List.length_eraseIdx_of_lt (List.getElem?_eq_some_iff.1 Q).1];have:=(List.getElem?_eq_some_iff.1 Q).1;omega)
 have EE:rN=none:=by simpa using g24
 subst EE;obtain⟨rfl,rfl⟩:=hN;refine(aZ) dF C.b1<|?_;have G:=C.p2;refine(bY) ad8 (An G.e1 (by omega)) ?_;rintro _ iP ⟨rfl,L2,wB,tR,mF⟩;have R:=St.lr G mF;have hLf:=O.done H Y hs wB tR;have u:=R;have V:=u.conv (B:=As.os RR.ew 47 8 g o s l) (hLf ▸ rS.ew (As.gs u.g0) (fun y hy=>(As.gf u.g3) y (wB.mem_iff.1 hy))) (fun _ h=>h);refine(aX) aN V.b2<|(cI) dP V.p5 fun iW ry mu W=>?_;refine(kV) aN W.b0<|?_;exact⟨o1,g,o2,o3,o,s,_,rfl,mS,W.p1.p5.p7.k3⟩
set_option maxHeartbeats 400000
theorem oU(z:St w M Z w []) (B:Rd RR.aD 4 Z w a1 n1 e1 x.ab) (hr:Rd RR.ew 8 Z w a2 n2 e2 x.ah):Calls prog 13 #[.agg (x.row a1 n1 e1 a2 n2 e2).toArray,k.val] w fun e w'=>e=.returned (.tuple #[.string (fY x k),.bool (fB x k)])∧St w M Z w' []:=by
 refine enter func13 rfl ntmps13 rfl<|?_;have aQ:=z;have st1:=aQ.fr B;have st2:=st1.fr hr;refine(dz) st2 fun b2 w1 I J C=>?_;refine(dz) C fun b3 w2 K L u=>?_;refine(aX) ao u.b0<|(eV) (cN (k:=k)) u fun w3 N b=>?_;refine(aS) (fun g9=>?_) fun g9=>?_
 ·
  have d:fB x k=true:=by unfold fB;rw [g9];rfl
  have j:fY x k=(bw x.ab k).value:=by unfold fY;rw [if_pos g9]
  refine(aX) aN b.b1<|(aX) ao b.b0<|(eV) (tn (As.gr b.g3) (As.gr b.g2)) b fun w4 O m=>?_;refine(yP) ?_;exact⟨by rw [d,j],m.k0⟩
 skip
 refine(aZ) dF b.b1<|(aX) ao b.b0<|?_;have m:=b;refine(bY) adN (zX (k:=k) m.e0 (As.gr m.g2)) ?_;rintro _ w4 ⟨f1,f2,f3,rfl,_,E⟩;have F:=St.lr m E;refine(eT) F fun P w5 Q R G=>?_;refine(cI) fI G fun w6 T U o=>?_;refine dd ?_;refine WC.dJ (t:=28) (v:=.bool (!((aB x.ah k).isSome && decide ((aC x.ah k).av=x.ad)))) o ?_<|?_
 ·
  refine(de) (fun g22=>?_) (fun g22=>?_)
  ·
   exact(bZ) (tG g22) (o)
  refine(aZ) aO o.b0<|(aZ) aO o.b3<|?_;exact(bZ) (tG g22) (o)
 intro w7 p;refine(aS) (fun q=>?_) fun q=>?_
 ·
  have eS:ay k=false:=by simpa using g9
  have d:fB x k=false:=by
   unfold fB
   rw [eS,Bool.false_or,Bool.eq_false_iff];intro s;rw [Bool.and_eq_true] at s;have y:=s.1;have H:=of_decide_eq_true s.2;have g:=q
   simp at g
   exact g.elim (fun h=>by rw [h] at y;cases y) fun h=>h H
  have j:fY x k=⟨#[]⟩:=by unfold fY;rw [if_neg (by rw [eS];simp),if_neg (by rw [d];simp)]
  refine(yP) ?_;exact⟨by rw [d,j],p.k0⟩
 have eS:ay k=false:=by simpa using g9
 have d:fB x k=true:=by unfold fB;rw [eS,Bool.false_or];simpa using q
 have j:fY x k=(aC x.ah k).value:=by unfold fY;rw [if_neg (by rw [eS];simp),if_pos d]
 refine(aZ) e7 p.b0<|(yP) ?_;exact⟨by rw [d,j],p.k0⟩
set_option maxHeartbeats 400000
theorem vZ{pb:Nat}(hk:eA aa k) (b:bR w pb 27 [.slice ar r cr]) (hu:fG A w ar r cr aa):CR prog 65 #[k.val,.pointer (some ⟨pb,0,none⟩)] w (.bool false):=by
 refine enter func65 rfl ntmps65 rfl<|?_;have aQ:=St.s0 w;refine(dz) aQ fun b2 w1 d e st1=>?_;refine dd ?_;refine WP .r (PV.mn jy (bR.range (b.ext (St.cg st1))) rfl rfl)<|(aX) ao st1.b0<|(eV) (xh hk (hu.ext (St.cg st1))) st1 fun w2 s2 st2=>?_;refine(bA) ?_;exact⟨rfl,(St.cg st2)⟩
theorem v7{l:List Key}(hu:fG A w ar r cr aa) (g:Rd RR.aD 4 Z w a1 n1 e1 x.ab) (hr:Rd RR.ew 8 Z w a2 n2 e2 x.ah) (h:aq aa) (j:uK aa x) (e:Rd RR.key 2 Z w ag ng eg l) (hk:∀k∈l,eA aa k) (o:l.length≤32):CR prog 30 #[.slice ar r cr,.agg (x.row a1 n1 e1 a2 n2 e2).toArray,.slice ag ng eg] w (.int .i64 0):=by
 have q:=e.len;refine enter func30 rfl ntmps30 rfl<|?_;have aQ:=St.s0 w;refine(dz) aQ fun b3 w1 s t st1=>?_;refine(dz) st1 fun b4 w2 y z st2=>?_;refine eD ?_;refine WP .r (PV.mn jy st2.b1 rfl rfl)<|(eV) (vN (hu.ext (St.cg st2)) h) st2 fun w3 B b=>?_;refine ck ?_;refine WC.fX rfl<|(aX) aN b.b0<|(eV) (sq (g.ext (St.cg b)) (hr.ext (St.cg b)) j) b fun w4 C d=>?_;refine ck ?_;refine WC.fX rfl<|(aS) (fun g15=>?_) fun g15=>?_
 ·
  exact absurd (of_decide_eq_true g15) (by omega)
 skip
 refine cm ?_;refine WP .r (PV.func (us:=[]) (vs:=[.pointer (some ⟨b3,0,none⟩)]) rfl rfl)<|?_;refine WL.c1 (u:=.bool false) (qY (p:=fun _=>false) ad1 (e.ext (St.cg d)) (fun w1 h1 k hm=>vZ (hk k hm) (((As.gb d.g1)).ext h1) ((hu.ext (St.cg d)).ext h1))) (by rw [List.any_eq_false.2 (fun _ _=>by simp)]) d fun w5 E m=>?_;refine cm ?_;refine WC.fX rfl<|(bA) ?_;exact⟨rfl,(St.cg m)⟩
set_option maxHeartbeats 400000
theorem Ap{l:List Key}(b:St w M Z w [As.os RR.key 41 2 a n c l]) (hn:l.length≤1000000):Calls prog 79 #[.slice a n c,.func (.func 77) #[] #[]] w fun e w'=>e=.returned (.tuple #[])∧∃l',l'.Perm l∧(l'.Pairwise fun x y=>¬bD y x<0)∧St w M Z w' [As.os RR.key 41 2 a n c l']:=by
 by_cases h:l=[]
 ·
  have hl:=(As.gs b.g0).len;subst h;have hl:n=0:=hl;subst hl;refine Al.mono<|?_;rintro e w' ⟨rfl,hc⟩;exact⟨rfl,[],.nil,.nil,b.step hc⟩
 exact tq b h hn
theorem v8{l:List Key}(q:St w M Z w []) (hl:Rd RR.key 2 Z w a n c l) (g:l.Nodup) (hn:l.length≤1000000):Calls prog 37 #[.slice a n c] w fun e w'=>∃h j m,∃l':List Key,e=.returned (.slice h j m)∧y9 l'∧l'.Perm l∧St w M Z w' [As.os RR.key 41 2 h j m l']:=by
 refine enter func37 rfl ntmps37 rfl<|?_;have aQ:=q;have st1:=aQ.fr hl;refine gK ?_;have st2:=st1;refine(bY) KF (js st2.e0 (As.gr st2.g0) hn) ?_;rintro _ w1 ⟨b1,b2,c1,rfl,s⟩;have t:=St.lr st2 s;refine fH ?_;have o:=t;refine(bY) W7 (Ap o.e1 hn) ?_;rintro _ w2 ⟨rfl,d,b,u,y⟩;have p:=St.lr o y;have E:d.length=l.length:=b.length_eq;have z:d.Nodup:=b.nodup_iff.2 g;have B:=zc b g u;refine(eV) (mH (Ow.rd (As.gs p.g0) (by omega)) z) p fun w3 F C=>?_;refine(bA) ?_;exact⟨b1,_,c1,d,rfl,B,b,C.p1.drop⟩
theorem wa{l:List Key}(j:St w M Z w []) (hl:Rd RR.key 2 (fun x=>Z x∨x∈aJ a) w a n c l) (o:∀x∈aJ a,x<w.heap.size) (p:l.Nodup) (hn:l.length≤1000000):Calls prog 37 #[.slice a n c] w fun e w'=>∃b d g,∃l':List Key,e=.returned (.slice b d g)∧y9 l'∧l'.Perm l∧St w M Z w' [As.os RR.key 41 2 b d g l']:=by
 have q:St w M (fun x=>Z x∨x∈aJ a) w []:=⟨j.bW,fun x s=>s.elim (j.jG x) (o x),by simp,by simp,.nil,by simp⟩;refine(v8 q hl p hn).mono<|?_;rintro e w' ⟨b,d,g,l',rfl,t,u,m⟩;exact⟨b,d,g,l',rfl,t,u,m.unz (fun _ h=>.inl h) (Ow.z (As.gs m.g0))⟩
theorem Dl{L:List (bq × eC)}{f:bq}{A:eC}(G:St w M Z w [As.map Key.val S.m ml,As.map Key.val S.q [],As.blk wb 86 (D.wc S.s rev ra rn rc),As.map Key.val D.m eL,As.gw 47 lf l,As.os RR.key 41 2 ra rn rc bf,As.os RR.iq 126 6 al nl el (L++[(f,A)]),As.many (x9 41 9 (L++[(f,A)]))]) (X:(S.FV prog aa x0).p Z w) (Y:Rd RR.aD 4 Z w D.a1 D.n1 D.c1 x0.ab) (GC:Rd RR.eG 4 Z w D.ar D.r D.cr aa) (hm:aV aa x0.ab ml) (H:dy l lf eL) (I:aq aa) (J:∀k,(valOf aa x0.ab k).size≤1000) (K:KR aa l) (N:L.length≤1000) (Zz:bf.length≤100000) (hn4:eL.length<4000) (O:ft aa f) (hi:i<aa.length) (hki:f.key=aI aa (i:Int)) (hsz:∀s∈f.ae,s.size≤1000) (h6:l.length≤4000) (Vb:∀r∈l,r.reads.length≤4000) (hvr:∀r∈l,r.av≤rev):Calls prog 35 #[.pointer (some ⟨wb,0,none⟩),.slice al nl el,.func (.func 34) #[] #[]] w fun e w'=>∃(l':List Rec) (P:Key→RL) (Q j:List (Key × Value)) (L':List (bq × eC)) (rk:List Key) (d:Bool) (g:Int) (a R:Option Addr) (n c T U:Nat) (Z':Nat→Prop),e=.returned (.tuple #[.slice a n c,.bool d,.int .i64 g])∧FS aa (valOf aa x0.ab) ⟨rev,x0.ab,l⟩ (L.map Prod.fst) f ⟨rev,x0.ab,l'⟩ (L'.map Prod.fst) rk g∧(g=0→L'.map Prod.fst≠L.map Prod.fst++[f])∧dy l' P Q∧aV aa x0.ab j∧fW ml j∧bJ w.heap.size Z Z'∧St w M Z' w' [As.map Key.val S.m j,As.map Key.val S.q [],As.blk wb 86 (D.wc S.s rev R T U),As.map Key.val D.m Q,As.gw 47 P l',As.os RR.key 41 2 R T U (bf++rk),As.os RR.iq 126 6 a n c L',As.many (x9 41 9 L')]:=by
 have IJ:=(As.gs G.g6).len;rw [List.length_append,List.length_singleton] at IJ;refine enter func35 rfl ntmps35 rfl<|?_;have aQ:=G;have st1:=aQ.fr Y;have st2:=st1.fr GC;have h:=st2.fact (B:=As.fz (S.FV prog aa x0)) X (fun _ hx=>hx);refine kU ?_;obtain⟨gJ,V⟩:=Ow.addr (As.gs h.g9) (bG L (f,A));refine ck ?_;refine WP .r ((PV.sub rfl rfl (by omega) (by omega)).cast (v':=.int .i64 (L.length:Int)) (congrArg (Value.int .i64) (by omega)))<|WP .r (PV.dV mM (i:=L.length) V rfl rfl (by omega))<|(aZ) dA (Ow.jD (As.gs h.g9) (by rw [List.length_append,List.length_singleton];omega) V (bG L (f,A)))<|(aS) (fun g15=>?_) fun g15=>?_
 ·
  have o:f.running=true:=g15;refine dd ?_;have b:=h.kD.kD.kD.kD.kD.kD.kD.kD;refine(bY) ad6 (F7 b.e8 (As.gf b.g8) (As.gr b.g10) (As.gr b.g9) hm H I J K N Zz hn4 O hi hki hsz o) ?_;rintro _ w1 ⟨l1,lf1,agD,t,L1,rk,d,g,a1,JN,n1,c1,rn1,rc1,Z1,rfl,T8,DJ,u,y,z,W,C⟩;have E:=St.lv b C W;have mS:=W.le b.size;refine i7 ?_;refine EX.et rfl (RS.tmp rfl<|RS.tmp rfl<|RS.tmp rfl<|RS.nil) rfl<|?_;exact⟨l1,lf1,agD,t,L1,rk,d,g,a1,JN,n1,c1,rn1,rc1,_,rfl,T8,DJ,u,y,z,mS,E.p8.drop.p8.drop.p8.drop⟩
 have o:f.running=false:=by simpa using g15
 refine eD ?_;have b:=h.p9.p8.p8.p8.p8.p8;refine(bY) ad7 (Aj b.e6 (As.gf b.g6) (As.gr b.g8) hm H I J K N o h6 Vb hvr O.at0) ?_;rintro _ w1 ⟨l1,L1,d,g,a1,n1,c1,t,rfl,F,u,y,z,C⟩;have E:=St.lr b C;refine kU ?_;have hM:=E.kD;have hh:=St.acZ hM F.2.2;have iI:=hh.kD.rH (B:=As.os RR.key 41 2 ra rn rc (bf++[])) (by rw [List.append_nil]);refine EX.et rfl (RS.tmp rfl<|RS.tmp rfl<|RS.tmp rfl<|RS.nil) rfl<|?_;exact⟨l1,lf,eL,t,L1,[],d,g,a1,ra,n1,c1,rn,rc,_,rfl,F.1,F.2.1,u,y,z,bJ.refl _ _,iI.p8.drop.p8.drop.p8.drop.p7.p1.p7.p7.p7.p7.p7⟩
set_option maxHeartbeats 4000000 in
theorem ib{goals:List Key}(gp:St w M Z w []) (ht:lA prog Z w) (hu:Rd RR.eG 4 Z w ar r cr aa) (OH:Rd RR.aD 4 Z w a1 n1 e1 x.ab) (hr:Rd RR.ew 8 Z w a2 n2 e2 x.ah) (hg:Rd RR.key 2 Z w ag ng eg goals) (u:aq aa) (d:LC aa x) (hk:∀k∈goals,eA aa k) (h32:goals.length≤32):Calls prog 11 #[.slice ar r cr,.agg (x.row a1 n1 e1 a2 n2 e2).toArray,.slice ag ng eg] w fun e w'=>∃(b':cz) (bf rs:List Key) (Zs Zv a3':Option Addr) (Zt Zu Zw Zy n3' e3':Nat) (Z':Nat→Prop),e=.returned (.tuple #[.agg (b'.row Zs Zt Zu Zv Zw Zy).toArray,.slice a3' n3' e3',.int .i64 0])∧gX aa (valOf aa x.ab) goals x b' [] bf∧b'.ab=x.ab∧(∀k∈goals,ay k=true∨az b' k=true)∧y9 rs∧rs.Perm bf∧bJ w.heap.size Z Z'∧St w M Z' w' [As.os RR.aD 88 4 Zs Zt Zu b'.ab,As.os RR.ew 47 8 Zv Zw Zy b'.ah,As.os RR.key 41 2 a3' n3' e3' rs]:=by
 have ZI:=d.lb.JM;have hS:=d.lb.small u;have OD:=hg.len;refine enter func11 rfl ntmps11 rfl<|?_;have aQ:=gp;have st1:=aQ.fr hu;have st2:=st1.fr OH;have ir:=st2.fr hr;have hJ:=ir.fr hg;have iY:=hJ.fact (B:=As.fz (FZ.IH prog)) ht (fun _ d=>d);refine(dz) iY fun b4 w1 Fh IY hM=>?_;refine(eT) hM fun b6 w2 Fi KW W=>?_;refine(aX) aN W.b1<|(eV) (v7 (As.gr W.g6) (As.gr W.g5) (As.gr W.g4) u ZI (As.gr W.g3) hk h32) W fun w3 s3 iI=>?_;refine(aS) (fun g22=>?_) fun g22=>?_
 ·
  exact dr g22
 refine(aX) aN iI.b1<|?_;have R:=iI;refine(bY) adF (Aq (x:=x) R.e0 (As.gf R.g2) (As.gr R.g6) (As.gr R.g5) (As.gr R.g4) ZI.2.2.2.2.2.2.2.1 (Nat.le_trans ZI.2.2.2.2.1 (by decide)) ZI.2.2.2.2.2.2.1) ?_;rintro _ w4 ⟨D,S,wb,lf0,agE,Z1,rfl,hmt,nN,hfv,hdi,agF,oy⟩;have eE:=St.lv R oy nN;have wC:=nN.le R.size;have di:=eE.fact (B:=As.fz (S.FV prog aa x)) hfv (fun _ d=>d);have cX:=di.fr (hdi);have dm:=cX.fr (agF);refine i7 ?_;have cW:=dm.dp RR.key 41 2;refine bO ?_;refine WC.gY (σ:=Nat × (List Rec) × (Key→RL) × (List (Key × Value)) × (List (Key × Value)) × (List Key) × (Option Addr) × Nat × Nat × (Nat→Prop)) (dn:=fun(i,l1,z,C,E,h,JN,G,H,T)=>[(4,.pointer (some ⟨b4,0,none⟩)),(6,.pointer (some ⟨b6,0,none⟩)),(10,.pointer (some ⟨wb,0,none⟩)),(29,.slice ag ng eg),(30,.int .i64 (ng:Int)),(31,.int .i64 (i:Int))]) (F:=fun(i,l1,z,C,E,h,JN,G,H,T)=>[As.map Key.val S.m E,As.blk wb 86 (D.wc S.s x.ad JN G H),As.map Key.val D.m C,As.gw 47 z l1,As.os RR.key 41 2 JN G H h]) (I:=fun(i,l1,z,C,E,h,JN,G,H,T)=>(i≤ng)∧(gX aa (valOf aa x.ab) goals x ⟨x.ad,x.ab,l1⟩ [] h)∧(dy l1 z C)∧(aV aa x.ab E)∧(∀y∈goals.take i,(ay y=true∨az ⟨x.ad,x.ab,l1⟩ y=true))∧(bJ w.heap.size Z T)∧True) (μ:=fun(i,l1,z,C,E,h,JN,G,H,T)=>ng - i) (Zf:=fun(i,l1,z,C,E,h,JN,G,H,T)=>T) (0,x.ah,lf0,agE,[],[],none,0,0,_) (cW.p8.p8.p8.p7) Sub.t (⟨Nat.zero_le _,.start,hmt,aV.nil,by simp,wC,trivial⟩)<|?_;rintro⟨i,l1,z,C,E,h,JN,G,H,T⟩ w5 ed ⟨hi,Lo,OM,Ih,ov,mS,_⟩;simp only [CA,NA] at ed hi Lo OM Ih ov mS ⊢;refine(aS) (fun Mc=>?_) fun Mc=>?_
 ·
  simp at Mc
  have qM:i<goals.length:=by omega
  have hnk:cY goals[i]:=(hk _ (List.getElem_mem qM)).cY;obtain⟨_,agH,_⟩:=Lo.ready u d hk;refine dd ?_;obtain⟨gJ,kF,jV,cR,gI,fw,ek,eJ⟩:=Rd.at (As.gr ed.g12) qM;have fw:=RR.ba fw;subst fw;have fJ:=ed.fg eJ ek;refine nx ?_;refine WP .r (PV.dV ey cR rfl rfl (by omega))<|(aX) ao (As.kT fJ.g0)<|(eT) fJ fun Va w6 TQ TS X=>?_;refine(cI) gR X fun w7 jW ka eb=>?_;refine(aX) ao eb.b0<|?_;have J:=eb;refine(bY) adG (C6 (aD:=x.ab) (k:=goals[i]) J.e0 (As.gb J.g3) (As.gm J.g4) OM (As.sS J.g5) agH hnk) ?_;rintro _ w8 ⟨o1,o2,o3,rfl,kG⟩;have Y:=St.lr J kG;refine bO ?_;have fb:=St.Ru (EK:=41) (ES:=9) (k:=goals[i]) (c:=cH ⟨x.ad,x.ab,l1⟩ [] goals[i]) Y;refine bO ?_;refine WC.gY (σ:=(List Rec) × (Key→RL) × (List (Key × Value)) × (List (Key × Value)) × (List Key) × (Option Addr) × Nat × Nat × (Nat→Prop) × (List (bq × eC)) × (Option Addr) × Nat × Nat) (dn:=fun(b,K,N,eO,o,O,P,Q,U,L,al,nl,el)=>[(4,.pointer (some ⟨b4,0,none⟩)),(6,.pointer (some ⟨b6,0,none⟩)),(10,.pointer (some ⟨wb,0,none⟩)),(13,.slice al nl el),(29,.slice ag ng eg),(30,.int .i64 (ng:Int)),(31,.int .i64 (i:Int))]) (F:=fun(b,K,N,eO,o,O,P,Q,U,L,al,nl,el)=>[As.map Key.val S.m eO,As.blk wb 86 (D.wc S.s x.ad O P Q),As.map Key.val D.m N,As.gw 47 K b,As.os RR.key 41 2 O P Q o,As.os RR.iq 126 6 al nl el L,As.many (x9 41 9 L)]) (I:=fun(b,K,N,eO,o,O,P,Q,U,L,al,nl,el)=>(gX aa (valOf aa x.ab) goals x ⟨x.ad,x.ab,b⟩ (L.map Prod.fst) o)∧(dy b K N)∧(aV aa x.ab eO)∧(∀y∈goals.take i,(ay y=true∨az ⟨x.ad,x.ab,b⟩ y=true))∧(ay goals[i]=true∨az ⟨x.ad,x.ab,b⟩ goals[i]=true∨∃g q,L.map Prod.fst=g::q∧g.key=goals[i])∧(bJ w.heap.size Z U)∧True) (μ:=fun(b,K,N,eO,o,O,P,Q,U,L,al,nl,el)=>UX aa ⟨x.ad,x.ab,b⟩ (L.map Prod.fst)) (Zf:=fun(b,K,N,eO,o,O,P,Q,U,L,al,nl,el)=>U) (l1,z,C,E,h,JN,G,H,_,(if cH ⟨x.ad,x.ab,l1⟩ [] goals[i]=true then [((⟨goals[i],false,0,[],[]⟩:bq),(⟨none,0,0,none,0,0⟩:eC))] else []),o1,o2,o3) (fb.p1.p8.p8.p8.p8.p8) Sub.t (⟨gX.taken Lo (List.getElem_mem qM),OM,Ih,ov,HP,mS,trivial⟩)<|?_;rintro⟨b,K,N,eO,o,O,P,Q,U,L,al,nl,el⟩ w9 p ⟨V,pJ,AV,py,hbo,qP,_⟩;simp only [CA,NA] at p V pJ AV py hbo qP ⊢;refine(aS) (fun L0=>?_) fun L0=>?_
  ·
   simp at L0
   have hLn:=((As.gs p.g5)).len;obtain⟨Lp,f,A,rfl⟩:=Nf (L:=L) (by omega);simp only [List.map_append,List.map_cons,List.map_nil] at V hbo;obtain⟨T9,agI,hp6,Qe,Ve,agJ,agK,wE,ao6,agL⟩:=V.ready u d hk;obtain⟨Dm,⟨j,hj,UM⟩,hsz⟩:=agL f (by simp);have hmn:=pJ.len ((As.gm p.g2)).nodup
   have hp7:Lp.length≤1000:=by simp at hp6;omega
   have Ve:b.length<4000:=Ve;refine eD ?_;have eN:=p.p6.p6.p6.p6.p6.p6.o9.p7;refine(bY) adI (Dl (x0:=x) eN.e8 (As.gf eN.g12) (As.gr eN.g11) (As.gr eN.g10) AV pJ u hS agI hp7 Qe (by omega) Dm hj UM hsz (by omega) agJ agK) ?_;rintro _ iP ⟨l3,lf3,agM,iR,L3,rk,d3,er,o4,ra3,o5,o6,rn3,rc3,Z5,rfl,T8,DJ,Lq,Il,tK,vL,mF⟩;have fh:=St.lv eN mF vL;have yv:=qP.trans vL eN.size;obtain rfl:er=0:=V.Wj u d hk T8
   replace DJ:=DJ rfl
   have agN:=hbo.imp id (FS.bot T8);refine aW ?_;refine(aS) (fun g49=>?_) fun g49=>?_
   ·
    exact dr g49
   refine eD ?_;refine EX.again (l3,lf3,agM,iR,o++rk,ra3,rn3,rc3,_,L3,o4,o5,o6) Sub.t ⟨fh.o9.o9.o9.o9.o9.o9.o9.o9.o9.o9.o9.kE,⟨V.step T8 DJ,Lq,Il,fun y hy=>(py y hy).imp id T8.ups,agN,yv,trivial⟩⟩ (by simp only [List.map_append,List.map_cons,List.map_nil];exact V.less u d hk T8 DJ)
  simp at L0
  have hLn:=((As.gs p.g5)).len;obtain rfl:L=[]:=List.eq_nil_of_length_eq_zero (by omega);have Ua:=Ng qM py hbo;refine i7 ?_;refine ez (i+1,b,K,N,eO,o,O,P,Q,_) ⟨p.p5.drop.p5.drop.p5.drop.p5.drop,⟨by omega,V,pJ,AV,Ua,qP,trivial⟩⟩
 simp at Mc
 have ig:goals.take i=goals:=List.take_of_length_le (by omega);rw [ig] at ov;obtain⟨hbk,_,_,Qe,Ve,_,_,yM,agO,_⟩:=Lo.ready u d hk;have Ve:l1.length<4000:=Ve;refine fH ?_;refine WC.bM (m:=6) [] [1] [0,1,2,3,4,5] [] ed (ai.cons M1<|ai.nil) mixed (by kernel_rfl) (by kernel_rfl) rfl<|(fL) (fun w6 R1x Zp fJ P8=>?_);simp only [CA,NA] at fJ;have X:=fJ.p3.p3.p3;refine OX.call adJ rfl rfl ((Ao X.e3 (As.gr X.g6) OM agO (by omega) (Nat.le_trans ZI.2.2.2.2.1 (by decide))).mono ?_);rintro _ w7 ⟨s1,s2,s3,s4,s5,s6,Z6,rfl,vV,jB⟩;have eb:=St.lv X jB vV;have Af:=mS.trans vV X.size;refine⟨_,rfl,jB.bW.size,_,rfl,_,_,_,eb,aw.k4<|aw.k4<|aw.k4<|aw.k4<|aw.nil,ai.cons M0<|ai.nil,?_⟩
 iterate 3 refine DG.a ?_
 refine(oo) dK SV.g0<|(jm)<|?_;intro w8 PY J;simp only [CM,NM,CA,NA,hK.it] at J;have Y:=J;refine(bY) W2 (wa Y.e0 (Ow.rd (As.gs Y.g4) (by omega)) (OR.lt (As.gs Y.g4)) yM (by omega)) ?_;rintro _ w9 ⟨q1,q2,q3,rs,rfl,hsk,Oh,nL⟩;have fb:=St.lr Y nL;refine(cI) dP fb.kD fun iP ry mu p=>?_;refine bO ?_;refine WL.nil (EX.np ?_);refine bO ?_;refine EX.et rfl (RS.cell aN rfl p.b0 rfl<|RS.tmp rfl<|RS.tmp rfl<|RS.nil) rfl<|?_;exact⟨⟨x.ad,x.ab,l1⟩,h,rs,s1,s2,q1,s3,s4,s5,s6,q2,q3,_,rfl,Lo,rfl,ov,hsk,Oh,Af,p.p1.p4.p4.k3⟩
end Go.Rc

