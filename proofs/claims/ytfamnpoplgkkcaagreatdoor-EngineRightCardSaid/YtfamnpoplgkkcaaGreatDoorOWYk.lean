/- Walks over the program, part WYk. Conditions: as each theorem says. -/
import Derived.Test.YtfamnpoplgkkcaaGreatDoorOFacts
import Derived.Test.YtfamnpoplgkkcaaGreatDoorOWYg
import Derived.Test.YtfamnpoplgkkcaaGreatDoorOWLibE
import Derived.Test.YtfamnpoplgkkcaaGreatDoorOWUa
import Derived.Test.YtfamnpoplgkkcaaGreatDoorOWZr
import Derived.Test.YtfamnpoplgkkcaaGreatDoorOBi
set_option linter.all false
namespace Go.Rc
open Go Go.Proofs Go.Proofs.Tryz
variable {v wb rn rc i r c e2 nl el n n1 e1 n2 cr ng eg:Nat}{rev:Int}{aD:List cv}{l:List Rec}{D:WD}{ra a a2 al a1 ar ag:Option Addr}{lf:Key→RL}{eK ml:List (Key × Value)}{bf:List Key}{f:Value}{w:World}{M Z A:Nat→Prop}{aa:List aG}{k:Key}{x0 x:cy}{S:SD}
set_option maxHeartbeats 400000
theorem FJ{f:bm}{A:eC}{value:ByteArray}(d:St w M Z w [As.blk wb 86 (D.wc v rev ra rn rc),As.map Key.val D.m eK,As.gq 47 lf l,As.os RR.key 41 2 ra rn rc bf,As.os RR.key 41 2 A.a A.n A.c f.reads]) (g:dy l lf eK) (h:f.reads.length≤4000) (hr:bf.length≤100000) (o:eK.length<4000):Calls prog 120 #[.pointer (some ⟨wb,0,none⟩),.agg (bm.oe (f,A)).toArray,.string value] w fun e w'=>∃(q:RL) (a:Option Addr) (n c:Nat) (Z':Nat→Prop),e=.returned (.int .i64 0)∧bH w.heap.size Z Z'∧St w M Z' w' [As.blk wb 86 (D.wc v rev a n c),As.map Key.val D.m (cJ eK f.key (.pointer (some ⟨q.b,0,none⟩))),As.gq 47 (wB lf f.key q) (ey l (bJ ⟨rev,aD,l⟩ f.key value f.reads)),As.os RR.key 41 2 a n c (bf++[f.key]),As.os RR.key 41 2 A.a A.n A.c f.reads]:=by
 cases j:az l f.key with
 | none=>exact CU d g h hr j o
 | some r=>exact CV d g h hr j
theorem wV{ae:List ByteArray}{B C:Nat→Prop}{r2:Nat}(d:k=aM aa (i:Int)) (ht:lq prog A w) (b:aq aa) (hi:i<aa.length) (hr:fK B w a r c aa) (hl:Strs C w a2 r2 e2 ae) (hsz:∀s∈ae,s.size≤1000):CR prog 119 #[.slice a r c,k.val,.slice a2 r2 e2] w ((aH aa k ae).val):=by
 have e:=b.len;subst d;rw [eY hi (by omega)];exact lk ht b hi hr hl hsz
set_option maxHeartbeats 4000000 in
theorem FK{L:List (bm × eC)}{f:bm}{A:eC}(gk:St w M Z w [As.map Key.val S.m ml,As.map Key.val S.q [],As.blk wb 86 (D.wc S.s rev ra rn rc),As.map Key.val D.m eK,As.gq 47 lf l,As.os RR.key 41 2 ra rn rc bf,As.os RR.ig 126 6 al nl el (L++[(f,A)]),As.many (xW 41 9 (L++[(f,A)]))]) (hf:(S.FV prog aa x0).p Z w) (Ob:Rd RR.aD 4 Z w D.a1 D.n1 D.c1 x0.ab) (Gf:Rd RR.eT 4 Z w D.ar D.r D.cr aa) (hm:aU aa x0.ab ml) (G:dy l lf eK) (R:aq aa) (hS:∀k,(valOf aa x0.ab k).size≤1000) (Ky:KR aa l) (hL6:L.length≤1000) (Y3:bf.length≤100000) (hn4:eK.length<4000) (X:fx aa f) (hi:i<aa.length) (hki:f.key=aM aa (i:Int)) (hsz:∀s∈f.ae,s.size≤1000) (T:f.running=true):Calls prog 72 #[.pointer (some ⟨wb,0,none⟩),.slice al nl el,.func (.func 34) #[] #[]] w fun e w'=>∃(l':List Rec) (lf':Key→RL) (Y8 Y:List (Key × Value)) (L':List (bm × eC)) (rk:List Key) (d:Bool) (er:Int) (a ra':Option Addr) (n c rn' rc':Nat) (Z':Nat→Prop),e=.returned (.tuple #[.slice a n c,.bool d,.int .i64 er])∧FS aa (valOf aa x0.ab) ⟨rev,x0.ab,l⟩ (L.map Prod.fst) f ⟨rev,x0.ab,l'⟩ (L'.map Prod.fst) rk er∧(er=0→L'.map Prod.fst≠L.map Prod.fst++[f])∧dy l' lf' Y8∧aU aa x0.ab Y∧fW ml Y∧bH w.heap.size Z Z'∧St w M Z' w' [As.map Key.val S.m Y,As.map Key.val S.q [],As.blk wb 86 (D.wc S.s rev ra' rn' rc'),As.map Key.val D.m Y8,As.gq 47 lf' l',As.os RR.key 41 2 ra' rn' rc' (bf++rk),As.os RR.ig 126 6 a n c L',As.many (xW 41 9 L')]:=by
 have Il:=(As.gs gk.g6).len;rw [List.length_append,List.length_singleton] at Il
 have Y4:((L++[(f,A)]).map Prod.fst)=L.map Prod.fst++[f]:=by simp
 have Qq:=X.len;have yc:=X.gF.le R;refine enter func72 rfl ntmps72 rfl<|?_;have aO:=gk;have st1:=aO.fr Ob;have st2:=st1.fr Gf;have iT:=st2.fact (B:=As.fz (S.FV prog aa x0)) hf (fun _ hx=>hx);have ik:=iT.kx;have U:=St.OI ik;have Ly:=((As.gs U.g0)).len;have hyn:=((As.gs U.g1)).len;refine gL ?_;obtain⟨gH,y⟩:=Ow.addr (As.gs U.g12) (bF L (f,A));refine cj ?_;refine WP .r ((PV.sub rfl rfl (by omega) (by omega)).cast (v':=.int .i64 (L.length:Int)) (congrArg (Value.int .i64) (by omega)))<|WP .r (PV.dI mE (i:=L.length) y rfl rfl (by omega))<|cj ?_;refine WC.bN (m:=14) [] [12] [0,1,2,3,4,5,6,7,8,9,10,11,12,13] [(13,.blk 140 [.bool false,.string ⟨#[]⟩,.int .i64 0,.string ⟨#[]⟩])] U (ai.k4 M0 M1 M2 M3<|ai.k4 M4 M5 M6 M7<|ai.k4 M8 M9 hU iP<|ai.cons kC<|ai.nil) mixed (by kernel_rfl) (by kernel_rfl) rfl<|?_
 iterate 3 refine DG.a ?_
 refine(oc) jy SV.g8<|?_
 iterate 3 refine DG.a ?_
 refine DQ .r (fun I J K _ j H=>PV.wa ao (Ow.jD (As.gs (j.sv H).g12) (by rw [List.length_append,List.length_singleton];omega) y (bF L (f,A))) rfl rfl)<|?_
 iterate 3 refine DG.a ?_
 refine DQ .r (fun I J K _ j H=>V1 rM (Ow.jD (As.gs (j.sv H).g12) (by rw [List.length_append,List.length_singleton];omega) y (bF L (f,A))) .r)<|(fV) (fun w1 af7 Y9 Q TC=>?_);simp only [CA,NA] at Q;refine OX.call O3 rfl rfl ((wV hki ((As.gf Q.g3)).1.2.2.2 R hi (As.gr Q.g4) (Ow.rd (As.gs Q.g1) (by omega)) hsz).mono ?_);rintro _ w2 ⟨rfl,s2⟩;have gW:=Q.step s2;refine⟨_,rfl,s2.size,_,rfl,_,_,_,gW,aw.k4<|aw.k4<|aw.k4<|aw.cons<|aw.nil,ai.k4 M0 M1 M2 M3<|ai.k4 M4 M5 M6 M7<|ai.k4 M8 M9 hU iP<|ai.cons kC<|ai.nil,?_⟩;refine DG.side (s:=.blk 140 [.bool false,.string ⟨#[]⟩,.int .i64 0,.string ⟨#[]⟩]) rfl rfl rfl rfl rfl rfl (fun I J K qW j=>OX.alloc oD rfl fun b wy z hb=>⟨z.ext.size,_,rfl,⟨b,rfl⟩,j.de z hb⟩)<|?_;rintro _ ⟨PC,rfl⟩;refine(jv) ?_;intro w3 oj iH;simp only [CM,NM,CA,NA,hI.it] at iH;refine(cF) gy iH fun w4 jO jZ t=>?_;refine WL.nil (EX.np ?_);refine(aZ) dG t.b0<|(aR) (fun g31=>?_) fun g31=>?_
 ·
  have N:(aH aa f.key f.ae).done=true:=g31;refine bK ?_;have Yw:=t.bL;refine WC.dS (m:=6) t mixed<|bY ?_;refine DP .r (fun _ hC=>VA nC (Ow.jD (As.gs hC.2.g13) (by rw [List.length_append,List.length_singleton];omega) y (bF L (f,A))) .r)<|(il) fh St.g0<|(cP)<|?_;rintro w5 ⟨rZ,O⟩ _;have o:=O.p1.ov.ov.ov.ov;refine(bX) W3 (FJ (aD:=x0.ab) (f:=f) (A:=A) (value:=(aH aa f.key f.ae).value) o.e5 G (by omega) Y3 hn4) ?_;rintro _ w6 ⟨q,q1,q2,q3,Z1,rfl,nK,zH⟩;have C:=St.lv o zH nK;have mN:=nK.le o.size;refine(aR) (fun Lr=>?_) fun Lr=>?_
  ·
   exact dm Lr
  refine ed ?_;refine WP .r ((PV.sub rfl rfl (by omega) (by omega)).cast (v':=.int .i64 (L.length:Int)) (congrArg (Value.int .i64) (by omega)))<|WP .r (PV.mS mE (i:=L.length) (Ow.rd (As.gs C.g13) (by rw [List.length_append,List.length_singleton];omega)) rfl rfl (by omega))<|ed ?_;have E:=C.ox;have F:=St.Q4 E;refine EX.ew rfl (RS.tmp rfl<|RS.tmp rfl<|RS.tmp rfl<|RS.nil) rfl<|?_;exact⟨_,_,_,ml,L,[f.key],true,0,_,q1,_,_,_,_,_,rfl,FS.put T N,fun _ e=>by simpa using congrArg List.length e,(G.put (r:=bJ ⟨rev,x0.ab,l⟩ f.key (aH aa f.key f.ae).value f.reads) (q:=q) (cT l _)),hm,fW.refl _,mN,F.p5.drop.p5.drop.p5.drop.p6.drop.p6.drop.p6.drop.p4.p4.p4.p4.p7.p7⟩
 have N:(aH aa f.key f.ae).done=false:=g31;obtain⟨GL,KJ⟩:=X.gF.next R N;refine(gX) ao t.b0<|nx ?_;refine WL.c1 (u:=.int .i64 (bG ⟨rev,x0.ab,l⟩ (L.map Prod.fst++[f]) [] (aH aa f.key f.ae).ask)) (nM (aD:=x0.ab) (As.gb t.g9) (As.gm t.g10) G (As.sH t.g11) Ky (Ow.rd (As.gs t.g13) (by rw [List.length_append,List.length_singleton];omega)) KJ.cX) (by rw [Y4]) t fun w5 s5 O=>?_;refine(aR) (fun Za=>?_) fun Za=>?_
 ·
  have uR:bG ⟨rev,x0.ab,l⟩ (L.map Prod.fst++[f]) [] (aH aa f.key f.ae).ask=3:=by simpa using Za
  refine jT ?_;have o:=O.p3.p3.p3;have C:=St.My o;have E:=C.kx.rp (B:=As.os RR.key 41 2 ra rn rc (bf++[])) (by rw [List.append_nil]);refine EX.ew rfl (RS.tmp rfl<|RS.tmp rfl<|RS.tmp rfl<|RS.nil) rfl<|?_;exact⟨l,lf,eK,ml,(L++[(f,A)]),[],false,43,_,_,_,_,_,_,_,rfl,by simpa using FS.QG (aa:=aa) T N uR,fun h=>absurd h (by decide),G,hm,fW.refl _,bH.refl _ _,E.p2.drop.p2.drop.p2.drop.p2.drop.p7.p1.p7.p7.p7.p7.p7⟩
 have uR:bG ⟨rev,x0.ab,l⟩ (L.map Prod.fst++[f]) [] (aH aa f.key f.ae).ask≠3:=by simpa using Za
 refine(aR) (fun UJ=>?_) fun UJ=>?_
 ·
  exact absurd (by simpa using UJ) (xX (x:=⟨rev,x0.ab,l⟩) (l:=(L.map Prod.fst++[f])) (k:=(aH aa f.key f.ae).ask))
 skip
 refine(aR) (fun g60=>?_) fun g60=>?_
 ·
  have V:bG ⟨rev,x0.ab,l⟩ (L.map Prod.fst++[f]) [] (aH aa f.key f.ae).ask=1:=by simpa using g60
  refine(gX) ao O.b0<|?_;have o:=O.ox;refine(bX) R4 (nN (k:=(aH aa f.key f.ae).ask) o.e1 (by rw [List.length_append,List.length_singleton];omega)) ?_;rintro _ w6 ⟨p1,p2,p3,rfl,zH⟩;have C:=St.lr o zH;refine gL ?_;have E:=C.p4.p4.p4;have F:=St.My E;have eb:=F;have P:=St.JK (g:=⟨(aH aa f.key f.ae).ask,false,0,[],[]⟩) eb rfl rfl;have eu:=P.ky.rp (B:=As.os RR.key 41 2 ra rn rc (bf++[])) (by rw [List.append_nil]);refine EX.ew rfl (RS.tmp rfl<|RS.tmp rfl<|RS.tmp rfl<|RS.nil) rfl<|?_;exact⟨l,lf,eK,ml,_,[],true,0,_,_,_,_,_,_,_,rfl,by simpa using FS.push (aa:=aa) T N V,fun _ e=>by simp at e,G,hm,fW.refl _,bH.refl _ _,eu.p3.drop.p3.drop.p3.drop.p3.drop.p2.p1.p7.p7.p7.p7.p7⟩
 have V:bG ⟨rev,x0.ab,l⟩ (L.map Prod.fst++[f]) [] (aH aa f.key f.ae).ask≠1:=by simpa using g60
 refine cj ?_;refine WC.bN (m:=20) [1] [9,17,19] [2,3,4,5,6,7,8,9,14,15,16,17,10,11,12,13,18,19,0,1] [(8,.sl 41 1 (aH aa f.key f.ae).ask.cells),(18,.sl 9 1 [.string (bO (valOf aa x0.ab) ⟨rev,x0.ab,l⟩ (aH aa f.key f.ae).ask)])] O (ai.k4 M0 M3 M4 M5<|ai.cons M6<|ai.cons kC<|ai.cons oa<|ai.nil) mixed (by kernel_rfl) (by kernel_rfl) rfl<|?_
 iterate 3 refine DG.a ?_
 refine DQ .r (fun I J K _ j H=>V1 dC (Ow.jD (As.gs (j.sv H).g6) (by rw [List.length_append,List.length_singleton];omega) y (bF L (f,A))) .r)<|(yF) ao SV.g0<|?_;refine DG.side (s:=.sl 41 1 (aH aa f.key f.ae).ask.cells) rfl rfl rfl rfl rfl rfl (fun I J K qW j=>OX.aP (us:=(aH aa f.key f.ae).ask.cells) dz rfl rfl rfl rfl fun b wy z hb=>⟨z.ext.size,_,rfl,⟨b,rfl⟩,j.de z hb⟩)<|?_;rintro _ ⟨b74,rfl⟩;refine(fV) (fun w6 UI H8 o qK=>?_);simp only [CA,NA] at o;refine OX.jR l5 rfl rfl rfl (As.gs o.g1) (SR.dd (A:=fun _=>True) (x:=(aH aa f.key f.ae).ask) (show bQ _ b74 _ _ from o.ok _ (.tail _ (.tail _ (.tail _ (.tail _ (.tail _ (.tail _ (.tail _ (.tail _ (.tail _ (.tail _ (.tail _ (.tail _ (.tail _ (.tail _ (qK _ (.head _))))))))))))))))) trivial rfl (by simp [Key.cells,Value.oneCell']) rfl) (by show(A.n+1)*_≤_;omega) (by show A.n+1≤_;omega) (Nat.zero_le _) fun a75 W w7 agb Zc agc an4=>?_;have C:=o.p1.eV Zc agb agc;refine⟨Zc.size,_,rfl,_,_,_,C,aw.k4<|aw.k4<|aw.k4<|aw.k2<|aw.nil,ai.k4 M1 M3 M4 M5<|ai.cons M6<|ai.cons kC<|ai.cons oa<|ai.nil,?_⟩
 iterate 2 refine DG.a ?_
 refine(yF) ao SV.g0<|(fV) (fun w8 an5 aj1 E agd=>?_);simp only [CA,NA] at E;have F:=E.ky.ky.ky.ky.ky;refine OX.call W4 rfl rfl ((FD (k:=(aH aa f.key f.ae).ask) (L:=(L.map Prod.fst++[f])) F.e5 (As.gf F.g9) (As.gr F.g11) hm G R hS KJ (pf V uR)).mono ?_);rintro _ w9 ⟨eO,rfl,AG,vl,nI⟩;have eb:=St.lr F nI;refine⟨_,rfl,nI.bV.size,_,rfl,_,_,_,eb,aw.k4<|aw.k4<|aw.k4<|aw.k2<|aw.nil,ai.k4 M6 M8 M9 hU<|ai.cons iP<|ai.cons kC<|ai.cons oa<|ai.nil,?_⟩
 iterate 3 refine DG.a ?_
 refine DQ .r (fun I J K _ j H=>V1 rM (Ow.jD (As.gs (j.sv H).g6) (by rw [List.length_append,List.length_singleton];omega) y (bF L (f,A))) .r)<|?_;refine DG.side (s:=.sl 9 1 [.string (bO (valOf aa x0.ab) ⟨rev,x0.ab,l⟩ (aH aa f.key f.ae).ask)]) rfl rfl rfl rfl rfl rfl (fun I J K qW j=>OX.aP (us:=[.string (bO (valOf aa x0.ab) ⟨rev,x0.ab,l⟩ (aH aa f.key f.ae).ask)]) jm rfl rfl rfl rfl fun b wy z hb=>⟨z.ext.size,_,rfl,⟨b,rfl⟩,j.de z hb⟩)<|?_;rintro _ ⟨b84,rfl⟩;refine(fV) (fun iN an7 aj2 P TD=>?_);simp only [CA,NA] at P;refine OX.jR B3 rfl rfl rfl (As.gs P.g7) (SR.dd (A:=fun _=>True) (x:=(bO (valOf aa x0.ab) ⟨rev,x0.ab,l⟩ (aH aa f.key f.ae).ask)) (show bQ _ b84 _ _ from P.ok _ (.tail _ (.tail _ (.tail _ (.tail _ (.tail _ (.tail _ (.tail _ (.tail _ (.tail _ (.tail _ (.tail _ (.tail _ (.tail _ (.tail _ (TD _ (.head _))))))))))))))))) trivial rfl (by simp [Value.oneCell']) rfl) (by show(A.n2+1)*_≤_;omega) (by show A.n2+1≤_;omega) (Nat.zero_le _) fun a85 TE iV age s85 agf an8=>?_;have eu:=P.p7.eV s85 age agf;refine⟨s85.size,_,rfl,_,_,_,eu,aw.k4<|aw.k4<|aw.k4<|aw.k2<|aw.nil,ai.k4 M7 M8 M9 hU<|ai.cons iP<|ai.cons kC<|ai.cons oa<|ai.nil,?_⟩
 iterate 2 refine DG.a ?_
 refine(jv) ?_;intro k9 Pv dZ;simp only [CM,NM,CA,NA,hI.it] at dZ;refine bK ?_;refine WL.go rfl (OX.AE (f:=4) RP (As.gs dZ.g15) y (by omega) rfl rfl rfl ((({f with reads:=f.reads++[(aH aa f.key f.ae).ask]}:bm),(⟨a75,A.n+1,W,A.a2,A.n2,A.c2⟩:eC)):bm × eC) (fun r h=>by rw [RR.a8 h];rfl) fun mM s19 Od=>?_);have dE:=dZ.Vb.eV s19 Od (fun x h=>.inl h);refine bK ?_;refine WL.go rfl (OX.AE (f:=5) J9 (As.gs dE.g0) y (by omega) rfl rfl rfl ((({f with reads:=f.reads++[(aH aa f.key f.ae).ask],ae:=f.ae++[(bO (valOf aa x0.ab) ⟨rev,x0.ab,l⟩ (aH aa f.key f.ae).ask)]}:bm),(⟨a75,A.n+1,W,a85,A.n2+1,TE⟩:eC)):bm × eC) (fun r h=>by rw [RR.a8 h];rfl) fun pH s20 Oe=>?_);have dF:=dE.eV s20 Oe (fun x h=>.inl h);refine WL.nil (EX.np ?_);refine ju ?_;have e7:=dF.ky.p4.kx;have dL:=St.My (f:=({f with reads:=f.reads++[(aH aa f.key f.ae).ask],ae:=f.ae++[(bO (valOf aa x0.ab) ⟨rev,x0.ab,l⟩ (aH aa f.key f.ae).ask)]}:bm)) (A:=(⟨a75,A.n+1,W,a85,A.n2+1,TE⟩:eC)) e7;have fb:=dL.ox.rp (B:=As.os RR.key 41 2 ra rn rc (bf++[])) (by rw [List.append_nil]);refine EX.ew rfl (RS.tmp rfl<|RS.tmp rfl<|RS.tmp rfl<|RS.nil) rfl<|?_;exact⟨l,lf,eK,eO,L++[(({f with reads:=f.reads++[(aH aa f.key f.ae).ask],ae:=f.ae++[(bO (valOf aa x0.ab) ⟨rev,x0.ab,l⟩ (aH aa f.key f.ae).ask)]}:bm),(⟨a75,A.n+1,W,a85,A.n2+1,TE⟩:eC))],[],true,0,_,_,_,_,_,_,_,rfl,by simpa using FS.read (aa:=aa) T N V uR,fun _ e=>by have:=congrArg (fun l=>(l.map bm.reads).flatten.length) e;simp at this,G,AG,vl,bH.refl _ _,fb.p3.drop.p3.drop.p8.drop.p8.drop.p8.drop.p8.drop.p2.p1.p7.p7.p7.p7.p7⟩
set_option maxHeartbeats 400000
set_option maxRecDepth 100000 in
theorem Ab :CR prog 172 #[.int .u64 0] w (.int .i64 0):=by
 refine enter func172 rfl ntmps172 rfl<|?_;have aO:=St.s0 w;refine(aR) (fun g4=>?_) fun g4=>?_
 ·
  exact dm g4
 refine(aR) (fun g8=>?_) fun g8=>?_
 ·
  exact dm g8
 refine(aR) (fun g14=>?_) fun g14=>?_
 ·
  exact dm g14
 refine fO ?_;refine WP .r ((show PV prog _ _ _ _ (.int .u8 0) from⟨rfl,rfl,fun _ _ _ _=>rfl⟩))<|WP .r ((show PV prog _ _ _ _ (.int .u8 0) from⟨rfl,rfl,fun _ _ _ _=>rfl⟩))<|WP .r ((show PV prog _ _ _ _ (.int .i64 0) from⟨rfl,rfl,fun _ _ _ _=>rfl⟩))<|(bs) ?_;exact⟨rfl,(St.cg aO)⟩
theorem vQ :CR prog 126 #[.int .u64 0] w (.int .i64 0):=by
 refine enter func126 rfl ntmps126 rfl<|?_;have aO:=St.s0 w;refine fO ?_;refine WC.eA rfl<|(eS) (Ab) aO fun w1 s1 st1=>?_;refine(bs) ?_;exact⟨rfl,(St.cg st1)⟩
theorem C2 :CR prog 174 #[.slice a 0 c,.int .i64 0,.int .i64 0,f] w (.tuple #[]):=by
 refine enter func174 rfl ntmps174 rfl<|?_;have aO:=St.s0 w;refine gL ?_;refine WC.bd (σ:=Unit) (dj:=fun u=>[(0,.slice a 0 c),(1,.int .i64 0),(2,.int .i64 0),(3,f),(8,.int .i64 1)]) (F:=fun u=>[]) (I:=fun u=>True) (μ:=fun u=>0) (()) (aO) Sub.t (trivial)<|?_;rintro u w1 st1 _;simp only [CA,NA] at st1 ⊢;refine(aR) (fun g14=>?_) fun g14=>?_
 ·
  exact dm g14
 refine cj ?_;refine EX.mO (.inr rfl) rfl<|?_;exact⟨rfl,(St.cg st1)⟩
theorem C3 :CR prog 129 #[.slice a 0 c,.int .i64 0,.int .i64 0,.int .i64 0,f] w (.tuple #[]):=by
 refine enter func129 rfl ntmps129 rfl<|?_;have aO:=St.s0 w;refine jT ?_;refine WC.bd (σ:=Unit) (dj:=fun u=>[(0,.slice a 0 c),(1,.int .i64 0),(2,.int .i64 0),(3,.int .i64 0),(4,f),(10,.bool true),(11,.bool true)]) (F:=fun u=>[]) (I:=fun u=>True) (μ:=fun u=>0) (()) (aO) Sub.t (trivial)<|?_;rintro u w1 st1 _;simp only [CA,NA] at st1 ⊢;refine aX ?_;refine(aR) (fun b=>?_) fun b=>?_
 ·
  refine(eS) (C2 (f:=f)) st1 fun w2 s2 st2=>?_;refine ed ?_;refine EX.mO (.inl rfl) rfl<|?_;exact⟨rfl,(St.cg st2)⟩
 exact dm b
set_option maxRecDepth 100000 in
theorem Ac :CR prog 79 #[.slice a 0 c,f] w (.tuple #[]):=by
 refine enter func79 rfl ntmps79 rfl<|?_;have aO:=St.s0 w;refine jT ?_;refine WP .r ((show PV prog _ _ _ _ (.int .u64 0) from⟨rfl,rfl,fun _ _ _ _=>rfl⟩))<|(eS) (vQ) aO fun w1 s1 st1=>?_;refine(eS) (C3 (f:=f)) st1 fun w2 s2 st2=>?_;refine nx ?_;refine EX.mO (.inr rfl) rfl<|?_;exact⟨rfl,(St.cg st2)⟩
theorem C4 :CR prog 163 #[.slice a 0 c,.int .i64 0,.int .i64 0,f] w (.tuple #[]):=by
 refine enter func163 rfl ntmps163 rfl<|?_;have aO:=St.s0 w;refine gL ?_;refine WC.bd (σ:=Unit) (dj:=fun u=>[(0,.slice a 0 c),(1,.int .i64 0),(2,.int .i64 0),(3,f),(8,.int .i64 1)]) (F:=fun u=>[]) (I:=fun u=>True) (μ:=fun u=>0) (()) (aO) Sub.t (trivial)<|?_;rintro u w1 st1 _;simp only [CA,NA] at st1 ⊢;refine(aR) (fun g14=>?_) fun g14=>?_
 ·
  exact dm g14
 refine cj ?_;refine EX.mO (.inr rfl) rfl<|?_;exact⟨rfl,(St.cg st1)⟩
theorem C5 :CR prog 125 #[.slice a 0 c,.int .i64 0,.int .i64 0,.int .i64 0,f] w (.tuple #[]):=by
 refine enter func125 rfl ntmps125 rfl<|?_;have aO:=St.s0 w;refine jT ?_;refine WC.bd (σ:=Unit) (dj:=fun u=>[(0,.slice a 0 c),(1,.int .i64 0),(2,.int .i64 0),(3,.int .i64 0),(4,f),(10,.bool true),(11,.bool true)]) (F:=fun u=>[]) (I:=fun u=>True) (μ:=fun u=>0) (()) (aO) Sub.t (trivial)<|?_;rintro u w1 st1 _;simp only [CA,NA] at st1 ⊢;refine aX ?_;refine(aR) (fun b=>?_) fun b=>?_
 ·
  refine(eS) (C4 (f:=f)) st1 fun w2 s2 st2=>?_;refine ed ?_;refine EX.mO (.inl rfl) rfl<|?_;exact⟨rfl,(St.cg st2)⟩
 exact dm b
set_option maxRecDepth 100000 in
theorem Ad :CR prog 75 #[.slice a 0 c,f] w (.tuple #[]):=by
 refine enter func75 rfl ntmps75 rfl<|?_;have aO:=St.s0 w;refine jT ?_;refine WP .r ((show PV prog _ _ _ _ (.int .u64 0) from⟨rfl,rfl,fun _ _ _ _=>rfl⟩))<|(eS) (vQ) aO fun w1 s1 st1=>?_;refine(eS) (C5 (f:=f)) st1 fun w2 s2 st2=>?_;refine nx ?_;refine EX.mO (.inr rfl) rfl<|?_;exact⟨rfl,(St.cg st2)⟩
set_option maxHeartbeats 400000
theorem Ae{l:List (Rec × RL)}(b:St w M Z w [As.os RR.Ex 47 8 a n c l]) (hn:l.length≤1000000):Calls prog 75 #[.slice a n c,.func (.func 76) #[] #[]] w fun e w'=>e=.returned (.tuple #[])∧∃l',l'.Perm l∧(l'.Pairwise fun x y=>¬bA y.1.key x.1.key<0)∧St w M Z w' [As.os RR.Ex 47 8 a n c l']:=by
 by_cases h:l=[]
 ·
  have hl:=(As.gs b.g0).len;subst h;have hl:n=0:=hl;subst hl;refine Ad.mono<|?_;rintro e w' ⟨rfl,hc⟩;exact⟨rfl,[],.nil,.nil,b.step hc⟩
 exact zV b h hn
set_option maxHeartbeats 1600000 in
theorem Af(gk:St w M Z w [As.blk wb 86 (D.wc v rev ra rn rc),As.map Key.val D.m eK,As.gq 47 lf l]) (Ob:Rd RR.aD 4 Z w D.a1 D.n1 D.c1 aD) (H:dy l lf eK) (hs:pG l) (h6:l.length≤4000) (h7:aD.length≤4000):Calls prog 36 #[.pointer (some ⟨wb,0,none⟩)] w fun e w'=>∃(a1 a2:Option Addr) (n1 e1 n2 e2:Nat) (Z':Nat→Prop),e=.returned (.agg (cy.row ⟨rev,aD,l⟩ a1 n1 e1 a2 n2 e2).toArray)∧bH w.heap.size Z Z'∧St w M Z' w' [As.blk wb 86 (D.wc v rev ra rn rc),As.os RR.aD 88 4 a1 n1 e1 aD,As.os RR.dV 47 8 a2 n2 e2 l]:=by
 refine enter func36 rfl ntmps36 rfl<|?_;have aO:=gk;have st1:=aO.fr Ob;refine(eN) st1 fun b2 w1 Tj wD st2=>?_;refine(gX) aL st2.b2<|(eN) st2 fun b3 w2 HO wE iT=>?_;refine(cF) dR iT fun w3 jO jZ ik=>?_;refine gL ?_;refine WP .r (PV.ld1 (j:=2) iX ik.b3 rfl rfl)<|?_;have X:=ik;refine(bX) Ws (oI X.e0 (As.gr X.g2) (by omega)) ?_;rintro _ w4 ⟨o1,o2,o3,rfl,oi⟩;have iC:=St.lr X oi;refine nx ?_;refine WL.s1 iC.p1 fun w5 _ gW=>?_;refine nx ?_;refine WL.s1 gW fun w6 _ J=>?_;refine cj ?_;have Y:=((As.gm J.g5)).nodup;refine(aZ) fT J.b4<|?_;refine WL.go rfl (OX.range fU (As.gm J.g5) rfl rfl fun K w7 sI Tp hmI=>?_);have iE:=J.p5;have eD:=iE.ku (B:=As.QL Key.val K D.m eK eK none) (sI.p.mono (fun x _ d=>by cases d)) hmI (fun x d=>by rcases d with h | h;exact .inr (h ▸ Tp);exact .inl h);refine bY ?_;have dh:=eD.dp RR.Ex 47 8;have cW:=dh.fact (B:=As.fz (rG [])) rG.nil (fun _ d=>d);refine WC.hh (σ:=(List (Key × Value)) × (Option (Key × Value)) × (List (Rec × RL)) × (Option Addr) × Nat × Nat × (Nat→Prop)) (dj:=fun(left,cur,L,g,o,s,z)=>[(2,.pointer (some ⟨b2,0,none⟩)),(3,.pointer (some ⟨b3,0,none⟩)),(22,.pointer (some ⟨K,0,none⟩))]) (F:=fun(left,cur,L,g,o,s,z)=>[As.QL Key.val K D.m eK left cur,As.blk b3 31 [.int .i64 rev,.slice o1 o2 o3,.slice g o s],As.os RR.Ex 47 8 g o s L,As.fz (rG L)]) (I:=fun(left,cur,L,g,o,s,z)=>(JS l eK left L)∧(∀q∈left,q∈eK)∧(bH w.heap.size Z z)∧True) (μ:=fun(left,cur,L,g,o,s,z)=>left.length) (Zf:=fun(left,cur,L,g,o,s,z)=>z) (eK,none,[],none,0,0,_) (cW.p1.p3.p3) Sub.t (⟨JS.start,fun _ h=>h,bH.refl _ _,trivial⟩)<|?_;rintro⟨left,cur,L,g,o,s,z⟩ w8 N ⟨O,Tq,mN,_⟩;simp only [CA,NA] at N O Tq mN ⊢;have hLn:=((As.gs N.g2)).len;have hLl:=O.len H Y;refine bK ?_;refine WL.go rfl (OX.next ((As.Mi N.g0)) rfl rfl fun rN KS w9 sN hN hmN=>?_);have da:=N;have C:=da.ku (B:=As.QL Key.val K D.m eK KS rN) (sN.p.mono (fun x _ d=>by simp at d;exact .inl d)) hmN (fun x d=>.inl d);refine WP .r (PV.ext rfl (Ge _))<|(aR) (fun g24=>?_) fun g24=>?_
 ·
  obtain⟨p,rfl⟩:=Option.isSome_iff_exists.1 g24;obtain⟨P,vp⟩:=p;obtain⟨jN,Q,rfl⟩:=hN;have NQ:=Tq _ (List.mem_of_getElem? Q);obtain⟨r1,E⟩:=(H.key (k:=P)).1 (List.mem_map.2 ⟨_,NQ,rfl⟩);have hgv:=H.yes E
  have hvp:vp=.pointer (some ⟨(lf P).b,0,none⟩):=by rw [(ub Y).2 NQ] at hgv;exact Option.some.inj hgv
  subst hvp;refine db ?_;refine WP .r (PV.entry (As.Mi C.g0) rfl)<|cj ?_;have It:=(((As.sH C.g8)).1 _ _ E).2.2;have G:=C.fact (As.L0 (((((As.sH C.g8)).1 _ _ E).2.1))) (fun _ d=>d);have aoa:=G.size;refine WC.bN (m:=7) [] [5,6] [2,3,4,5,6,0,1] [] G (ai.k4 M0 M1 M2 M3<|ai.k4 M4 M5 M6 M7<|ai.cons M8<|ai.cons M9<|ai.nil) mixed (by kernel_rfl) (by kernel_rfl) rfl<|?_
  iterate 2 refine DG.a ?_
  refine DQ .r (fun wx Zx Rx _ pB yk=>VA cU (bQ.range ((As.sH (pB.sv yk).g9).1 _ _ E).1) .r)<|(fV) (fun iN Ia r9 R jQ=>?_);simp only [CA,NA] at R;have u:=R;refine OX.call R5 rfl rfl ((pA u.e0 (As.gr u.g0) It).mono ?_);rintro _ iV ⟨q1,T,U,rfl,nP⟩;have V:=St.lr u nP;have hgq:=St.bM nP;have TF:=u.size;have W:=V.ba (by omega);have qH:=mN.trans (bH.dA (F:=fun x=>x∈aI q1) hgq) TF;refine⟨_,rfl,nP.bV.size,_,rfl,_,_,_,W,aw.k4<|aw.k4<|aw.k2<|aw.cons<|aw.nil,ai.k4 M1 M2 M3 M4<|ai.k4 M5 M6 M7 M8<|ai.cons M9<|ai.cons hU<|ai.nil,?_⟩;refine(fV) (fun k9 Tk Fy e7 oK=>?_);simp only [CA,NA] at e7;refine OX.aP (us:=(Rec.y7 ((r1,(⟨0,q1,T,U⟩:RL)):Rec × RL))) nD rfl rfl rfl rfl fun N5 mM H9 Ti=>?_;have dL:=e7.de H9 Ti;refine⟨H9.ext.size,_,rfl,_,_,_,dL,aw.k4<|aw.k4<|aw.k4<|aw.nil,ai.k4 M2 M3 M4 M5<|ai.k4 M6 M7 M8 M9<|ai.cons hU<|ai.cons iP<|ai.nil,?_⟩;refine(oc) dt SV.g2<|(jv)<|?_;intro pH qD fb;simp only [CM,NM,CA,NA,hI.it] at fb;refine WL.ap rfl rfl fb.p5 (SR.dd (A:=fun _=>True) (x:=((r1,(⟨0,q1,T,U⟩:RL)):Rec × RL)) (As.gb fb.g0) trivial rfl (Rec.Q6 _) rfl) fun a34 N6 og YJ YK fc=>?_;refine nx ?_;refine WL.s1 fc.p5 fun sZ _ ez=>?_;refine WL.nil (EX.np ?_);have fj:=ez.fact (B:=As.fz (rG (L++[(r1,(⟨0,q1,T,U⟩:RL))]))) (rG.snoc (As.gf ez.g6) (As.gr ez.g3) It) (fun _ d=>d);have dM:=fj.p7.drop;refine nx ?_;refine EX.again (left.eraseIdx jN,some (P,.pointer (some ⟨(lf P).b,0,none⟩)),L++[(r1,(⟨0,q1,T,U⟩:RL))],_,_,_,_) Sub.t ⟨dM.p3.drop.p3.drop.p3.drop.p2.p2.p3,⟨O.next Q E,fun q hq=>Tq q (List.mem_of_mem_eraseIdx hq),qH,trivial⟩⟩ (by simp only [];rw [List.length_eraseIdx_of_lt (List.getElem?_eq_some_iff.1 Q).1];have:=(List.getElem?_eq_some_iff.1 Q).1;omega)
 have Eo:rN=none:=by simpa using g24
 subst Eo;obtain⟨rfl,rfl⟩:=hN;refine(aZ) dt C.b1<|?_;have G:=C.p2;refine(bX) adJ (Ae G.e1 (by omega)) ?_;rintro _ iN ⟨rfl,L2,we,tK,qG⟩;have R:=St.lr G qG;have hLf:=O.done H Y hs we tK;have u:=R;have V:=u.conv (B:=As.os RR.dV 47 8 g o s l) (hLf ▸ rG.dV (As.gs u.g0) (fun y hy=>(As.gf u.g3) y (we.mem_iff.1 hy))) (fun _ h=>h);refine(aY) aL V.b2<|(cF) dR V.p5 fun iV qV mi W=>?_;refine(kR) aL W.b0<|?_;exact⟨o1,g,o2,o3,o,s,_,rfl,mN,W.p1.p5.p7.k3⟩
set_option maxHeartbeats 400000
theorem oL(z:St w M Z w []) (B:Rd RR.aD 4 Z w a1 n1 e1 x.ab) (hr:Rd RR.dV 8 Z w a2 n2 e2 x.ah):Calls prog 13 #[.agg (x.row a1 n1 e1 a2 n2 e2).toArray,k.val] w fun e w'=>e=.returned (.tuple #[.string (im x k),.bool (eL x k)])∧St w M Z w' []:=by
 refine enter func13 rfl ntmps13 rfl<|?_;have aO:=z;have st1:=aO.fr B;have st2:=st1.fr hr;refine(dq) st2 fun b2 w1 I J C=>?_;refine(dq) C fun b3 w2 K L u=>?_;refine(aY) ao u.b0<|(eS) (cM (k:=k)) u fun w3 N b=>?_;refine(aR) (fun g9=>?_) fun g9=>?_
 ·
  have d:eL x k=true:=by unfold eL;rw [g9];rfl
  have j:im x k=(bw x.ab k).value:=by unfold im;rw [if_pos g9]
  refine(aY) aL b.b1<|(aY) ao b.b0<|(eS) (tg (As.gr b.g3) (As.gr b.g2)) b fun w4 O m=>?_;refine(yE) ?_;exact⟨by rw [d,j],m.k0⟩
 skip
 refine(aZ) dt b.b1<|(aY) ao b.b0<|?_;have m:=b;refine(bX) adn (zP (k:=k) m.e0 (As.gr m.g2)) ?_;rintro _ w4 ⟨f1,f2,f3,rfl,_,E⟩;have F:=St.lr m E;refine(eN) F fun P w5 Q R G=>?_;refine(cF) fI G fun w6 T U o=>?_;refine db ?_;refine WC.dU (t:=28) (v:=.bool (!((az x.ah k).isSome && decide ((aC x.ah k).av=x.ad)))) o ?_<|?_
 ·
  refine(dc) (fun g22=>?_) (fun g22=>?_)
  ·
   exact(cw) (tG g22) (o)
  refine(aZ) aN o.b0<|(aZ) aN o.b3<|?_;exact(cw) (tG g22) (o)
 intro w7 p;refine(aR) (fun q=>?_) fun q=>?_
 ·
  have eJ:ay k=false:=by simpa using g9
  have d:eL x k=false:=by
   unfold eL
   rw [eJ,Bool.false_or,Bool.eq_false_iff];intro s;rw [Bool.and_eq_true] at s;have y:=s.1;have H:=of_decide_eq_true s.2;have g:=q
   simp at g
   exact g.elim (fun h=>by rw [h] at y;cases y) fun h=>h H
  have j:im x k=⟨#[]⟩:=by unfold im;rw [if_neg (by rw [eJ];simp),if_neg (by rw [d];simp)]
  refine(yE) ?_;exact⟨by rw [d,j],p.k0⟩
 have eJ:ay k=false:=by simpa using g9
 have d:eL x k=true:=by unfold eL;rw [eJ,Bool.false_or];simpa using q
 have j:im x k=(aC x.ah k).value:=by unfold im;rw [if_neg (by rw [eJ];simp),if_pos d]
 refine(aZ) fh p.b0<|(yE) ?_;exact⟨by rw [d,j],p.k0⟩
set_option maxHeartbeats 400000
theorem vR{pb:Nat}(hk:eG aa k) (b:bQ w pb 27 [.slice ar r cr]) (hu:fK A w ar r cr aa):CR prog 65 #[k.val,.pointer (some ⟨pb,0,none⟩)] w (.bool false):=by
 refine enter func65 rfl ntmps65 rfl<|?_;have aO:=St.s0 w;refine(dq) aO fun b2 w1 d e st1=>?_;refine db ?_;refine WP .r (PV.mf jy (bQ.range (b.ext (St.cg st1))) rfl rfl)<|(aY) ao st1.b0<|(eS) (wW hk (hu.ext (St.cg st1))) st1 fun w2 s2 st2=>?_;refine(bs) ?_;exact⟨rfl,(St.cg st2)⟩
theorem vS{l:List Key}(hu:fK A w ar r cr aa) (g:Rd RR.aD 4 Z w a1 n1 e1 x.ab) (hr:Rd RR.dV 8 Z w a2 n2 e2 x.ah) (h:aq aa) (j:uF aa x) (e:Rd RR.key 2 Z w ag ng eg l) (hk:∀k∈l,eG aa k) (o:l.length≤32):CR prog 30 #[.slice ar r cr,.agg (x.row a1 n1 e1 a2 n2 e2).toArray,.slice ag ng eg] w (.int .i64 0):=by
 have q:=e.len;refine enter func30 rfl ntmps30 rfl<|?_;have aO:=St.s0 w;refine(dq) aO fun b3 w1 s t st1=>?_;refine(dq) st1 fun b4 w2 y z st2=>?_;refine ed ?_;refine WP .r (PV.mf jy st2.b1 rfl rfl)<|(eS) (vF (hu.ext (St.cg st2)) h) st2 fun w3 B b=>?_;refine cj ?_;refine WC.eA rfl<|(aY) aL b.b0<|(eS) (r8 (g.ext (St.cg b)) (hr.ext (St.cg b)) j) b fun w4 C d=>?_;refine cj ?_;refine WC.eA rfl<|(aR) (fun g15=>?_) fun g15=>?_
 ·
  exact absurd (of_decide_eq_true g15) (by omega)
 skip
 refine bY ?_;refine WP .r (PV.func (us:=[]) (vs:=[.pointer (some ⟨b3,0,none⟩)]) rfl rfl)<|?_;refine WL.c1 (u:=.bool false) (qO (p:=fun _=>false) adC (e.ext (St.cg d)) (fun w1 h1 k hm=>vR (hk k hm) (((As.gb d.g1)).ext h1) ((hu.ext (St.cg d)).ext h1))) (by rw [List.any_eq_false.2 (fun _ _=>by simp)]) d fun w5 E m=>?_;refine bY ?_;refine WC.eA rfl<|(bs) ?_;exact⟨rfl,(St.cg m)⟩
set_option maxHeartbeats 400000
theorem Ag{l:List Key}(b:St w M Z w [As.os RR.key 41 2 a n c l]) (hn:l.length≤1000000):Calls prog 79 #[.slice a n c,.func (.func 77) #[] #[]] w fun e w'=>e=.returned (.tuple #[])∧∃l',l'.Perm l∧(l'.Pairwise fun x y=>¬bA y x<0)∧St w M Z w' [As.os RR.key 41 2 a n c l']:=by
 by_cases h:l=[]
 ·
  have hl:=(As.gs b.g0).len;subst h;have hl:n=0:=hl;subst hl;refine Ac.mono<|?_;rintro e w' ⟨rfl,hc⟩;exact⟨rfl,[],.nil,.nil,b.step hc⟩
 exact ti b h hn
theorem vT{l:List Key}(q:St w M Z w []) (hl:Rd RR.key 2 Z w a n c l) (g:l.Nodup) (hn:l.length≤1000000):Calls prog 37 #[.slice a n c] w fun e w'=>∃h j m,∃l':List Key,e=.returned (.slice h j m)∧yS l'∧l'.Perm l∧St w M Z w' [As.os RR.key 41 2 h j m l']:=by
 refine enter func37 rfl ntmps37 rfl<|?_;have aO:=q;have st1:=aO.fr hl;refine gL ?_;have st2:=st1;refine(bX) Ki (jo st2.e0 (As.gr st2.g0) hn) ?_;rintro _ w1 ⟨b1,b2,c1,rfl,s⟩;have t:=St.lr st2 s;refine fO ?_;have o:=t;refine(bX) Wu (Ag o.e1 hn) ?_;rintro _ w2 ⟨rfl,d,b,u,y⟩;have p:=St.lr o y;have E:d.length=l.length:=b.length_eq;have z:d.Nodup:=b.nodup_iff.2 g;have B:=yT b g u;refine(eS) (mz (Ow.rd (As.gs p.g0) (by omega)) z) p fun w3 F C=>?_;refine(bs) ?_;exact⟨b1,_,c1,d,rfl,B,b,C.p1.drop⟩
theorem vU{l:List Key}(j:St w M Z w []) (hl:Rd RR.key 2 (fun x=>Z x∨x∈aI a) w a n c l) (o:∀x∈aI a,x<w.heap.size) (p:l.Nodup) (hn:l.length≤1000000):Calls prog 37 #[.slice a n c] w fun e w'=>∃b d g,∃l':List Key,e=.returned (.slice b d g)∧yS l'∧l'.Perm l∧St w M Z w' [As.os RR.key 41 2 b d g l']:=by
 have q:St w M (fun x=>Z x∨x∈aI a) w []:=⟨j.bV,fun x s=>s.elim (j.jG x) (o x),by simp,by simp,.nil,by simp⟩;refine(vT q hl p hn).mono<|?_;rintro e w' ⟨b,d,g,l',rfl,t,u,m⟩;exact⟨b,d,g,l',rfl,t,u,m.unz (fun _ h=>.inl h) (Ow.z (As.gs m.g0))⟩
theorem C6{L:List (bm × eC)}{f:bm}{A:eC}(G:St w M Z w [As.map Key.val S.m ml,As.map Key.val S.q [],As.blk wb 86 (D.wc S.s rev ra rn rc),As.map Key.val D.m eK,As.gq 47 lf l,As.os RR.key 41 2 ra rn rc bf,As.os RR.ig 126 6 al nl el (L++[(f,A)]),As.many (xW 41 9 (L++[(f,A)]))]) (X:(S.FV prog aa x0).p Z w) (Y:Rd RR.aD 4 Z w D.a1 D.n1 D.c1 x0.ab) (Gf:Rd RR.eT 4 Z w D.ar D.r D.cr aa) (hm:aU aa x0.ab ml) (H:dy l lf eK) (I:aq aa) (J:∀k,(valOf aa x0.ab k).size≤1000) (K:KR aa l) (N:L.length≤1000) (Y3:bf.length≤100000) (hn4:eK.length<4000) (O:fx aa f) (hi:i<aa.length) (hki:f.key=aM aa (i:Int)) (hsz:∀s∈f.ae,s.size≤1000) (h6:l.length≤4000) (UK:∀r∈l,r.reads.length≤4000) (hvr:∀r∈l,r.av≤rev):Calls prog 35 #[.pointer (some ⟨wb,0,none⟩),.slice al nl el,.func (.func 34) #[] #[]] w fun e w'=>∃(l':List Rec) (P:Key→RL) (Q j:List (Key × Value)) (L':List (bm × eC)) (rk:List Key) (d:Bool) (g:Int) (a R:Option Addr) (n c T U:Nat) (Z':Nat→Prop),e=.returned (.tuple #[.slice a n c,.bool d,.int .i64 g])∧FS aa (valOf aa x0.ab) ⟨rev,x0.ab,l⟩ (L.map Prod.fst) f ⟨rev,x0.ab,l'⟩ (L'.map Prod.fst) rk g∧(g=0→L'.map Prod.fst≠L.map Prod.fst++[f])∧dy l' P Q∧aU aa x0.ab j∧fW ml j∧bH w.heap.size Z Z'∧St w M Z' w' [As.map Key.val S.m j,As.map Key.val S.q [],As.blk wb 86 (D.wc S.s rev R T U),As.map Key.val D.m Q,As.gq 47 P l',As.os RR.key 41 2 R T U (bf++rk),As.os RR.ig 126 6 a n c L',As.many (xW 41 9 L')]:=by
 have Il:=(As.gs G.g6).len;rw [List.length_append,List.length_singleton] at Il;refine enter func35 rfl ntmps35 rfl<|?_;have aO:=G;have st1:=aO.fr Y;have st2:=st1.fr Gf;have h:=st2.fact (B:=As.fz (S.FV prog aa x0)) X (fun _ hx=>hx);refine kI ?_;obtain⟨gH,V⟩:=Ow.addr (As.gs h.g9) (bF L (f,A));refine cj ?_;refine WP .r ((PV.sub rfl rfl (by omega) (by omega)).cast (v':=.int .i64 (L.length:Int)) (congrArg (Value.int .i64) (by omega)))<|WP .r (PV.dI mE (i:=L.length) V rfl rfl (by omega))<|(aZ) dG (Ow.jD (As.gs h.g9) (by rw [List.length_append,List.length_singleton];omega) V (bF L (f,A)))<|(aR) (fun g15=>?_) fun g15=>?_
 ·
  have o:f.running=true:=g15;refine db ?_;have b:=h.kx.kx.kx.kx.kx.kx.kx.kx;refine(bX) adH (FK b.e8 (As.gf b.g8) (As.gr b.g10) (As.gr b.g9) hm H I J K N Y3 hn4 O hi hki hsz o) ?_;rintro _ w1 ⟨l1,lf1,agi,t,L1,rk,d,g,a1,Jt,n1,c1,rn1,rc1,Z1,rfl,TG,Dr,u,y,z,W,C⟩;have E:=St.lv b C W;have mN:=W.le b.size;refine ju ?_;refine EX.ew rfl (RS.tmp rfl<|RS.tmp rfl<|RS.tmp rfl<|RS.nil) rfl<|?_;exact⟨l1,lf1,agi,t,L1,rk,d,g,a1,Jt,n1,c1,rn1,rc1,_,rfl,TG,Dr,u,y,z,mN,E.p8.drop.p8.drop.p8.drop⟩
 have o:f.running=false:=by simpa using g15
 refine ed ?_;have b:=h.p9.p8.p8.p8.p8.p8;refine(bX) adI (Aa b.e6 (As.gf b.g6) (As.gr b.g8) hm H I J K N o h6 UK hvr O.at0) ?_;rintro _ w1 ⟨l1,L1,d,g,a1,n1,c1,t,rfl,F,u,y,z,C⟩;have E:=St.lr b C;refine kI ?_;have iC:=E.kx;have gW:=St.acB iC F.2.2;have iH:=gW.kx.rp (B:=As.os RR.key 41 2 ra rn rc (bf++[])) (by rw [List.append_nil]);refine EX.ew rfl (RS.tmp rfl<|RS.tmp rfl<|RS.tmp rfl<|RS.nil) rfl<|?_;exact⟨l1,lf,eK,t,L1,[],d,g,a1,ra,n1,c1,rn,rc,_,rfl,F.1,F.2.1,u,y,z,bH.refl _ _,iH.p8.drop.p8.drop.p8.drop.p7.p1.p7.p7.p7.p7.p7⟩
set_option maxHeartbeats 4000000 in
theorem hP{goals:List Key}(gk:St w M Z w []) (ht:lq prog Z w) (hu:Rd RR.eT 4 Z w ar r cr aa) (Ob:Rd RR.aD 4 Z w a1 n1 e1 x.ab) (hr:Rd RR.dV 8 Z w a2 n2 e2 x.ah) (hg:Rd RR.key 2 Z w ag ng eg goals) (u:aq aa) (d:LC aa x) (hk:∀k∈goals,eG aa k) (h32:goals.length≤32):Calls prog 11 #[.slice ar r cr,.agg (x.row a1 n1 e1 a2 n2 e2).toArray,.slice ag ng eg] w fun e w'=>∃(b':cy) (bf rs:List Key) (YV YY a3':Option Addr) (YW YX YZ Y0 n3' e3':Nat) (Z':Nat→Prop),e=.returned (.tuple #[.agg (b'.row YV YW YX YY YZ Y0).toArray,.slice a3' n3' e3',.int .i64 0])∧hK aa (valOf aa x.ab) goals x b' [] bf∧b'.ab=x.ab∧(∀k∈goals,ay k=true∨aA b' k=true)∧yS rs∧rs.Perm bf∧bH w.heap.size Z Z'∧St w M Z' w' [As.os RR.aD 88 4 YV YW YX b'.ab,As.os RR.dV 47 8 YY YZ Y0 b'.ah,As.os RR.key 41 2 a3' n3' e3' rs]:=by
 have Zd:=d.lb.Gg;have hS:=d.lb.small u;have N9:=hg.len;refine enter func11 rfl ntmps11 rfl<|?_;have aO:=gk;have st1:=aO.fr hu;have st2:=st1.fr Ob;have iT:=st2.fr hr;have ik:=iT.fr hg;have iY:=ik.fact (B:=As.fz (FZ.Ij prog)) ht (fun _ d=>d);refine(dq) iY fun b4 w1 EY Iy iC=>?_;refine(eN) iC fun b6 w2 Dx Is W=>?_;refine(aY) aL W.b1<|(eS) (vS (As.gr W.g6) (As.gr W.g5) (As.gr W.g4) u Zd (As.gr W.g3) hk h32) W fun w3 s3 iH=>?_;refine(aR) (fun g22=>?_) fun g22=>?_
 ·
  exact dm g22
 refine(aY) aL iH.b1<|?_;have R:=iH;refine(bX) adf (Ah (x:=x) R.e0 (As.gf R.g2) (As.gr R.g6) (As.gr R.g5) (As.gr R.g4) Zd.2.2.2.2.2.2.2.1 (Nat.le_trans Zd.2.2.2.2.1 (by decide)) Zd.2.2.2.2.2.2.1) ?_;rintro _ w4 ⟨D,S,wb,lf0,agj,Z1,rfl,hmt,nK,Ze,hdi,agk,oi⟩;have eD:=St.lv R oi nK;have wg:=nK.le R.size;have dh:=eD.fact (B:=As.fz (S.FV prog aa x)) Ze (fun _ d=>d);have cW:=dh.fr (hdi);have di:=cW.fr (agk);refine ju ?_;have da:=di.dp RR.key 41 2;refine bK ?_;refine WC.hh (σ:=Nat × (List Rec) × (Key→RL) × (List (Key × Value)) × (List (Key × Value)) × (List Key) × (Option Addr) × Nat × Nat × (Nat→Prop)) (dj:=fun(i,l1,z,C,E,h,Jt,G,H,T)=>[(4,.pointer (some ⟨b4,0,none⟩)),(6,.pointer (some ⟨b6,0,none⟩)),(10,.pointer (some ⟨wb,0,none⟩)),(29,.slice ag ng eg),(30,.int .i64 (ng:Int)),(31,.int .i64 (i:Int))]) (F:=fun(i,l1,z,C,E,h,Jt,G,H,T)=>[As.map Key.val S.m E,As.blk wb 86 (D.wc S.s x.ad Jt G H),As.map Key.val D.m C,As.gq 47 z l1,As.os RR.key 41 2 Jt G H h]) (I:=fun(i,l1,z,C,E,h,Jt,G,H,T)=>(i≤ng)∧(hK aa (valOf aa x.ab) goals x ⟨x.ad,x.ab,l1⟩ [] h)∧(dy l1 z C)∧(aU aa x.ab E)∧(∀y∈goals.take i,(ay y=true∨aA ⟨x.ad,x.ab,l1⟩ y=true))∧(bH w.heap.size Z T)∧True) (μ:=fun(i,l1,z,C,E,h,Jt,G,H,T)=>ng - i) (Zf:=fun(i,l1,z,C,E,h,Jt,G,H,T)=>T) (0,x.ah,lf0,agj,[],[],none,0,0,_) (da.p8.p8.p8.p7) Sub.t (⟨Nat.zero_le _,.start,hmt,aU.nil,by simp,wg,trivial⟩)<|?_;rintro⟨i,l1,z,C,E,h,Jt,G,H,T⟩ w5 eb ⟨hi,KX,Of,HR,nG,mN,_⟩;simp only [CA,NA] at eb hi KX Of HR nG mN ⊢;refine(aR) (fun SS=>?_) fun SS=>?_
 ·
  simp at SS
  have rY:i<goals.length:=by omega
  have hnk:cX goals[i]:=(hk _ (List.getElem_mem rY)).cX;obtain⟨_,agl,_⟩:=KX.ready u d hk;refine db ?_;obtain⟨gH,kz,jY,cR,gG,eZ,et,eI⟩:=Rd.at (As.gr eb.g12) rY;have eZ:=RR.a8 eZ;subst eZ;have fX:=eb.fg eI et;refine nx ?_;refine WP .r (PV.dI ek cR rfl rfl (by omega))<|(aY) ao (As.kH fX.g0)<|(eN) fX fun b12 w6 Y1 Y2 X=>?_;refine(cF) gQ X fun w7 jO jZ dZ=>?_;refine(aY) ao dZ.b0<|?_;have J:=dZ;refine(bX) adg (CO (aD:=x.ab) (k:=goals[i]) J.e0 (As.gb J.g3) (As.gm J.g4) Of (As.sH J.g5) agl hnk) ?_;rintro _ w8 ⟨o1,o2,o3,rfl,kA⟩;have Y:=St.lr J kA;refine bK ?_;have e7:=St.Q7 (EK:=41) (ES:=9) (k:=goals[i]) (c:=cE ⟨x.ad,x.ab,l1⟩ [] goals[i]) Y;refine bK ?_;refine WC.hh (σ:=(List Rec) × (Key→RL) × (List (Key × Value)) × (List (Key × Value)) × (List Key) × (Option Addr) × Nat × Nat × (Nat→Prop) × (List (bm × eC)) × (Option Addr) × Nat × Nat) (dj:=fun(b,K,N,eO,o,O,P,Q,U,L,al,nl,el)=>[(4,.pointer (some ⟨b4,0,none⟩)),(6,.pointer (some ⟨b6,0,none⟩)),(10,.pointer (some ⟨wb,0,none⟩)),(13,.slice al nl el),(29,.slice ag ng eg),(30,.int .i64 (ng:Int)),(31,.int .i64 (i:Int))]) (F:=fun(b,K,N,eO,o,O,P,Q,U,L,al,nl,el)=>[As.map Key.val S.m eO,As.blk wb 86 (D.wc S.s x.ad O P Q),As.map Key.val D.m N,As.gq 47 K b,As.os RR.key 41 2 O P Q o,As.os RR.ig 126 6 al nl el L,As.many (xW 41 9 L)]) (I:=fun(b,K,N,eO,o,O,P,Q,U,L,al,nl,el)=>(hK aa (valOf aa x.ab) goals x ⟨x.ad,x.ab,b⟩ (L.map Prod.fst) o)∧(dy b K N)∧(aU aa x.ab eO)∧(∀y∈goals.take i,(ay y=true∨aA ⟨x.ad,x.ab,b⟩ y=true))∧(ay goals[i]=true∨aA ⟨x.ad,x.ab,b⟩ goals[i]=true∨∃g q,L.map Prod.fst=g::q∧g.key=goals[i])∧(bH w.heap.size Z U)∧True) (μ:=fun(b,K,N,eO,o,O,P,Q,U,L,al,nl,el)=>Ux aa ⟨x.ad,x.ab,b⟩ (L.map Prod.fst)) (Zf:=fun(b,K,N,eO,o,O,P,Q,U,L,al,nl,el)=>U) (l1,z,C,E,h,Jt,G,H,_,(if cE ⟨x.ad,x.ab,l1⟩ [] goals[i]=true then [((⟨goals[i],false,0,[],[]⟩:bm),(⟨none,0,0,none,0,0⟩:eC))] else []),o1,o2,o3) (e7.p1.p8.p8.p8.p8.p8) Sub.t (⟨hK.taken KX (List.getElem_mem rY),Of,HR,nG,Hw,mN,trivial⟩)<|?_;rintro⟨b,K,N,eO,o,O,P,Q,U,L,al,nl,el⟩ w9 p ⟨V,py,AG,qg,hbo,qH,_⟩;simp only [CA,NA] at p V py AG qg hbo qH ⊢;refine(aR) (fun Lr=>?_) fun Lr=>?_
  ·
   simp at Lr
   have hLn:=((As.gs p.g5)).len;obtain⟨Lp,f,A,rfl⟩:=MC (L:=L) (by omega);simp only [List.map_append,List.map_cons,List.map_nil] at V hbo;obtain⟨TH,agm,hp6,PQ,UO,agn,ago,wm,aok,agp⟩:=V.ready u d hk;obtain⟨C7,⟨j,hj,Uo⟩,hsz⟩:=agp f (by simp);have hmn:=py.len ((As.gm p.g2)).nodup
   have hp7:Lp.length≤1000:=by simp at hp6;omega
   have UO:b.length<4000:=UO;refine ed ?_;have fb:=p.p6.p6.p6.p6.p6.p6.ov.p7;refine(bX) adi (C6 (x0:=x) fb.e8 (As.gf fb.g12) (As.gr fb.g11) (As.gr fb.g10) AG py u hS agm hp7 PQ (by omega) C7 hj Uo hsz (by omega) agn ago) ?_;rintro _ iN ⟨l3,lf3,agq,iR,L3,rk,d3,er,o4,ra3,o5,o6,rn3,rc3,Z5,rfl,TG,Dr,KY,HV,tB,vD,qG⟩;have fc:=St.lv fb qG vD;have yj:=qH.trans vD fb.size;obtain rfl:er=0:=V.VT u d hk TG
   replace Dr:=Dr rfl
   have agr:=hbo.imp id (FS.bot TG);refine aX ?_;refine(aR) (fun g49=>?_) fun g49=>?_
   ·
    exact dm g49
   refine ed ?_;refine EX.again (l3,lf3,agq,iR,o++rk,ra3,rn3,rc3,_,L3,o4,o5,o6) Sub.t ⟨fc.ov.ov.ov.ov.ov.ov.ov.ov.ov.ov.ov.ky,⟨V.step TG Dr,KY,HV,fun y hy=>(qg y hy).imp id TG.ups,agr,yj,trivial⟩⟩ (by simp only [List.map_append,List.map_cons,List.map_nil];exact V.less u d hk TG Dr)
  simp at Lr
  have hLn:=((As.gs p.g5)).len;obtain rfl:L=[]:=List.eq_nil_of_length_eq_zero (by omega);have TJ:=MD rY qg hbo;refine ju ?_;refine ef (i+1,b,K,N,eO,o,O,P,Q,_) ⟨p.p5.drop.p5.drop.p5.drop.p5.drop,⟨by omega,V,py,AG,TJ,qH,trivial⟩⟩
 simp at SS
 have hY:goals.take i=goals:=List.take_of_length_le (by omega);rw [hY] at nG;obtain⟨hbk,_,_,PQ,UO,_,_,yB,ags,_⟩:=KX.ready u d hk;have UO:l1.length<4000:=UO;refine fO ?_;refine WC.bN (m:=6) [] [1] [0,1,2,3,4,5] [] eb (ai.cons M1<|ai.nil) mixed (by kernel_rfl) (by kernel_rfl) rfl<|(fV) (fun w6 R1x YR fX PI=>?_);simp only [CA,NA] at fX;have X:=fX.p3.p3.p3;refine OX.call adj rfl rfl ((Af X.e3 (As.gr X.g6) Of ags (by omega) (Nat.le_trans Zd.2.2.2.2.1 (by decide))).mono ?_);rintro _ w7 ⟨s1,s2,s3,s4,s5,s6,Z6,rfl,vN,jB⟩;have dZ:=St.lv X jB vN;have zW:=mN.trans vN X.size;refine⟨_,rfl,jB.bV.size,_,rfl,_,_,_,dZ,aw.k4<|aw.k4<|aw.k4<|aw.k4<|aw.nil,ai.cons M0<|ai.nil,?_⟩
 iterate 3 refine DG.a ?_
 refine(oc) dC SV.g0<|(jv)<|?_;intro w8 Pv J;simp only [CM,NM,CA,NA,hI.it] at J;have Y:=J;refine(bX) Wp (vU Y.e0 (Ow.rd (As.gs Y.g4) (by omega)) (OR.lt (As.gs Y.g4)) yB (by omega)) ?_;rintro _ w9 ⟨q1,q2,q3,rs,rfl,hsk,NQ,nI⟩;have e7:=St.lr Y nI;refine(cF) dR e7.kx fun iN qV mi p=>?_;refine bK ?_;refine WL.nil (EX.np ?_);refine bK ?_;refine EX.ew rfl (RS.cell aL rfl p.b0 rfl<|RS.tmp rfl<|RS.tmp rfl<|RS.nil) rfl<|?_;exact⟨⟨x.ad,x.ab,l1⟩,h,rs,s1,s2,q1,s3,s4,s5,s6,q2,q3,_,rfl,KX,rfl,nG,hsk,NQ,zW,p.p1.p4.p4.k3⟩
end Go.Rc

