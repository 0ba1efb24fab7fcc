/- Walks over the program, part WYk. Conditions: as each theorem says. -/
import Derived.Test.YtmpkegmkoclbhaaGreatDoorDFacts
import Derived.Test.YtmpkegmkoclbhaaGreatDoorDWYg
import Derived.Test.YtmpkegmkoclbhaaGreatDoorDWLibE
import Derived.Test.YtmpkegmkoclbhaaGreatDoorDWUa
import Derived.Test.YtmpkegmkoclbhaaGreatDoorDWZr
import Derived.Test.YtmpkegmkoclbhaaGreatDoorDBi
set_option linter.all false
namespace Go.Rc
open Go Go.Proofs Go.Proofs.Tryz
variable {v wb rn rc i r c e2 nl el n n1 e1 n2 cr ng eg:Nat}{rev:Int}{aD:List ct}{l:List Rec}{D:WD}{ra a a2 al a1 ar ag:Option Addr}{lf:Key→RL}{eI ml:List (Key × Value)}{a8:List Key}{f:Value}{w:World}{M Z A:Nat→Prop}{aa:List aH}{k:Key}{x0 x:bZ}{S:SD}
set_option maxHeartbeats 400000
theorem F1{f:bp}{A:eD}{value:ByteArray}(d:St w M Z w [As.blk wb 74 (D.wc v rev ra rn rc),As.map Key.val D.m eI,As.gA 88 lf l,As.os RR.key 40 2 ra rn rc a8,As.os RR.key 40 2 A.a A.n A.c f.reads]) (g:dw l lf eI) (h:f.reads.length≤4000) (hr:a8.length≤100000) (o:eI.length<4000):Calls prog 108 #[.pointer (some ⟨wb,0,none⟩),.agg (bp.ot (f,A)).toArray,.string value] w fun e w'=>∃(q:RL) (a:Option Addr) (n c:Nat) (Z':Nat→Prop),e=.returned (.int .i64 0)∧bK w.heap.size Z Z'∧St w M Z' w' [As.blk wb 74 (D.wc v rev a n c),As.map Key.val D.m (cM eI f.key (.pointer (some ⟨q.b,0,none⟩))),As.gA 88 (wH lf f.key q) (dK l (bs ⟨rev,aD,l⟩ f.key value f.reads)),As.os RR.key 40 2 a n c (a8++[f.key]),As.os RR.key 40 2 A.a A.n A.c f.reads]:=by
 cases j:aA l f.key with
 | none=>exact C7 d g h hr j o
 | some r=>exact C8 d g h hr j
theorem xc{ae:List ByteArray}{B C:Nat→Prop}{r2:Nat}(d:k=aM aa (i:Int)) (ht:lD prog A w) (b:aq aa) (hi:i<aa.length) (hr:fP B w a r c aa) (hl:Strs C w a2 r2 e2 ae) (hsz:∀s∈ae,s.size≤1000):CR prog 107 #[.slice a r c,k.val,.slice a2 r2 e2] w ((aG aa k ae).val):=by
 have e:=b.len;subst d;rw [dX hi (by omega)];exact ll ht b hi hr hl hsz
set_option maxHeartbeats 4000000 in
theorem F2{L:List (bp × eD)}{f:bp}{A:eD}(gF:St w M Z w [As.map Key.val S.m ml,As.map Key.val S.q [],As.blk wb 74 (D.wc S.s rev ra rn rc),As.map Key.val D.m eI,As.gA 88 lf l,As.os RR.key 40 2 ra rn rc a8,As.os RR.im 115 6 al nl el (L++[(f,A)]),As.many (xZ 40 9 (L++[(f,A)]))]) (hf:(S.FV prog aa x0).p Z w) (Oh:Rd RR.aD 4 Z w D.a1 D.n1 D.c1 x0.ab) (Gx:Rd RR.fb 4 Z w D.ar D.r D.cr aa) (hm:aU aa x0.ab ml) (G:dw l lf eI) (R:aq aa) (hS:∀k,(valOf aa x0.ab k).size≤1000) (KO:KR aa l) (hL6:L.length≤1000) (Zc:a8.length≤100000) (hn4:eI.length<4000) (X:fw aa f) (hi:i<aa.length) (hki:f.key=aM aa (i:Int)) (hsz:∀s∈f.ae,s.size≤1000) (T:f.running=true):Calls prog 61 #[.pointer (some ⟨wb,0,none⟩),.slice al nl el,.func (.func 28) #[] #[]] w fun e w'=>∃(l':List Rec) (lf':Key→RL) (Zj Y:List (Key × Value)) (L':List (bp × eD)) (rk:List Key) (d:Bool) (er:Int) (a ra':Option Addr) (n c rn' rc':Nat) (Z':Nat→Prop),e=.returned (.tuple #[.slice a n c,.bool d,.int .i64 er])∧FS aa (valOf aa x0.ab) ⟨rev,x0.ab,l⟩ (L.map Prod.fst) f ⟨rev,x0.ab,l'⟩ (L'.map Prod.fst) rk er∧(er=0→L'.map Prod.fst≠L.map Prod.fst++[f])∧dw l' lf' Zj∧aU aa x0.ab Y∧gi ml Y∧bK w.heap.size Z Z'∧St w M Z' w' [As.map Key.val S.m Y,As.map Key.val S.q [],As.blk wb 74 (D.wc S.s rev ra' rn' rc'),As.map Key.val D.m Zj,As.gA 88 lf' l',As.os RR.key 40 2 ra' rn' rc' (a8++rk),As.os RR.im 115 6 a n c L',As.many (xZ 40 9 L')]:=by
 have IC:=(As.gs gF.g6).len;rw [List.length_append,List.length_singleton] at IC
 have Zd:((L++[(f,A)]).map Prod.fst)=L.map Prod.fst++[f]:=by simp
 have X7:=X.len;have yg:=X.gM.le R;refine enter func61 rfl ntmps61 rfl<|?_;have aQ:=gF;have st1:=aQ.fr Oh;have st2:=st1.fr Gx;have iW:=st2.fact (B:=As.fz (S.FV prog aa x0)) hf (fun _ hx=>hx);have hU:=iW.kC;have U:=St.OV hU;have PD:=((As.gs U.g0)).len;have hyn:=((As.gs U.g1)).len;refine gV ?_;obtain⟨gT,y⟩:=Ow.addr (As.gs U.g12) (bH L (f,A));refine cy ?_;refine WP .r ((PV.sub rfl rfl (by omega) (by omega)).cast (v':=.int .i64 (L.length:Int)) (congrArg (Value.int .i64) (by omega)))<|WP .r (PV.dU mN (i:=L.length) y rfl rfl (by omega))<|cy ?_;refine WC.bL (m:=14) [] [12] [0,1,2,3,4,5,6,7,8,9,10,11,12,13] [(13,.blk 152 [.bool false,.string ⟨#[]⟩,.int .i64 0,.string ⟨#[]⟩])] U (ai.k4 M0 M1 M2 M3<|ai.k4 M4 M5 M6 M7<|ai.k4 M8 M9 hJ ir<|ai.cons j5<|ai.nil) mixed (by kernel_rfl) (by kernel_rfl) rfl<|?_
 iterate 3 refine DG.a ?_
 refine(oq) jD SV.g8<|?_
 iterate 3 refine DG.a ?_
 refine DQ .r (fun I J K _ j H=>PV.wi ao (Ow.jH (As.gs (j.sv H).g12) (by rw [List.length_append,List.length_singleton];omega) y (bH L (f,A))) rfl rfl)<|?_
 iterate 3 refine DG.a ?_
 refine DQ .r (fun I J K _ j H=>V1 rO (Ow.jH (As.gs (j.sv H).g12) (by rw [List.length_append,List.length_singleton];omega) y (bH L (f,A))) .r)<|(gh) (fun w1 agm Zk Q T0=>?_);simp only [CA,NA] at Q;refine OX.call Pa rfl rfl ((xc hki ((As.gf Q.g3)).1.2.2.2 R hi (As.gr Q.g4) (Ow.rd (As.gs Q.g1) (by omega)) hsz).mono ?_);rintro _ w2 ⟨rfl,s2⟩;have hh:=Q.step s2;refine⟨_,rfl,s2.size,_,rfl,_,_,_,hh,ax.k4<|ax.k4<|ax.k4<|ax.cons<|ax.nil,ai.k4 M0 M1 M2 M3<|ai.k4 M4 M5 M6 M7<|ai.k4 M8 M9 hJ ir<|ai.cons j5<|ai.nil,?_⟩;refine DG.side (s:=.blk 152 [.bool false,.string ⟨#[]⟩,.int .i64 0,.string ⟨#[]⟩]) rfl rfl rfl rfl rfl rfl (fun I J K qI j=>OX.alloc oL rfl fun b wy z hb=>⟨z.ext.size,_,rfl,⟨b,rfl⟩,j.da z hb⟩)<|?_;rintro _ ⟨KW,rfl⟩;refine(jo) ?_;intro w3 oy iK;simp only [CM,NM,CA,NA,hV.it] at iK;refine(cJ) gE iK fun w4 jU j3 t=>?_;refine WL.nil (EX.np ?_);refine(a7) dH t.b0<|(aS) (fun g31=>?_) fun g31=>?_
 ·
  have N:(aG aa f.key f.ae).done=true:=g31;refine bO ?_;have YF:=t.bN;refine WC.dS (m:=6) t mixed<|cq ?_;refine DP .r (fun _ hC=>VA nH (Ow.jH (As.gs hC.2.g13) (by rw [List.length_append,List.length_singleton];omega) y (bH L (f,A))) .r)<|(iv) fy St.g0<|(cQ)<|?_;rintro w5 ⟨rY,O⟩ _;have o:=O.p1.o0.o0.o0.o0;refine(bY) W7 (F1 (aD:=x0.ab) (f:=f) (A:=A) (value:=(aG aa f.key f.ae).value) o.e5 G (by omega) Zc hn4) ?_;rintro _ w6 ⟨q,q1,q2,q3,Z1,rfl,nR,zI⟩;have C:=St.lv o zI nR;have mU:=nR.le o.size;refine(aS) (fun LL=>?_) fun LL=>?_
  ·
   exact dL LL
  refine ez ?_;refine WP .r ((PV.sub rfl rfl (by omega) (by omega)).cast (v':=.int .i64 (L.length:Int)) (congrArg (Value.int .i64) (by omega)))<|WP .r (PV.mZ mN (i:=L.length) (Ow.rd (As.gs C.g13) (by rw [List.length_append,List.length_singleton];omega)) rfl rfl (by omega))<|ez ?_;have E:=C.pM;have F:=St.Q7 E;refine EX.ey rfl (RS.tmp rfl<|RS.tmp rfl<|RS.tmp rfl<|RS.nil) rfl<|?_;exact⟨_,_,_,ml,L,[f.key],true,0,_,q1,_,_,_,_,_,rfl,FS.put T N,fun _ e=>by simpa using congrArg List.length e,(G.put (r:=bs ⟨rev,x0.ab,l⟩ f.key (aG aa f.key f.ae).value f.reads) (q:=q) (ck l _)),hm,gi.refl _,mU,F.p5.drop.p5.drop.p5.drop.p6.drop.p6.drop.p6.drop.p4.p4.p4.p4.p7.p7⟩
 have N:(aG aa f.key f.ae).done=false:=g31;obtain⟨G2,K4⟩:=X.gM.next R N;refine(hW) ao t.b0<|nx ?_;refine WL.c1 (u:=.int .i64 (bJ ⟨rev,x0.ab,l⟩ (L.map Prod.fst++[f]) [] (aG aa f.key f.ae).ask)) (nS (aD:=x0.ab) (As.gb t.g9) (As.gm t.g10) G (As.sG t.g11) KO (Ow.rd (As.gs t.g13) (by rw [List.length_append,List.length_singleton];omega)) K4.cY) (by rw [Zd]) t fun w5 s5 O=>?_;refine(aS) (fun Zl=>?_) fun Zl=>?_
 ·
  have uM:bJ ⟨rev,x0.ab,l⟩ (L.map Prod.fst++[f]) [] (aG aa f.key f.ae).ask=3:=by simpa using Zl
  refine kg ?_;have o:=O.p3.p3.p3;have C:=St.MN o;have E:=C.kC.rj (B:=As.os RR.key 40 2 ra rn rc (a8++[])) (by rw [List.append_nil]);refine EX.ey rfl (RS.tmp rfl<|RS.tmp rfl<|RS.tmp rfl<|RS.nil) rfl<|?_;exact⟨l,lf,eI,ml,(L++[(f,A)]),[],false,43,_,_,_,_,_,_,_,rfl,by simpa using FS.QJ (aa:=aa) T N uM,fun h=>absurd h (by decide),G,hm,gi.refl _,bK.refl _ _,E.p2.drop.p2.drop.p2.drop.p2.drop.p7.p1.p7.p7.p7.p7.p7⟩
 have uM:bJ ⟨rev,x0.ab,l⟩ (L.map Prod.fst++[f]) [] (aG aa f.key f.ae).ask≠3:=by simpa using Zl
 refine(aS) (fun U3=>?_) fun U3=>?_
 ·
  exact absurd (by simpa using U3) (x2 (x:=⟨rev,x0.ab,l⟩) (l:=(L.map Prod.fst++[f])) (k:=(aG aa f.key f.ae).ask))
 skip
 refine(aS) (fun g60=>?_) fun g60=>?_
 ·
  have V:bJ ⟨rev,x0.ab,l⟩ (L.map Prod.fst++[f]) [] (aG aa f.key f.ae).ask=1:=by simpa using g60
  refine(hW) ao O.b0<|?_;have o:=O.pM;refine(bY) Sf (nT (k:=(aG aa f.key f.ae).ask) o.e1 (by rw [List.length_append,List.length_singleton];omega)) ?_;rintro _ w6 ⟨p1,p2,p3,rfl,zI⟩;have C:=St.lr o zI;refine gV ?_;have E:=C.p4.p4.p4;have F:=St.MN E;have dI:=F;have P:=St.JZ (g:=⟨(aG aa f.key f.ae).ask,false,0,[],[]⟩) dI rfl rfl;have dT:=P.kD.rj (B:=As.os RR.key 40 2 ra rn rc (a8++[])) (by rw [List.append_nil]);refine EX.ey rfl (RS.tmp rfl<|RS.tmp rfl<|RS.tmp rfl<|RS.nil) rfl<|?_;exact⟨l,lf,eI,ml,_,[],true,0,_,_,_,_,_,_,_,rfl,by simpa using FS.push (aa:=aa) T N V,fun _ e=>by simp at e,G,hm,gi.refl _,bK.refl _ _,dT.p3.drop.p3.drop.p3.drop.p3.drop.p2.p1.p7.p7.p7.p7.p7⟩
 have V:bJ ⟨rev,x0.ab,l⟩ (L.map Prod.fst++[f]) [] (aG aa f.key f.ae).ask≠1:=by simpa using g60
 refine cy ?_;refine WC.bL (m:=20) [1] [9,17,19] [2,3,4,5,6,7,8,9,14,15,16,17,10,11,12,13,18,19,0,1] [(8,.sl 40 1 (aG aa f.key f.ae).ask.cells),(18,.sl 9 1 [.string (bS (valOf aa x0.ab) ⟨rev,x0.ab,l⟩ (aG aa f.key f.ae).ask)])] O (ai.k4 M0 M3 M4 M5<|ai.cons M6<|ai.cons j5<|ai.cons mH<|ai.nil) mixed (by kernel_rfl) (by kernel_rfl) rfl<|?_
 iterate 3 refine DG.a ?_
 refine DQ .r (fun I J K _ j H=>V1 dE (Ow.jH (As.gs (j.sv H).g6) (by rw [List.length_append,List.length_singleton];omega) y (bH L (f,A))) .r)<|(yF) ao SV.g0<|?_;refine DG.side (s:=.sl 40 1 (aG aa f.key f.ae).ask.cells) rfl rfl rfl rfl rfl rfl (fun I J K qI j=>OX.aR (us:=(aG aa f.key f.ae).ask.cells) dx rfl rfl rfl rfl fun b wy z hb=>⟨z.ext.size,_,rfl,⟨b,rfl⟩,j.da z hb⟩)<|?_;rintro _ ⟨b74,rfl⟩;refine(gh) (fun w6 U2 Is o qJ=>?_);simp only [CA,NA] at o;refine OX.jJ lN rfl rfl rfl (As.gs o.g1) (SR.dc (A:=fun _=>True) (x:=(aG aa f.key f.ae).ask) (show bU _ b74 _ _ from o.ok _ (.tail _ (.tail _ (.tail _ (.tail _ (.tail _ (.tail _ (.tail _ (.tail _ (.tail _ (.tail _ (.tail _ (.tail _ (.tail _ (.tail _ (qJ _ (.head _))))))))))))))))) trivial rfl (by simp [Key.cells,Value.oneCell']) rfl) (by show(A.n+1)*_≤_;omega) (by show A.n+1≤_;omega) (Nat.zero_le _) fun a75 W w7 agq Zm agr aoO=>?_;have C:=o.p1.eO Zm agq agr;refine⟨Zm.size,_,rfl,_,_,_,C,ax.k4<|ax.k4<|ax.k4<|ax.k2<|ax.nil,ai.k4 M1 M3 M4 M5<|ai.cons M6<|ai.cons j5<|ai.cons mH<|ai.nil,?_⟩
 iterate 2 refine DG.a ?_
 refine(yF) ao SV.g0<|(gh) (fun w8 aoP aks E ags=>?_);simp only [CA,NA] at E;have F:=E.kD.kD.kD.kD.kD;refine OX.call W8 rfl rfl ((FX (k:=(aG aa f.key f.ae).ask) (L:=(L.map Prod.fst++[f])) F.e5 (As.gf F.g9) (As.gr F.g11) hm G R hS K4 (pr V uM)).mono ?_);rintro _ w9 ⟨eQ,rfl,AK,vk,nP⟩;have dI:=St.lr F nP;refine⟨_,rfl,nP.bX.size,_,rfl,_,_,_,dI,ax.k4<|ax.k4<|ax.k4<|ax.k2<|ax.nil,ai.k4 M6 M8 M9 hJ<|ai.cons ir<|ai.cons j5<|ai.cons mH<|ai.nil,?_⟩
 iterate 3 refine DG.a ?_
 refine DQ .r (fun I J K _ j H=>V1 rO (Ow.jH (As.gs (j.sv H).g6) (by rw [List.length_append,List.length_singleton];omega) y (bH L (f,A))) .r)<|?_;refine DG.side (s:=.sl 9 1 [.string (bS (valOf aa x0.ab) ⟨rev,x0.ab,l⟩ (aG aa f.key f.ae).ask)]) rfl rfl rfl rfl rfl rfl (fun I J K qI j=>OX.aR (us:=[.string (bS (valOf aa x0.ab) ⟨rev,x0.ab,l⟩ (aG aa f.key f.ae).ask)]) js rfl rfl rfl rfl fun b wy z hb=>⟨z.ext.size,_,rfl,⟨b,rfl⟩,j.da z hb⟩)<|?_;rintro _ ⟨b84,rfl⟩;refine(gh) (fun iT aoR akt P T1=>?_);simp only [CA,NA] at P;refine OX.jJ Cc rfl rfl rfl (As.gs P.g7) (SR.dc (A:=fun _=>True) (x:=(bS (valOf aa x0.ab) ⟨rev,x0.ab,l⟩ (aG aa f.key f.ae).ask)) (show bU _ b84 _ _ from P.ok _ (.tail _ (.tail _ (.tail _ (.tail _ (.tail _ (.tail _ (.tail _ (.tail _ (.tail _ (.tail _ (.tail _ (.tail _ (.tail _ (.tail _ (T1 _ (.head _))))))))))))))))) trivial rfl (by simp [Value.oneCell']) rfl) (by show(A.n2+1)*_≤_;omega) (by show A.n2+1≤_;omega) (Nat.zero_le _) fun a85 T2 iY agt s85 agu aoS=>?_;have dT:=P.p7.eO s85 agt agu;refine⟨s85.size,_,rfl,_,_,_,dT,ax.k4<|ax.k4<|ax.k4<|ax.k2<|ax.nil,ai.k4 M7 M8 M9 hJ<|ai.cons ir<|ai.cons j5<|ai.cons mH<|ai.nil,?_⟩
 iterate 2 refine DG.a ?_
 refine(jo) ?_;intro lx PE ef;simp only [CM,NM,CA,NA,hV.it] at ef;refine bO ?_;refine WL.go rfl (OX.AH (f:=4) RW (As.gs ef.g15) y (by omega) rfl rfl rfl ((({f with reads:=f.reads++[(aG aa f.key f.ae).ask]}:bp),(⟨a75,A.n+1,W,A.a2,A.n2,A.c2⟩:eD)):bp × eD) (fun r h=>by rw [RR.bd h];rfl) fun nN s19 Oj=>?_);have dR:=ef.Vt.eO s19 Oj (fun x h=>.inl h);refine bO ?_;refine WL.go rfl (OX.AH (f:=5) Ks (As.gs dR.g0) y (by omega) rfl rfl rfl ((({f with reads:=f.reads++[(aG aa f.key f.ae).ask],ae:=f.ae++[(bS (valOf aa x0.ab) ⟨rev,x0.ab,l⟩ (aG aa f.key f.ae).ask)]}:bp),(⟨a75,A.n+1,W,a85,A.n2+1,T2⟩:eD)):bp × eD) (fun r h=>by rw [RR.bd h];rfl) fun qV s20 Ol=>?_);have dG:=dR.eO s20 Ol (fun x h=>.inl h);refine WL.nil (EX.np ?_);refine jM ?_;have eW:=dG.kD.p4.kC;have dO:=St.MN (f:=({f with reads:=f.reads++[(aG aa f.key f.ae).ask],ae:=f.ae++[(bS (valOf aa x0.ab) ⟨rev,x0.ab,l⟩ (aG aa f.key f.ae).ask)]}:bp)) (A:=(⟨a75,A.n+1,W,a85,A.n2+1,T2⟩:eD)) eW;have eR:=dO.pM.rj (B:=As.os RR.key 40 2 ra rn rc (a8++[])) (by rw [List.append_nil]);refine EX.ey rfl (RS.tmp rfl<|RS.tmp rfl<|RS.tmp rfl<|RS.nil) rfl<|?_;exact⟨l,lf,eI,eQ,L++[(({f with reads:=f.reads++[(aG aa f.key f.ae).ask],ae:=f.ae++[(bS (valOf aa x0.ab) ⟨rev,x0.ab,l⟩ (aG aa f.key f.ae).ask)]}:bp),(⟨a75,A.n+1,W,a85,A.n2+1,T2⟩:eD))],[],true,0,_,_,_,_,_,_,_,rfl,by simpa using FS.read (aa:=aa) T N V uM,fun _ e=>by have:=congrArg (fun l=>(l.map bp.reads).flatten.length) e;simp at this,G,AK,vk,bK.refl _ _,eR.p3.drop.p3.drop.p8.drop.p8.drop.p8.drop.p8.drop.p2.p1.p7.p7.p7.p7.p7⟩
set_option maxHeartbeats 400000
set_option maxRecDepth 100000 in
theorem Ac :CR prog 162 #[.int .u64 0] w (.int .i64 0):=by
 refine enter func162 rfl ntmps162 rfl<|?_;have aQ:=St.s0 w;refine(aS) (fun g4=>?_) fun g4=>?_
 ·
  exact dL g4
 refine(aS) (fun g8=>?_) fun g8=>?_
 ·
  exact dL g8
 refine(aS) (fun g14=>?_) fun g14=>?_
 ·
  exact dL g14
 refine fL ?_;refine WP .r ((show PV prog _ _ _ _ (.int .u8 0) from⟨rfl,rfl,fun _ _ _ _=>rfl⟩))<|WP .r ((show PV prog _ _ _ _ (.int .u8 0) from⟨rfl,rfl,fun _ _ _ _=>rfl⟩))<|WP .r ((show PV prog _ _ _ _ (.int .i64 0) from⟨rfl,rfl,fun _ _ _ _=>rfl⟩))<|(bz) ?_;exact⟨rfl,(St.cg aQ)⟩
theorem vT :CR prog 114 #[.int .u64 0] w (.int .i64 0):=by
 refine enter func114 rfl ntmps114 rfl<|?_;have aQ:=St.s0 w;refine fL ?_;refine WC.fK rfl<|(eP) (Ac) aQ fun w1 s1 st1=>?_;refine(bz) ?_;exact⟨rfl,(St.cg st1)⟩
theorem Dd :CR prog 164 #[.slice a 0 c,.int .i64 0,.int .i64 0,f] w (.tuple #[]):=by
 refine enter func164 rfl ntmps164 rfl<|?_;have aQ:=St.s0 w;refine gV ?_;refine WC.br (σ:=Unit) (dn:=fun u=>[(0,.slice a 0 c),(1,.int .i64 0),(2,.int .i64 0),(3,f),(8,.int .i64 1)]) (F:=fun u=>[]) (I:=fun u=>True) (μ:=fun u=>0) (()) (aQ) Sub.t (trivial)<|?_;rintro u w1 st1 _;simp only [CA,NA] at st1 ⊢;refine(aS) (fun g14=>?_) fun g14=>?_
 ·
  exact dL g14
 refine cy ?_;refine EX.mV (.inr rfl) rfl<|?_;exact⟨rfl,(St.cg st1)⟩
theorem De :CR prog 117 #[.slice a 0 c,.int .i64 0,.int .i64 0,.int .i64 0,f] w (.tuple #[]):=by
 refine enter func117 rfl ntmps117 rfl<|?_;have aQ:=St.s0 w;refine kg ?_;refine WC.br (σ:=Unit) (dn:=fun u=>[(0,.slice a 0 c),(1,.int .i64 0),(2,.int .i64 0),(3,.int .i64 0),(4,f),(10,.bool true),(11,.bool true)]) (F:=fun u=>[]) (I:=fun u=>True) (μ:=fun u=>0) (()) (aQ) Sub.t (trivial)<|?_;rintro u w1 st1 _;simp only [CA,NA] at st1 ⊢;refine aY ?_;refine(aS) (fun b=>?_) fun b=>?_
 ·
  refine(eP) (Dd (f:=f)) st1 fun w2 s2 st2=>?_;refine ez ?_;refine EX.mV (.inl rfl) rfl<|?_;exact⟨rfl,(St.cg st2)⟩
 exact dL b
set_option maxRecDepth 100000 in
theorem Ad :CR prog 68 #[.slice a 0 c,f] w (.tuple #[]):=by
 refine enter func68 rfl ntmps68 rfl<|?_;have aQ:=St.s0 w;refine kg ?_;refine WP .r ((show PV prog _ _ _ _ (.int .u64 0) from⟨rfl,rfl,fun _ _ _ _=>rfl⟩))<|(eP) (vT) aQ fun w1 s1 st1=>?_;refine(eP) (De (f:=f)) st1 fun w2 s2 st2=>?_;refine nx ?_;refine EX.mV (.inr rfl) rfl<|?_;exact⟨rfl,(St.cg st2)⟩
theorem Df :CR prog 153 #[.slice a 0 c,.int .i64 0,.int .i64 0,f] w (.tuple #[]):=by
 refine enter func153 rfl ntmps153 rfl<|?_;have aQ:=St.s0 w;refine gV ?_;refine WC.br (σ:=Unit) (dn:=fun u=>[(0,.slice a 0 c),(1,.int .i64 0),(2,.int .i64 0),(3,f),(8,.int .i64 1)]) (F:=fun u=>[]) (I:=fun u=>True) (μ:=fun u=>0) (()) (aQ) Sub.t (trivial)<|?_;rintro u w1 st1 _;simp only [CA,NA] at st1 ⊢;refine(aS) (fun g14=>?_) fun g14=>?_
 ·
  exact dL g14
 refine cy ?_;refine EX.mV (.inr rfl) rfl<|?_;exact⟨rfl,(St.cg st1)⟩
theorem Dg :CR prog 113 #[.slice a 0 c,.int .i64 0,.int .i64 0,.int .i64 0,f] w (.tuple #[]):=by
 refine enter func113 rfl ntmps113 rfl<|?_;have aQ:=St.s0 w;refine kg ?_;refine WC.br (σ:=Unit) (dn:=fun u=>[(0,.slice a 0 c),(1,.int .i64 0),(2,.int .i64 0),(3,.int .i64 0),(4,f),(10,.bool true),(11,.bool true)]) (F:=fun u=>[]) (I:=fun u=>True) (μ:=fun u=>0) (()) (aQ) Sub.t (trivial)<|?_;rintro u w1 st1 _;simp only [CA,NA] at st1 ⊢;refine aY ?_;refine(aS) (fun b=>?_) fun b=>?_
 ·
  refine(eP) (Df (f:=f)) st1 fun w2 s2 st2=>?_;refine ez ?_;refine EX.mV (.inl rfl) rfl<|?_;exact⟨rfl,(St.cg st2)⟩
 exact dL b
set_option maxRecDepth 100000 in
theorem Ae :CR prog 64 #[.slice a 0 c,f] w (.tuple #[]):=by
 refine enter func64 rfl ntmps64 rfl<|?_;have aQ:=St.s0 w;refine kg ?_;refine WP .r ((show PV prog _ _ _ _ (.int .u64 0) from⟨rfl,rfl,fun _ _ _ _=>rfl⟩))<|(eP) (vT) aQ fun w1 s1 st1=>?_;refine(eP) (Dg (f:=f)) st1 fun w2 s2 st2=>?_;refine nx ?_;refine EX.mV (.inr rfl) rfl<|?_;exact⟨rfl,(St.cg st2)⟩
set_option maxHeartbeats 400000
theorem Af{l:List (Rec × RL)}(b:St w M Z w [As.os RR.EJ 88 8 a n c l]) (hn:l.length≤1000000):Calls prog 64 #[.slice a n c,.func (.func 65) #[] #[]] w fun e w'=>e=.returned (.tuple #[])∧∃l',l'.Perm l∧(l'.Pairwise fun x y=>¬bC y.1.key x.1.key<0)∧St w M Z w' [As.os RR.EJ 88 8 a n c l']:=by
 by_cases h:l=[]
 ·
  have hl:=(As.gs b.g0).len;subst h;have hl:n=0:=hl;subst hl;refine Ae.mono<|?_;rintro e w' ⟨rfl,hc⟩;exact⟨rfl,[],.nil,.nil,b.step hc⟩
 exact zW b h hn
set_option maxHeartbeats 1600000 in
theorem Ag(gF:St w M Z w [As.blk wb 74 (D.wc v rev ra rn rc),As.map Key.val D.m eI,As.gA 88 lf l]) (Oh:Rd RR.aD 4 Z w D.a1 D.n1 D.c1 aD) (H:dw l lf eI) (hs:pf l) (h6:l.length≤4000) (h7:aD.length≤4000):Calls prog 30 #[.pointer (some ⟨wb,0,none⟩)] w fun e w'=>∃(a1 a2:Option Addr) (n1 e1 n2 e2:Nat) (Z':Nat→Prop),e=.returned (.agg (bZ.row ⟨rev,aD,l⟩ a1 n1 e1 a2 n2 e2).toArray)∧bK w.heap.size Z Z'∧St w M Z' w' [As.blk wb 74 (D.wc v rev ra rn rc),As.os RR.aD 78 4 a1 n1 e1 aD,As.os RR.ei 88 8 a2 n2 e2 l]:=by
 refine enter func30 rfl ntmps30 rfl<|?_;have aQ:=gF;have st1:=aQ.fr Oh;refine(eZ) st1 fun b2 w1 TB wJ st2=>?_;refine(hW) aO st2.b2<|(eZ) st2 fun b3 w2 H6 wK iW=>?_;refine(cJ) dN iW fun w3 jU j3 hU=>?_;refine gV ?_;refine WP .r (PV.ld1 (j:=2) i7 hU.b3 rfl rfl)<|?_;have X:=hU;refine(bY) WR (oQ X.e0 (As.gr X.g2) (by omega)) ?_;rintro _ w4 ⟨o1,o2,o3,rfl,ox⟩;have hY:=St.lr X ox;refine nx ?_;refine WL.s1 hY.p1 fun w5 _ hh=>?_;refine nx ?_;refine WL.s1 hh fun w6 _ J=>?_;refine cy ?_;have Y:=((As.gm J.g5)).nodup;refine(a7) fX J.b4<|?_;refine WL.go rfl (OX.range fZ (As.gm J.g5) rfl rfl fun K w7 sI TJ hmI=>?_);have iH:=J.p5;have eE:=iH.kB (B:=As.QO Key.val K D.m eI eI none) (sI.p.mono (fun x _ d=>by cases d)) hmI (fun x d=>by rcases d with h | h;exact .inr (h ▸ TJ);exact .inl h);refine cq ?_;have dh:=eE.dp RR.EJ 88 8;have cX:=dh.fact (B:=As.fz (rH [])) rH.nil (fun _ d=>d);refine WC.gY (σ:=(List (Key × Value)) × (Option (Key × Value)) × (List (Rec × RL)) × (Option Addr) × Nat × Nat × (Nat→Prop)) (dn:=fun(left,cur,L,g,o,s,z)=>[(2,.pointer (some ⟨b2,0,none⟩)),(3,.pointer (some ⟨b3,0,none⟩)),(22,.pointer (some ⟨K,0,none⟩))]) (F:=fun(left,cur,L,g,o,s,z)=>[As.QO Key.val K D.m eI left cur,As.blk b3 31 [.int .i64 rev,.slice o1 o2 o3,.slice g o s],As.os RR.EJ 88 8 g o s L,As.fz (rH L)]) (I:=fun(left,cur,L,g,o,s,z)=>(J7 l eI left L)∧(∀q∈left,q∈eI)∧(bK w.heap.size Z z)∧True) (μ:=fun(left,cur,L,g,o,s,z)=>left.length) (Zf:=fun(left,cur,L,g,o,s,z)=>z) (eI,none,[],none,0,0,_) (cX.p1.p3.p3) Sub.t (⟨J7.start,fun _ h=>h,bK.refl _ _,trivial⟩)<|?_;rintro⟨left,cur,L,g,o,s,z⟩ w8 N ⟨O,TL,mU,_⟩;simp only [CA,NA] at N O TL mU ⊢;have hLn:=((As.gs N.g2)).len;have hLl:=O.len H Y;refine bO ?_;refine WL.go rfl (OX.next ((As.Mx N.g0)) rfl rfl fun rN La w9 sN hN Wj=>?_);have cS:=N;have C:=cS.kB (B:=As.QO Key.val K D.m eI La rN) (sN.p.mono (fun x _ d=>by simp at d;exact .inl d)) Wj (fun x d=>.inl d);refine WP .r (PV.ext rfl (Gw _))<|(aS) (fun g24=>?_) fun g24=>?_
 ·
  obtain⟨p,rfl⟩:=Option.isSome_iff_exists.1 g24;obtain⟨P,vp⟩:=p;obtain⟨jN,Q,rfl⟩:=hN;have NY:=TL _ (List.mem_of_getElem? Q);obtain⟨r1,E⟩:=(H.key (k:=P)).1 (List.mem_map.2 ⟨_,NY,rfl⟩);have hgv:=H.yes E
  have hvp:vp=.pointer (some ⟨(lf P).b,0,none⟩):=by rw [(tY Y).2 NY] at hgv;exact Option.some.inj hgv
  subst hvp;refine dd ?_;refine WP .r (PV.entry (As.Mx C.g0) rfl)<|cy ?_;have IL:=(((As.sG C.g8)).1 _ _ E).2.2;have G:=C.fact (As.Ji (((((As.sG C.g8)).1 _ _ E).2.1))) (fun _ d=>d);have aoU:=G.size;refine WC.bL (m:=7) [] [5,6] [2,3,4,5,6,0,1] [] G (ai.k4 M0 M1 M2 M3<|ai.k4 M4 M5 M6 M7<|ai.cons M8<|ai.cons M9<|ai.nil) mixed (by kernel_rfl) (by kernel_rfl) rfl<|?_
  iterate 2 refine DG.a ?_
  refine DQ .r (fun wx Zx Rx _ pH vI=>VA cV (bU.range ((As.sG (pH.sv vI).g9).1 _ _ E).1) .r)<|(gh) (fun iT Iu r8 R jV=>?_);simp only [CA,NA] at R;have u:=R;refine OX.call Sg rfl rfl ((pG u.e0 (As.gr u.g0) IL).mono ?_);rintro _ iY ⟨q1,T,U,rfl,nV⟩;have V:=St.lr u nV;have hgq:=St.bP nV;have T3:=u.size;have W:=V.ba (by omega);have qF:=mU.trans (bK.dA (F:=fun x=>x∈aJ q1) hgq) T3;refine⟨_,rfl,nV.bX.size,_,rfl,_,_,_,W,ax.k4<|ax.k4<|ax.k2<|ax.cons<|ax.nil,ai.k4 M1 M2 M3 M4<|ai.k4 M5 M6 M7 M8<|ai.cons M9<|ai.cons hJ<|ai.nil,?_⟩;refine(gh) (fun lx TD FQ eW oS=>?_);simp only [CA,NA] at eW;refine OX.aR (us:=(Rec.y7 ((r1,(⟨0,q1,T,U⟩:RL)):Rec × RL))) nI rfl rfl rfl rfl fun Oc nN It TA=>?_;have dO:=eW.da It TA;refine⟨It.ext.size,_,rfl,_,_,_,dO,ax.k4<|ax.k4<|ax.k4<|ax.nil,ai.k4 M2 M3 M4 M5<|ai.k4 M6 M7 M8 M9<|ai.cons hJ<|ai.cons ir<|ai.nil,?_⟩;refine(oq) dD SV.g2<|(jo)<|?_;intro qV qB eR;simp only [CM,NM,CA,NA,hV.it] at eR;refine WL.ap rfl rfl eR.p5 (SR.dc (A:=fun _=>True) (x:=((r1,(⟨0,q1,T,U⟩:RL)):Rec × RL)) (As.gb eR.g0) trivial rfl (Rec.Q9 _) rfl) fun a34 Od pD YT YU fi=>?_;refine nx ?_;refine WL.s1 fi.p5 fun tB _ eh=>?_;refine WL.nil (EX.np ?_);have eX:=eh.fact (B:=As.fz (rH (L++[(r1,(⟨0,q1,T,U⟩:RL))]))) (rH.snoc (As.gf eh.g6) (As.gr eh.g3) IL) (fun _ d=>d);have dz:=eX.p7.drop;refine nx ?_;refine EX.again (left.eraseIdx jN,some (P,.pointer (some ⟨(lf P).b,0,none⟩)),L++[(r1,(⟨0,q1,T,U⟩:RL))],_,_,_,_) Sub.t ⟨dz.p3.drop.p3.drop.p3.drop.p2.p2.p3,⟨O.next Q E,fun q hq=>TL q (List.mem_of_mem_eraseIdx hq),qF,trivial⟩⟩ (by simp only [];rw [List.length_eraseIdx_of_lt (List.getElem?_eq_some_iff.1 Q).1];have:=(List.getElem?_eq_some_iff.1 Q).1;omega)
 have Ez:rN=none:=by simpa using g24
 subst Ez;obtain⟨rfl,rfl⟩:=hN;refine(a7) dD C.b1<|?_;have G:=C.p2;refine(bY) adM (Af G.e1 (by omega)) ?_;rintro _ iT ⟨rfl,L2,wo,tK,qE⟩;have R:=St.lr G qE;have hLf:=O.done H Y hs wo tK;have u:=R;have V:=u.conv (B:=As.os RR.ei 88 8 g o s l) (hLf ▸ rH.ei (As.gs u.g0) (fun y hy=>(As.gf u.g3) y (wo.mem_iff.1 hy))) (fun _ h=>h);refine(aZ) aO V.b2<|(cJ) dN V.p5 fun iY qU mu W=>?_;refine(kT) aO W.b0<|?_;exact⟨o1,g,o2,o3,o,s,_,rfl,mU,W.p1.p5.p7.k3⟩
set_option maxHeartbeats 400000
theorem xd(z:St w M Z w []) (B:Rd RR.aD 4 Z w a1 n1 e1 x.ab) (hr:Rd RR.ei 8 Z w a2 n2 e2 x.ah):Calls prog 18 #[.agg (x.row a1 n1 e1 a2 n2 e2).toArray,k.val] w fun e w'=>e=.returned (.tuple #[.string (i6 x k),.bool (gu x k)])∧St w M Z w' []:=by
 refine enter func18 rfl ntmps18 rfl<|?_;have aQ:=z;have st1:=aQ.fr B;have st2:=st1.fr hr;refine(dy) st2 fun b2 w1 I J C=>?_;refine(dy) C fun b3 w2 K L u=>?_;refine(aZ) ao u.b0<|(eP) (cO (k:=k)) u fun w3 N b=>?_;refine(aS) (fun g9=>?_) fun g9=>?_
 ·
  have d:gu x k=true:=by unfold gu;rw [g9];rfl
  have j:i6 x k=(bA x.ab k).value:=by unfold i6;rw [if_pos g9]
  refine(aZ) aO b.b1<|(aZ) ao b.b0<|(eP) (tb (As.gr b.g3) (As.gr b.g2)) b fun w4 O m=>?_;refine(AF) ?_;exact⟨by rw [d,j],m.k0⟩
 skip
 refine(a7) dD b.b1<|(aZ) ao b.b0<|?_;have m:=b;refine(bY) adt (zQ (k:=k) m.e0 (As.gr m.g2)) ?_;rintro _ w4 ⟨f1,f2,f3,rfl,_,E⟩;have F:=St.lr m E;refine(eZ) F fun P w5 Q R G=>?_;refine(cJ) fY G fun w6 T U o=>?_;refine dd ?_;refine WC.dZ (t:=28) (v:=.bool (!((aA x.ah k).isSome && decide ((aC x.ah k).av=x.ad)))) o ?_<|?_
 ·
  refine(db) (fun g22=>?_) (fun g22=>?_)
  ·
   exact(cA) (tG g22) (o)
  refine(a7) aP o.b0<|(a7) aP o.b3<|?_;exact(cA) (tG g22) (o)
 intro w7 p;refine(aS) (fun q=>?_) fun q=>?_
 ·
  have eK:aw k=false:=by simpa using g9
  have d:gu x k=false:=by
   unfold gu
   rw [eK,Bool.false_or,Bool.eq_false_iff];intro s;rw [Bool.and_eq_true] at s;have y:=s.1;have H:=of_decide_eq_true s.2;have g:=q
   simp at g
   exact g.elim (fun h=>by rw [h] at y;cases y) fun h=>h H
  have j:i6 x k=⟨#[]⟩:=by unfold i6;rw [if_neg (by rw [eK];simp),if_neg (by rw [d];simp)]
  refine(AF) ?_;exact⟨by rw [d,j],p.k0⟩
 have eK:aw k=false:=by simpa using g9
 have d:gu x k=true:=by unfold gu;rw [eK,Bool.false_or];simpa using q
 have j:i6 x k=(aC x.ah k).value:=by unfold i6;rw [if_neg (by rw [eK];simp),if_pos d]
 refine(a7) fy p.b0<|(AF) ?_;exact⟨by rw [d,j],p.k0⟩
set_option maxHeartbeats 400000
theorem vU{pb:Nat}(hk:ep aa k) (b:bU w pb 27 [.slice ar r cr]) (hu:fP A w ar r cr aa):CR prog 54 #[k.val,.pointer (some ⟨pb,0,none⟩)] w (.bool false):=by
 refine enter func54 rfl ntmps54 rfl<|?_;have aQ:=St.s0 w;refine(dy) aQ fun b2 w1 d e st1=>?_;refine dd ?_;refine WP .r (PV.mq jD (bU.range (b.ext (St.cg st1))) rfl rfl)<|(aZ) ao st1.b0<|(eP) (xe hk (hu.ext (St.cg st1))) st1 fun w2 s2 st2=>?_;refine(bz) ?_;exact⟨rfl,(St.cg st2)⟩
theorem vV{l:List Key}(hu:fP A w ar r cr aa) (g:Rd RR.aD 4 Z w a1 n1 e1 x.ab) (hr:Rd RR.ei 8 Z w a2 n2 e2 x.ah) (h:aq aa) (j:uB aa x) (e:Rd RR.key 2 Z w ag ng eg l) (hk:∀k∈l,ep aa k) (o:l.length≤32):CR prog 24 #[.slice ar r cr,.agg (x.row a1 n1 e1 a2 n2 e2).toArray,.slice ag ng eg] w (.int .i64 0):=by
 have q:=e.len;refine enter func24 rfl ntmps24 rfl<|?_;have aQ:=St.s0 w;refine(dy) aQ fun b3 w1 s t st1=>?_;refine(dy) st1 fun b4 w2 y z st2=>?_;refine ez ?_;refine WP .r (PV.mq jD st2.b1 rfl rfl)<|(eP) (vG (hu.ext (St.cg st2)) h) st2 fun w3 B b=>?_;refine cy ?_;refine WC.fK rfl<|(aZ) aO b.b0<|(eP) (r7 (g.ext (St.cg b)) (hr.ext (St.cg b)) j) b fun w4 C d=>?_;refine cy ?_;refine WC.fK rfl<|(aS) (fun g15=>?_) fun g15=>?_
 ·
  exact absurd (of_decide_eq_true g15) (by omega)
 skip
 refine cq ?_;refine WP .r (PV.func (us:=[]) (vs:=[.pointer (some ⟨b3,0,none⟩)]) rfl rfl)<|?_;refine WL.c1 (u:=.bool false) (qM (p:=fun _=>false) adF (e.ext (St.cg d)) (fun w1 h1 k hm=>vU (hk k hm) (((As.gb d.g1)).ext h1) ((hu.ext (St.cg d)).ext h1))) (by rw [List.any_eq_false.2 (fun _ _=>by simp)]) d fun w5 E m=>?_;refine cq ?_;refine WC.fK rfl<|(bz) ?_;exact⟨rfl,(St.cg m)⟩
set_option maxHeartbeats 400000
theorem Ah{l:List Key}(b:St w M Z w [As.os RR.key 40 2 a n c l]) (hn:l.length≤1000000):Calls prog 68 #[.slice a n c,.func (.func 66) #[] #[]] w fun e w'=>e=.returned (.tuple #[])∧∃l',l'.Perm l∧(l'.Pairwise fun x y=>¬bC y x<0)∧St w M Z w' [As.os RR.key 40 2 a n c l']:=by
 by_cases h:l=[]
 ·
  have hl:=(As.gs b.g0).len;subst h;have hl:n=0:=hl;subst hl;refine Ad.mono<|?_;rintro e w' ⟨rfl,hc⟩;exact⟨rfl,[],.nil,.nil,b.step hc⟩
 exact te b h hn
theorem vW{l:List Key}(q:St w M Z w []) (hl:Rd RR.key 2 Z w a n c l) (g:l.Nodup) (hn:l.length≤1000000):Calls prog 31 #[.slice a n c] w fun e w'=>∃h j m,∃l':List Key,e=.returned (.slice h j m)∧wE l'∧l'.Perm l∧St w M Z w' [As.os RR.key 40 2 h j m l']:=by
 refine enter func31 rfl ntmps31 rfl<|?_;have aQ:=q;have st1:=aQ.fr hl;refine gV ?_;have st2:=st1;refine(bY) Kx (ju st2.e0 (As.gr st2.g0) hn) ?_;rintro _ w1 ⟨b1,b2,c1,rfl,s⟩;have t:=St.lr st2 s;refine fL ?_;have o:=t;refine(bY) WT (Ah o.e1 hn) ?_;rintro _ w2 ⟨rfl,d,b,u,y⟩;have p:=St.lr o y;have E:d.length=l.length:=b.length_eq;have z:d.Nodup:=b.nodup_iff.2 g;have B:=yS b g u;refine(eP) (mG (Ow.rd (As.gs p.g0) (by omega)) z) p fun w3 F C=>?_;refine(bz) ?_;exact⟨b1,_,c1,d,rfl,B,b,C.p1.drop⟩
theorem vX{l:List Key}(j:St w M Z w []) (hl:Rd RR.key 2 (fun x=>Z x∨x∈aJ a) w a n c l) (o:∀x∈aJ a,x<w.heap.size) (p:l.Nodup) (hn:l.length≤1000000):Calls prog 31 #[.slice a n c] w fun e w'=>∃b d g,∃l':List Key,e=.returned (.slice b d g)∧wE l'∧l'.Perm l∧St w M Z w' [As.os RR.key 40 2 b d g l']:=by
 have q:St w M (fun x=>Z x∨x∈aJ a) w []:=⟨j.bX,fun x s=>s.elim (j.jL x) (o x),by simp,by simp,.nil,by simp⟩;refine(vW q hl p hn).mono<|?_;rintro e w' ⟨b,d,g,l',rfl,t,u,m⟩;exact⟨b,d,g,l',rfl,t,u,m.unz (fun _ h=>.inl h) (Ow.z (As.gs m.g0))⟩
theorem Dh{L:List (bp × eD)}{f:bp}{A:eD}(G:St w M Z w [As.map Key.val S.m ml,As.map Key.val S.q [],As.blk wb 74 (D.wc S.s rev ra rn rc),As.map Key.val D.m eI,As.gA 88 lf l,As.os RR.key 40 2 ra rn rc a8,As.os RR.im 115 6 al nl el (L++[(f,A)]),As.many (xZ 40 9 (L++[(f,A)]))]) (X:(S.FV prog aa x0).p Z w) (Y:Rd RR.aD 4 Z w D.a1 D.n1 D.c1 x0.ab) (Gx:Rd RR.fb 4 Z w D.ar D.r D.cr aa) (hm:aU aa x0.ab ml) (H:dw l lf eI) (I:aq aa) (J:∀k,(valOf aa x0.ab k).size≤1000) (K:KR aa l) (N:L.length≤1000) (Zc:a8.length≤100000) (hn4:eI.length<4000) (O:fw aa f) (hi:i<aa.length) (hki:f.key=aM aa (i:Int)) (hsz:∀s∈f.ae,s.size≤1000) (h6:l.length≤4000) (U4:∀r∈l,r.reads.length≤4000) (hvr:∀r∈l,r.av≤rev):Calls prog 29 #[.pointer (some ⟨wb,0,none⟩),.slice al nl el,.func (.func 28) #[] #[]] w fun e w'=>∃(l':List Rec) (P:Key→RL) (Q j:List (Key × Value)) (L':List (bp × eD)) (rk:List Key) (d:Bool) (g:Int) (a R:Option Addr) (n c T U:Nat) (Z':Nat→Prop),e=.returned (.tuple #[.slice a n c,.bool d,.int .i64 g])∧FS aa (valOf aa x0.ab) ⟨rev,x0.ab,l⟩ (L.map Prod.fst) f ⟨rev,x0.ab,l'⟩ (L'.map Prod.fst) rk g∧(g=0→L'.map Prod.fst≠L.map Prod.fst++[f])∧dw l' P Q∧aU aa x0.ab j∧gi ml j∧bK w.heap.size Z Z'∧St w M Z' w' [As.map Key.val S.m j,As.map Key.val S.q [],As.blk wb 74 (D.wc S.s rev R T U),As.map Key.val D.m Q,As.gA 88 P l',As.os RR.key 40 2 R T U (a8++rk),As.os RR.im 115 6 a n c L',As.many (xZ 40 9 L')]:=by
 have IC:=(As.gs G.g6).len;rw [List.length_append,List.length_singleton] at IC;refine enter func29 rfl ntmps29 rfl<|?_;have aQ:=G;have st1:=aQ.fr Y;have st2:=st1.fr Gx;have h:=st2.fact (B:=As.fz (S.FV prog aa x0)) X (fun _ hx=>hx);refine kS ?_;obtain⟨gT,V⟩:=Ow.addr (As.gs h.g9) (bH L (f,A));refine cy ?_;refine WP .r ((PV.sub rfl rfl (by omega) (by omega)).cast (v':=.int .i64 (L.length:Int)) (congrArg (Value.int .i64) (by omega)))<|WP .r (PV.dU mN (i:=L.length) V rfl rfl (by omega))<|(a7) dH (Ow.jH (As.gs h.g9) (by rw [List.length_append,List.length_singleton];omega) V (bH L (f,A)))<|(aS) (fun g15=>?_) fun g15=>?_
 ·
  have o:f.running=true:=g15;refine dd ?_;have b:=h.kC.kC.kC.kC.kC.kC.kC.kC;refine(bY) adK (F2 b.e8 (As.gf b.g8) (As.gr b.g10) (As.gr b.g9) hm H I J K N Zc hn4 O hi hki hsz o) ?_;rintro _ w1 ⟨l1,lf1,agw,t,L1,rk,d,g,a1,JI,n1,c1,rn1,rc1,Z1,rfl,T4,Bb,u,y,z,W,C⟩;have E:=St.lv b C W;have mU:=W.le b.size;refine jM ?_;refine EX.ey rfl (RS.tmp rfl<|RS.tmp rfl<|RS.tmp rfl<|RS.nil) rfl<|?_;exact⟨l1,lf1,agw,t,L1,rk,d,g,a1,JI,n1,c1,rn1,rc1,_,rfl,T4,Bb,u,y,z,mU,E.p8.drop.p8.drop.p8.drop⟩
 have o:f.running=false:=by simpa using g15
 refine ez ?_;have b:=h.p9.p8.p8.p8.p8.p8;refine(bY) adL (Ab b.e6 (As.gf b.g6) (As.gr b.g8) hm H I J K N o h6 U4 hvr O.at0) ?_;rintro _ w1 ⟨l1,L1,d,g,a1,n1,c1,t,rfl,F,u,y,z,C⟩;have E:=St.lr b C;refine kS ?_;have hY:=E.kC;have hh:=St.acB hY F.2.2;have iK:=hh.kC.rj (B:=As.os RR.key 40 2 ra rn rc (a8++[])) (by rw [List.append_nil]);refine EX.ey rfl (RS.tmp rfl<|RS.tmp rfl<|RS.tmp rfl<|RS.nil) rfl<|?_;exact⟨l1,lf,eI,t,L1,[],d,g,a1,ra,n1,c1,rn,rc,_,rfl,F.1,F.2.1,u,y,z,bK.refl _ _,iK.p8.drop.p8.drop.p8.drop.p7.p1.p7.p7.p7.p7.p7⟩
set_option maxHeartbeats 4000000 in
theorem ic{goals:List Key}(gF:St w M Z w []) (ht:lD prog Z w) (hu:Rd RR.fb 4 Z w ar r cr aa) (Oh:Rd RR.aD 4 Z w a1 n1 e1 x.ab) (hr:Rd RR.ei 8 Z w a2 n2 e2 x.ah) (hg:Rd RR.key 2 Z w ag ng eg goals) (u:aq aa) (d:LC aa x) (hk:∀k∈goals,ep aa k) (h32:goals.length≤32):Calls prog 10 #[.slice ar r cr,.agg (x.row a1 n1 e1 a2 n2 e2).toArray,.slice ag ng eg] w fun e w'=>∃(b':bZ) (a8 rs:List Key) (Y3 Y6 a3':Option Addr) (Y4 Y5 Y7 Y8 n3' e3':Nat) (Z':Nat→Prop),e=.returned (.tuple #[.agg (b'.row Y3 Y4 Y5 Y6 Y7 Y8).toArray,.slice a3' n3' e3',.int .i64 0])∧ed aa (valOf aa x.ab) goals x b' [] a8∧b'.ab=x.ab∧(∀k∈goals,aw k=true∨ay b' k=true)∧wE rs∧rs.Perm a8∧bK w.heap.size Z Z'∧St w M Z' w' [As.os RR.aD 78 4 Y3 Y4 Y5 b'.ab,As.os RR.ei 88 8 Y6 Y7 Y8 b'.ah,As.os RR.key 40 2 a3' n3' e3' rs]:=by
 have Zn:=d.lb.BW;have hS:=d.lb.small u;have Of:=hg.len;refine enter func10 rfl ntmps10 rfl<|?_;have aQ:=gF;have st1:=aQ.fr hu;have st2:=st1.fr Oh;have iW:=st2.fr hr;have hU:=iW.fr hg;have ja:=hU.fact (B:=As.fz (FZ.Jw prog)) ht (fun _ d=>d);refine(dy) ja fun b4 w1 Fh IV hY=>?_;refine(eZ) hY fun b6 w2 DH IK W=>?_;refine(aZ) aO W.b1<|(eP) (vV (As.gr W.g6) (As.gr W.g5) (As.gr W.g4) u Zn (As.gr W.g3) hk h32) W fun w3 s3 iK=>?_;refine(aS) (fun g22=>?_) fun g22=>?_
 ·
  exact dL g22
 refine(aZ) aO iK.b1<|?_;have R:=iK;refine(bY) adl (Ai (x:=x) R.e0 (As.gf R.g2) (As.gr R.g6) (As.gr R.g5) (As.gr R.g4) Zn.2.2.2.2.2.2.2.1 (Nat.le_trans Zn.2.2.2.2.1 (by decide)) Zn.2.2.2.2.2.2.1) ?_;rintro _ w4 ⟨D,S,wb,lf0,agx,Z1,rfl,hmt,nR,hfv,hdi,agy,ox⟩;have eE:=St.lv R ox nR;have wt:=nR.le R.size;have dh:=eE.fact (B:=As.fz (S.FV prog aa x)) hfv (fun _ d=>d);have cX:=dh.fr (hdi);have dj:=cX.fr (agy);refine jM ?_;have cS:=dj.dp RR.key 40 2;refine bO ?_;refine WC.gY (σ:=Nat × (List Rec) × (Key→RL) × (List (Key × Value)) × (List (Key × Value)) × (List Key) × (Option Addr) × Nat × Nat × (Nat→Prop)) (dn:=fun(i,l1,z,C,E,h,JI,G,H,T)=>[(4,.pointer (some ⟨b4,0,none⟩)),(6,.pointer (some ⟨b6,0,none⟩)),(10,.pointer (some ⟨wb,0,none⟩)),(29,.slice ag ng eg),(30,.int .i64 (ng:Int)),(31,.int .i64 (i:Int))]) (F:=fun(i,l1,z,C,E,h,JI,G,H,T)=>[As.map Key.val S.m E,As.blk wb 74 (D.wc S.s x.ad JI G H),As.map Key.val D.m C,As.gA 88 z l1,As.os RR.key 40 2 JI G H h]) (I:=fun(i,l1,z,C,E,h,JI,G,H,T)=>(i≤ng)∧(ed aa (valOf aa x.ab) goals x ⟨x.ad,x.ab,l1⟩ [] h)∧(dw l1 z C)∧(aU aa x.ab E)∧(∀y∈goals.take i,(aw y=true∨ay ⟨x.ad,x.ab,l1⟩ y=true))∧(bK w.heap.size Z T)∧True) (μ:=fun(i,l1,z,C,E,h,JI,G,H,T)=>ng - i) (Zf:=fun(i,l1,z,C,E,h,JI,G,H,T)=>T) (0,x.ah,lf0,agx,[],[],none,0,0,_) (cS.p8.p8.p8.p7) Sub.t (⟨Nat.zero_le _,.start,hmt,aU.nil,by simp,wt,trivial⟩)<|?_;rintro⟨i,l1,z,C,E,h,JI,G,H,T⟩ w5 dI ⟨hi,Lg,Om,Ia,ou,mU,_⟩;simp only [CA,NA] at dI hi Lg Om Ia ou mU ⊢;refine(aS) (fun Ta=>?_) fun Ta=>?_
 ·
  simp at Ta
  have yl:i<goals.length:=by omega
  have hnk:cY goals[i]:=(hk _ (List.getElem_mem yl)).cY;obtain⟨_,agz,_⟩:=Lg.ready u d hk;refine dd ?_;obtain⟨gT,k8,kz,cW,gU,gg,eH,eV⟩:=Rd.at (As.gr dI.g12) yl;have gg:=RR.bd gg;subst gg;have gy:=dI.fg eV eH;refine nx ?_;refine WP .r (PV.dU eA cW rfl rfl (by omega))<|(aZ) ao (As.lF gy.g0)<|(eZ) gy fun b12 w6 Y9 Za X=>?_;refine(cJ) hP X fun w7 jU j3 ef=>?_;refine(aZ) ao ef.b0<|?_;have J:=ef;refine(bY) adm (C2 (aD:=x.ab) (k:=goals[i]) J.e0 (As.gb J.g3) (As.gm J.g4) Om (As.sG J.g5) agz hnk) ?_;rintro _ w8 ⟨o1,o2,o3,rfl,kE⟩;have Y:=St.lr J kE;refine bO ?_;have eW:=St.Ra (EK:=40) (ES:=9) (k:=goals[i]) (c:=cN ⟨x.ad,x.ab,l1⟩ [] goals[i]) Y;refine bO ?_;refine WC.gY (σ:=(List Rec) × (Key→RL) × (List (Key × Value)) × (List (Key × Value)) × (List Key) × (Option Addr) × Nat × Nat × (Nat→Prop) × (List (bp × eD)) × (Option Addr) × Nat × Nat) (dn:=fun(b,K,N,eQ,o,O,P,Q,U,L,al,nl,el)=>[(4,.pointer (some ⟨b4,0,none⟩)),(6,.pointer (some ⟨b6,0,none⟩)),(10,.pointer (some ⟨wb,0,none⟩)),(13,.slice al nl el),(29,.slice ag ng eg),(30,.int .i64 (ng:Int)),(31,.int .i64 (i:Int))]) (F:=fun(b,K,N,eQ,o,O,P,Q,U,L,al,nl,el)=>[As.map Key.val S.m eQ,As.blk wb 74 (D.wc S.s x.ad O P Q),As.map Key.val D.m N,As.gA 88 K b,As.os RR.key 40 2 O P Q o,As.os RR.im 115 6 al nl el L,As.many (xZ 40 9 L)]) (I:=fun(b,K,N,eQ,o,O,P,Q,U,L,al,nl,el)=>(ed aa (valOf aa x.ab) goals x ⟨x.ad,x.ab,b⟩ (L.map Prod.fst) o)∧(dw b K N)∧(aU aa x.ab eQ)∧(∀y∈goals.take i,(aw y=true∨ay ⟨x.ad,x.ab,b⟩ y=true))∧(aw goals[i]=true∨ay ⟨x.ad,x.ab,b⟩ goals[i]=true∨∃g q,L.map Prod.fst=g::q∧g.key=goals[i])∧(bK w.heap.size Z U)∧True) (μ:=fun(b,K,N,eQ,o,O,P,Q,U,L,al,nl,el)=>US aa ⟨x.ad,x.ab,b⟩ (L.map Prod.fst)) (Zf:=fun(b,K,N,eQ,o,O,P,Q,U,L,al,nl,el)=>U) (l1,z,C,E,h,JI,G,H,_,(if cN ⟨x.ad,x.ab,l1⟩ [] goals[i]=true then [((⟨goals[i],false,0,[],[]⟩:bp),(⟨none,0,0,none,0,0⟩:eD))] else []),o1,o2,o3) (eW.p1.p8.p8.p8.p8.p8) Sub.t (⟨ed.taken Lg (List.getElem_mem yl),Om,Ia,ou,HL,mU,trivial⟩)<|?_;rintro⟨b,K,N,eQ,o,O,P,Q,U,L,al,nl,el⟩ w9 p ⟨V,pE,AK,rF,hbo,qF,_⟩;simp only [CA,NA] at p V pE AK rF hbo qF ⊢;refine(aS) (fun LL=>?_) fun LL=>?_
  ·
   simp at LL
   have hLn:=((As.gs p.g5)).len;obtain⟨Lp,f,A,rfl⟩:=MR (L:=L) (by omega);simp only [List.map_append,List.map_cons,List.map_nil] at V hbo;obtain⟨T5,agA,hp6,PY,U7,agB,agC,tm,ao5,agD⟩:=V.ready u d hk;obtain⟨Di,⟨j,hj,UJ⟩,hsz⟩:=agD f (by simp);have hmn:=pE.len ((As.gm p.g2)).nodup
   have hp7:Lp.length≤1000:=by simp at hp6;omega
   have U7:b.length<4000:=U7;refine ez ?_;have eR:=p.p6.p6.p6.p6.p6.p6.o0.p7;refine(bY) ado (Dh (x0:=x) eR.e8 (As.gf eR.g12) (As.gr eR.g11) (As.gr eR.g10) AK pE u hS agA hp7 PY (by omega) Di hj UJ hsz (by omega) agB agC) ?_;rintro _ iT ⟨l3,lf3,agE,iU,L3,rk,d3,er,o4,ra3,o5,o6,rn3,rc3,Z5,rfl,T4,Bb,Lh,Ig,tA,vE,qE⟩;have fi:=St.lv eR qE vE;have ym:=qF.trans vE eR.size;obtain rfl:er=0:=V.Wa u d hk T4
   replace Bb:=Bb rfl
   have agF:=hbo.imp id (FS.bot T4);refine aY ?_;refine(aS) (fun g49=>?_) fun g49=>?_
   ·
    exact dL g49
   refine ez ?_;refine EX.again (l3,lf3,agE,iU,o++rk,ra3,rn3,rc3,_,L3,o4,o5,o6) Sub.t ⟨fi.o0.o0.o0.o0.o0.o0.o0.o0.o0.o0.o0.kD,⟨V.step T4 Bb,Lh,Ig,fun y hy=>(rF y hy).imp id T4.ML,agF,ym,trivial⟩⟩ (by simp only [List.map_append,List.map_cons,List.map_nil];exact V.less u d hk T4 Bb)
  simp at LL
  have hLn:=((As.gs p.g5)).len;obtain rfl:L=[]:=List.eq_nil_of_length_eq_zero (by omega);have Li:=MS yl rF hbo;refine jM ?_;refine eB (i+1,b,K,N,eQ,o,O,P,Q,_) ⟨p.p5.drop.p5.drop.p5.drop.p5.drop,⟨by omega,V,pE,AK,Li,qF,trivial⟩⟩
 simp at Ta
 have hK:goals.take i=goals:=List.take_of_length_le (by omega);rw [hK] at ou;obtain⟨hbk,_,_,PY,U7,_,_,yD,agH,_⟩:=Lg.ready u d hk;have U7:l1.length<4000:=U7;refine fL ?_;refine WC.bL (m:=6) [] [1] [0,1,2,3,4,5] [] dI (ai.cons M1<|ai.nil) mixed (by kernel_rfl) (by kernel_rfl) rfl<|(gh) (fun w6 R1x Y0 gy PT=>?_);simp only [CA,NA] at gy;have X:=gy.p3.p3.p3;refine OX.call adp rfl rfl ((Ag X.e3 (As.gr X.g6) Om agH (by omega) (Nat.le_trans Zn.2.2.2.2.1 (by decide))).mono ?_);rintro _ w7 ⟨s1,s2,s3,s4,s5,s6,Z6,rfl,vP,jG⟩;have ef:=St.lv X jG vP;have zX:=mU.trans vP X.size;refine⟨_,rfl,jG.bX.size,_,rfl,_,_,_,ef,ax.k4<|ax.k4<|ax.k4<|ax.k4<|ax.nil,ai.cons M0<|ai.nil,?_⟩
 iterate 3 refine DG.a ?_
 refine(oq) dE SV.g0<|(jo)<|?_;intro w8 PE J;simp only [CM,NM,CA,NA,hV.it] at J;have Y:=J;refine(bY) WM (vX Y.e0 (Ow.rd (As.gs Y.g4) (by omega)) (OR.lt (As.gs Y.g4)) yD (by omega)) ?_;rintro _ w9 ⟨q1,q2,q3,rs,rfl,hsk,NY,nP⟩;have eW:=St.lr Y nP;refine(cJ) dN eW.kC fun iT qU mu p=>?_;refine bO ?_;refine WL.nil (EX.np ?_);refine bO ?_;refine EX.ey rfl (RS.cell aO rfl p.b0 rfl<|RS.tmp rfl<|RS.tmp rfl<|RS.nil) rfl<|?_;exact⟨⟨x.ad,x.ab,l1⟩,h,rs,s1,s2,q1,s3,s4,s5,s6,q2,q3,_,rfl,Lg,rfl,ou,hsk,NY,zX,p.p1.p4.p4.k3⟩
end Go.Rc

