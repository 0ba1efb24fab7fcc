/- Walks over the program, part WYt. Conditions: as each theorem says. -/
import Derived.Test.YtilldnlhckpbjaaGreatDoorQFacts
import Derived.Test.YtilldnlhckpbjaaGreatDoorQWZk
import Derived.Test.YtilldnlhckpbjaaGreatDoorQBh
set_option linter.all false
namespace Go.Rc
open Go Go.Proofs Go.Proofs.Tryz
variable {w:World}{M Z:Nat→Prop}
set_option maxHeartbeats 400000
theorem sj{aa:List aG}{x:cB}{k:Key}{ar a1 a2:Option Addr}{r cr n1 e1 n2 e2:Nat}(l:St w M Z w []) (ht:j5 prog Z w) (hu:Rd RR.dM 4 Z w ar r cr aa) (hi:Rd RR.aD 4 Z w a1 n1 e1 x.ab) (hr:Rd RR.iV 8 Z w a2 n2 e2 x.ai) (f:ao aa) (o:gz x) (hk:dU aa k) (p:fL aa k=true):Calls prog 18 #[.slice ar r cr,.agg (x.row a1 n1 e1 a2 n2 e2).toArray,k.val] w fun e w'=>∃(a:Option Addr) (n c:Nat),e=.returned (.tuple #[.slice a n c,.int .i64 0])∧St w M Z w' [As.os RR.key 43 2 a n c (cy aa x.ab k)]:=by
 refine enter func18 rfl ntmps18 rfl<|?_;have aO:=l;have st1:=aO.fr hu;have st2:=st1.fr hi;have q:=st2.fr hr;have s:=q.fact (B:=As.fz (FZ.Iy prog)) ht (fun _ t=>t);refine(dx) s fun b4 w1 C E u=>?_;refine(dx) u fun b5 w2 F G b=>?_;refine(bP) cc b.b1<|(bP) ak b.b0<|(eY) (jo (As.gr b.g5) (As.gr b.g4) (As.gr b.g3) f o p) b fun w3 H v=>?_;refine(aX) (fun g14=>?_) fun g14=>?_
 ·
  exact cL g14
 refine cv ?_;refine WC.cu (m:=4) [] [2] [0,1,2,3] [] v (av.k4 M0 M1 M2 M3<|av.cons M4<|av.cons M5<|av.nil) mixed (by kernel_rfl) (by kernel_rfl) rfl<|(mQ) cc SV.g1<|(gK) (fun w4 I J g K=>?_);simp only [CA,NA] at g;have h:=g;refine OX.call Lm rfl rfl ((mI (x:=x) h.e0).mono ?_);rintro _ w5 ⟨d1,d2,d3,rfl,i⟩;have y:=St.lr h i;refine⟨_,rfl,i.cq.size,_,rfl,_,_,_,y,aC.k4<|aC.k4<|aC.cons<|aC.nil,av.k4 M3 M4 M5 M6<|av.cons M7<|av.cons M8<|av.nil,?_⟩;refine(mQ) ak SV.g0<|(ly)<|?_;intro w6 L j;simp only [CM,NM,CA,NA,iK.it] at j;have d:=j.p2.p2.p2;refine(cJ) Pq (mf (x:=x) (D:=⟨ar,a1,a2,r,cr,n1,e1,n2,e2,d2,d3,d1⟩) (ml:=[]) (ql:=[]) d.e3 ⟨(As.gr d.g8),(As.gr d.g7),(As.gr d.g6),(As.gf d.g5)⟩ aJ.nil f hk rfl) ?_;rintro _ w7 ⟨ra,N,rc,dj,O,rfl,P,Q,z⟩;have A:=St.lr d z;refine bM ?_;refine WL.nil (EX.np ?_);refine(wv) ?_;exact⟨_,_,_,rfl,A.p3.k1⟩
set_option maxHeartbeats 4000000 in
set_option maxRecDepth 8000 in
theorem pN{l:List Int}{al:Option Addr}{nl cl:Nat}(gJ:St w M Z w []) (ht:j5 prog Z w) (hl:Rd RR.int 1 Z w al nl cl l):CR prog 3 #[.slice al nl cl] w (.bool true):=by
 refine enter func3 rfl ntmps3 rfl<|?_;have aO:=St.rb gJ;have st1:=aO.fr hl;have st2:=st1.fact (B:=As.fz (FZ.Iy prog)) ht (fun _ hx=>hx);refine(eY) (xR) st2 fun w1 s1 V=>?_;refine(aX) (fun QJ=>?_) fun QJ=>?_
 ·
  skip
  refine bM ?_;refine WL.go rfl (OX.call (xs:=[]) (args:=[]) cf6 rfl rfl ((mh (V.e0) (As.gf V.g0)).mono ?_));rintro _ _ ⟨_,rfl,Ye⟩;refine⟨_,rfl,?_⟩;refine(bB) ?_;exact⟨rfl,aQ.trans (St.cg V) (Ye.cq.cq (fun _ h=>by obtain⟨A,hA,_⟩:=h;cases hA))⟩
 ·
  have hl4:nl≤400:=by simpa using QJ
  refine dp ?_;have jl:=V;refine(cJ) cf7 (yl jl.e0 (As.gr jl.g1) hl4) ?_;rintro _ w2 ⟨d,rfl,Mo⟩;have ki:=St.lr jl Mo;refine fj ?_;have jr:=ki;refine(cJ) cf8 (vI jr.e1) ?_;rintro _ w3 ⟨ra,rn,rc,aa,Z1,rfl,e,Ns,hr8,MM,vJ⟩;have ku:=St.lv jr vJ MM;have im:=ku.p3.drop;have Bf:=((As.gs im.g1)).len;have CT:=e.len;refine cw ?_;have Yf:=St.fresh im.p1;have jZ:=im.p1.eX (by omega);refine nx ?_;refine WP .r (PV.br (us:=((⟨0,[],[]⟩:cB).row none 0 0 none 0 0)) O7 rfl rfl rfl)<|nx ?_;have fw:=jZ.p1;refine(cJ) US (rY fw.e1 (by decide) (by decide)) ?_;rintro _ w4 ⟨ca1,cn1,cc1,iX,rfl,afL,Yg,sa⟩;have eC:=St.lr fw sa;have ab4:=((As.gs eC.g1)).len;have To:=St.fresh eC.p1;have eQ:=eC.p1.eX (by omega);have dG:=eQ;refine(cJ) UR (j4 (x:=⟨0,[],[]⟩) dG.e0 (Rd.nil _ _ _ _) (Rd.nil _ _ _ _) (As.gr dG.g0) J9 (hW.nil _) Yg (by omega)) ?_;rintro _ w5 ⟨x,b1,b2,m1,d1,m2,d2,er,Z4,rfl,a1,a2,a3,a4,a5,a6,a7,a8,a9,hyi,hyr,Ih,E0⟩;have dX:=St.lv dG E0 Ih;have dQ:=dX.fr (hyi);have gI:=dQ.fr (hyr);have f:LC aa x:=LC.nil aa x a1 a2 a3 a4 a5;have hxl:=f.lb.ok.sC;refine(gx) gI fun b5 w6 QF QG e4=>?_;refine(dZ) kW e4 fun w7 nT rH fh=>?_;refine fb ?_;have eD:=fh.p4;refine(cJ) UT (vW eD.e1 (As.gr eD.g5) (by omega) (by omega) (by decide) (by decide)) ?_;rintro _ w8 ⟨ga,G,gc,H,rfl,afO,hgo,j0⟩;have eU:=St.lr eD j0;have afP:=((As.gs eU.g1)).len;have Yh:=St.fresh eU.p1;have gY:=eU.p1.eX (by omega);have s:∀k∈H,dU aa k:=fun k hm=>(hgo k hm).yN e;refine(bP) cc gY.b2<|nx ?_;have u:=gY;refine(cJ) Lk (gZ (x:=x) (goals:=H) u.e0 (As.gf u.g7) (As.gr u.g6) (As.gr u.g4) (As.gr u.g3) (As.gr u.g0) e f s (by omega)) ?_;rintro _ w9 ⟨W,afQ,rs1,pC,qt,BM,j11,k11,X,k12,j13,k13,Z1x,rfl,O,afS,kx,Yi,MO,Yj,vK⟩;have P:=St.lv u vK Yj;obtain⟨Yk,hi1,CN,hw1,ab8⟩:=O.done e f s;have RM:=Yk.lb.ok.gO.len;have RM:W.ai.length≤4000:=RM;have HS:=Yk.lb.ok.sC;obtain⟨_,_,_,afT,_⟩:=O.ready e f s;have afU:=MO.length_eq;have afV:=((As.gs P.g0)).len;have afW:=((As.gs P.g1)).len;have afX:=((As.gs P.g2)).len;have Tp:=St.fresh P;have ic:=P.eX (by omega);have Tq:=St.fresh ic.p1;have eb:=ic.p1.eX (by omega);have Tr:=St.fresh eb.p2;have e7:=eb.p2.eX (by omega);refine(gx) e7 fun b8 lI Nr hb8 gS=>?_;refine(dZ) kW gS fun mH Bt wu j2=>?_;refine gW ?_;have oE:=j2.fV RR.key 43 2;refine kL ?_;refine WC.nf (σ:=Nat × (List Key) × (Nat→Prop) × (Option Addr) × Nat × Nat) (db:=fun(i,wl,J,b,a,c)=>[(4,.slice ra rn rc),(5,.pointer (some ⟨b5,0,none⟩)),(8,.pointer (some ⟨b8,0,none⟩)),(9,.slice BM j13 k13),(10,.int .i64 0),(11,.slice b a c),(50,.slice ga G gc),(51,.int .i64 (G:Int)),(52,.int .i64 (i:Int))]) (F:=fun(i,wl,J,b,a,c)=>[As.os RR.key 43 2 b a c (wl)]) (I:=fun(i,wl,J,b,a,c)=>(i≤G)∧(∀y,y∈wl↔aw y=false∧∃k∈H.take i,zq aa x.ab k y)∧(wl.length≤124*i)∧True) (μ:=fun(i,wl,J,b,a,c)=>G - i) (Zf:=fun(i,wl,J,b,a,c)=>J) (0,[],_,none,0,0) (oE) Sub.t (⟨Nat.zero_le _,fun y=>by simp,by simp,trivial⟩)<|?_;rintro⟨i,wl,J,b,a,c⟩ pS K ⟨hi,Q,hwn,_⟩;simp only [CA,NA] at K hi Q hwn ⊢;have afZ:=((As.gs K.g0)).len;refine(aX) (fun Yl=>?_) fun Yl=>?_
  ·
   simp at Yl
   have x5:i<H.length:=by omega
   have Ng:=List.getElem_mem x5;refine dp ?_;obtain⟨jj,sJ,sK,eB,ma,jB,iH,iI⟩:=Rd.at (As.gr K.g5) x5;have jB:=RR.bt jB;subst jB;have Y:=K.fg iI iH;refine nx ?_;refine WP .r (PV.dR ez eB rfl rfl (by omega))<|(bP) ak (As.nS Y.g0)<|(gx) Y fun NG rO H8 Ym R=>?_;refine(dZ) gk R fun x2 LS BR v=>?_;refine(bP) cc (bJ.range (As.gb v.g9))<|(bP) ak v.b0<|?_;have g:=v;refine(cJ) UU (tj (x:=x) (k:=H[i]) g.e0 (As.gf g.g14) (As.gr g.g13) (As.gr g.g11) (As.gr g.g10) e f.lb.ok.gz (s _ Ng) ((hgo _ Ng).right e)) ?_;rintro _ x3 ⟨la,ln,lc,L,Z9,rfl,hL1,V4,hZ9,Fv⟩;have m:=St.lv g Fv hZ9;have af1:=((As.gs m.g0)).len;have FL:=St.fresh m;have z:=m.eX (by omega);refine aT ?_;refine(aX) (fun g64=>?_) fun g64=>?_
   ·
    exact cL g64
   refine kL ?_;refine WC.bj (σ:=Nat × (List Key) × (Option Addr) × Nat × Nat) (db:=fun(j,w2,b,a,c)=>[(4,.slice ra rn rc),(5,.pointer (some ⟨b5,0,none⟩)),(8,.pointer (some ⟨b8,0,none⟩)),(9,.slice BM j13 k13),(10,.int .i64 0),(11,.slice b a c),(50,.slice ga G gc),(51,.int .i64 (G:Int)),(52,.int .i64 (i:Int)),(65,.slice la ln lc),(66,.int .i64 (ln:Int)),(67,.int .i64 (j:Int))]) (F:=fun(j,w2,b,a,c)=>[As.os RR.key 43 2 b a c (w2)]) (I:=fun(j,w2,b,a,c)=>(j≤ln)∧(w2=wl++(L.take j).filter (fun y=>!aw y))∧True) (μ:=fun(j,w2,b,a,c)=>ln - j) (0,wl,b,a,c) (z.p3) Sub.t (⟨Nat.zero_le _,by simp,trivial⟩)<|?_;rintro⟨j,w2,b,a,c⟩ vq p ⟨hj,C,_⟩;simp only [CA,NA] at p hj C ⊢;have aca:=((As.gs p.g0)).len
   have af2:w2.length≤wl.length+j:=by rw [C,List.length_append];have:=List.length_filter_le (fun y=>!aw y) (L.take j);have h9:=List.length_take_le j L;omega
   refine(aX) (fun Yn=>?_) fun Yn=>?_
   ·
    simp at Yn
    have Ak:j<L.length:=by omega
    refine dp ?_;obtain⟨rM,Fo,Fp,iJ,yk,lh,pz,nP⟩:=Rd.at (As.gr p.g1) Ak;have lh:=RR.bt lh;subst lh;have k7:=p.fg nP pz;refine nx ?_;refine WP .r (PV.dR ez iJ rfl rfl (by omega))<|(bP) ak (As.nS k7.g0)<|(gx) k7 fun XH Bu XI MH S=>?_;refine(dZ) gk S fun CL S6 S7 n=>?_;refine(bP) ak n.b0<|(eY) (dP (k:=L[j])) n fun Ff Wc D=>?_;refine(aX) (fun Ic=>?_) fun Ic=>?_
    ·
     have dw:aw L[j]=false:=by simpa using Ic
     refine(bP) ak D.b0<|?_;refine WL.go rfl (OX.aS (us:=L[j].cells) du rfl rfl rfl rfl fun b76 HT Yo Yp=>?_);have o:=D.df Yo Yp;refine WL.ap rfl rfl o.p3 (SR.dr (A:=fun _=>True) (x:=L[j]) (As.gb o.g0) trivial rfl (by simp [Key.cells,Value.oneCell']) rfl) fun a77 Yq Ji af3 af4 T=>?_;refine gW ?_;refine fx (j+1,w2++[L[j]],a77,(a+1),Yq) ⟨T.p1.drop.p1.drop.p1.drop,⟨by omega,by rw [pa Ak,if_pos (by rw [dw];rfl),← List.append_assoc,← C],trivial⟩⟩
    have dw:aw L[j]=true:=by simpa using Ic
    refine fb ?_;refine fx (j+1,w2,b,a,c) ⟨D.drop.drop,⟨by omega,by rw [pa Ak,if_neg (by rw [dw];simp),List.append_nil];exact C,trivial⟩⟩
   simp at Yn
   have C:w2=wl++L.filter (fun y=>!aw y):=by rw [C,List.take_of_length_le (by omega)]
   refine kL ?_;refine fx (i+1,w2,_,b,a,c) ⟨p.p1.drop.p1.drop.p1.drop,⟨by omega,fun y=>by rw [C];exact Eh x5 V4 Q y,by show w2.length≤124*(i+1);omega,trivial⟩⟩
  simp at Yl
  have Q:∀y,y∈wl↔aw y=false∧∃k∈H,zq aa x.ab k y:=fun y=>by rw [Q,List.take_of_length_le (by omega)]
  refine fb ?_;have vl:=G3 e f s O kx a1 MO;have SO:=Eg e f s O kx a1 MO Yi Q;have hsl:=lB wl;refine cw ?_;refine WL.ct (t:=82) rfl (fun g82=>?_) (fun g82=>?_)
  ·
   exact cL g82
  refine bM ?_;have Yr:=St.fresh K;have Y:=K.eX (by omega);have R:=Y;refine(cJ) Pk (nK R.e0 (As.gr R.g0) (fun _ h _=>h) (by omega)) ?_;rintro _ rO ⟨o1,o2,o3,rfl,Fu⟩;have v:=St.lr R Fu;refine(eY) (lj (As.gr v.g3) (Ow.rd (As.gs v.g0) (by omega)) SO) v fun x2 s14 g=>?_;refine(bp) kg g.b2<|cv ?_;refine WP .r ((PV.Jz rfl rfl).cast (v':=.bool false) (congrArg Value.bool (decide_eq_false fun h=>h (by omega))))<|cv ?_;refine WC.ef rfl<|(bp) kg g.b2<|dp ?_;refine WC.nf (σ:=Nat × (Nat→Prop)) (db:=fun(q,N)=>[(4,.slice ra rn rc),(5,.pointer (some ⟨b5,0,none⟩)),(98,.slice qt X k12),(99,.int .i64 (X:Int)),(100,.int .i64 (q:Int))]) (F:=fun(q,N)=>[]) (I:=fun(q,N)=>(q≤X)∧True) (μ:=fun(q,N)=>X - q) (Zf:=fun(q,N)=>N) (0,_) (g) Sub.t (⟨Nat.zero_le _,trivial⟩)<|?_;rintro⟨q,N⟩ x3 m ⟨hq,_⟩;simp only [CA,NA] at m hq ⊢;refine(aX) (fun RN=>?_) fun RN=>?_
  ·
   simp at RN
   have Ij:q<W.ai.length:=by omega
   have ND:=List.getElem_mem Ij;obtain⟨LV,RO⟩:=Co e Yk ND;obtain⟨v1e,v2e,v3e,v4e,v5e,v6e⟩:=G2 e f s O kx a1 ND;refine dp ?_;obtain⟨Fg,Ys,Yt,iG,RP,yF,FM,FN⟩:=Rd.at (As.gr m.g4) Ij;obtain⟨u1,u2,u3,rfl,S5,QH⟩:=yF;have z:=m.fg FN FM;have p:=z.fr S5;refine nx ?_;refine WP .r (PV.dR lM iG rfl rfl (by omega))<|(bP) fI (As.nS p.g1)<|(gx) p fun W7 vq Mq Rb k7=>?_;refine(dZ) mF k7 fun Bu ss4 SN S=>?_;refine(bP) cc (bJ.range (As.gb S.g11))<|(ko) ak S.b0<|?_;have n:=S;refine(cJ) UX (tb (x:=x) (k:=W.ai[q].key) n.e0 (As.gf n.g16) (As.gr n.g15) (As.gr n.g13) (As.gr n.g12) e f.lb.ok.gz LV RO) ?_;rintro _ CL ⟨rfl,RQ⟩;have D:=St.lr n RQ;refine(bP) cc (bJ.range (As.gb D.g11))<|(ko) ak D.b0<|?_;have o:=D;refine(cJ) UY (sj (x:=x) (k:=W.ai[q].key) o.e0 (As.gf o.g16) (As.gr o.g15) (As.gr o.g13) (As.gr o.g12) e f.lb.ok.gz LV RO) ?_;rintro _ Ff ⟨va,vn,vc,rfl,Fw⟩;have T:=St.lr o Fw;have hvn:=((As.gs T.g0)).len;have hvl:=qR (aD:=x.ab) e LV;have Yu:=St.fresh T;have U:=T.eX (by omega);refine(bp) ff U.b1<|nx ?_;refine WP .r ((PV.SC rfl rfl).cast (v':=.bool false) (congrArg Value.bool (decide_eq_false fun h=>h v1e)))<|(bp) fG U.b1<|(eY) (lj (As.gr U.g2) (As.gr U.g0) v2e) U fun HT X0 E=>?_;refine(bp) aP E.b1<|(bp) aP (bJ.range (As.gb E.g12))<|?_;refine WP .r ((PV.Jz rfl rfl).cast (v':=.bool false) (congrArg Value.bool (decide_eq_false fun h=>h v3e)))<|(bp) aP E.b1<|(bp) aP (bJ.range (As.gb E.g12))<|?_;refine WP .r ((PV.Jz rfl rfl).cast (v':=.bool false) (congrArg Value.bool (decide_eq_false fun h=>h v4e)))<|(bp) dd E.b1<|bM ?_;refine WL.ct (t:=149) rfl (fun RU=>?_) (fun RU=>?_)
   ·
    exact absurd RU (by rw [v6e];simp)
   skip
   refine(bp) aP E.b1<|cv ?_;refine WP .r ((PV.Jz rfl rfl).cast (v':=.bool false) (congrArg Value.bool (decide_eq_false fun h=>h (by rw [v5e];omega))))<|cv ?_;refine WC.ef rfl<|fb ?_;refine fx (q+1,_) ⟨E.drop.drop.drop.drop,⟨by omega,trivial⟩⟩
  skip
  refine(cJ) Pl (pj (As.gr m.g12)) ?_;rintro _ vq ⟨bv,rfl,hbv,QS⟩;have z:=m.step QS;obtain rfl:bv=true:=hbv.2 e;refine nx ?_;refine WL.go rfl (OX.call (xs:=[]) (args:=[]) cf6 rfl rfl ((mh (z.e0) (As.gf z.g13)).mono ?_));rintro _ _ ⟨_,rfl,Ye⟩;refine⟨_,rfl,?_⟩;refine(bB) ?_;exact⟨rfl,aQ.trans (St.cg z) (Ye.cq.cq (fun _ h=>by obtain⟨A,hA,_⟩:=h;cases hA))⟩
 -- kX eH agc C96 agd age agf agh agi G89
end Go.Rc

