/- Base of the proof: frames, memory, ownership, and the plain meaning of rule systems. Conditions: as each lemma says. -/
import Derived.Test.YtmpkegmkoclbhaaGreatDoorMBg
import Derived.Test.YtmpkegmkoclbhaaGreatDoorMBf
import Derived.Shelf.SlSortCmp.WholeK
set_option linter.all false
namespace Go.Rc
open Go
def fV(l:List br) (b:cm) (a:Key):Prop:=ay a=true∨(gi l a=true∧ax a=true)∨az b a=true
section
variable {x b b':cm}{l l' p q:List br}{f g:br}{k a:Key}
theorem gS:cM x l k=false↔ay k=true∨gi l k=true∨az x k=true:=by
 unfold cM az
 grind
theorem iC:bJ x l [] k=if (!ax k && gi l k)=true then 3 else if cM x l k=true then 1 else 0:=by grind [bJ,gi]
theorem pB(h1:bJ x l [] k≠1) (m:bJ x l [] k≠3):fV l x k:=by
 rw [iC] at h1 m
 by_cases j:(!ax k && gi l k)=true
 ·
  grind
 rw [if_neg j] at h1
 by_cases hn:cM x l k=true
 ·
  grind
 rcases gS.1 (by simpa using hn) with h | h | h
 ·
  exact .inl h
 ·
  exact .inr (.inl ⟨h,by rw [h] at j;simpa using j⟩)
 exact .inr (.inr h)
theorem uM(h:bJ x l [] k=1):gi l k=false∧ay k=false∧az x k=false:=by
 rw [iC] at h
 by_cases j:(!ax k && gi l k)=true
 ·
  rw [if_pos j] at h;cases h
 rw [if_neg j] at h
 by_cases hn:cM x l k=true
 ·
  have m:¬(ay k=true∨gi l k=true∨az x k=true):=fun h=>by grind [gS]
  grind
 rw [if_neg hn] at h;cases h
theorem Ew(h:bJ x l [] k=3):ax k=false∧gi l k=true:=by
 rw [iC] at h
 grind
theorem fJ:gi (p++q) k=(gi p k || gi q k):=by simp [gi]
theorem kK:gi [f] k=decide (f.key=k):=by simp [gi]
theorem Ex{z:br}{p1:List br}(h:p++[z]=p1++g::q):(q=[]∧p1=p∧g=z)∨∃j,q=j++[z]∧p=p1++g::j:=by
 rcases List.eq_nil_or_concat q with rfl | ⟨j,y,rfl⟩
 ·
  simp_all
 rw [List.concat_eq_append,← List.cons_append,← List.append_assoc] at h;obtain⟨h1,m⟩:=List.append_inj' h rfl
 grind
end
inductive FS (aa:List aG) (val:Key→ByteArray) (b:cm) (p:List br) (f:br):cm→List br→List Key→Int→Prop where
 | stay:FS aa val b p f b (p++[f]) [] 0
 | full:f.running=true→(aH aa f.key f.ae).done=true→(!(aA b.ah f.key).isSome && decide (4000≤b.ah.length))=true→FS aa val b p f b (p++[f]) [] 45
 | put:f.running=true→(aH aa f.key f.ae).done=true→FS aa val b p f {b with ah:=eh b.ah (bF b f.key (aH aa f.key f.ae).value f.reads)} p [f.key] 0
 | push:f.running=true→(aH aa f.key f.ae).done=false→bJ b (p++[f]) [] (aH aa f.key f.ae).ask=1→FS aa val b p f b (p++[f]++[⟨(aH aa f.key f.ae).ask,false,0,[],[]⟩]) [] 0
 | QM:f.running=true→(aH aa f.key f.ae).done=false→bJ b (p++[f]) [] (aH aa f.key f.ae).ask=3→FS aa val b p f b (p++[f]) [] 43
 | read:f.running=true→(aH aa f.key f.ae).done=false→bJ b (p++[f]) [] (aH aa f.key f.ae).ask≠1→bJ b (p++[f]) [] (aH aa f.key f.ae).ask≠3→
   FS aa val b p f b (p++[{f with reads:=f.reads++[(aH aa f.key f.ae).ask],ae:=f.ae++[bS val b (aH aa f.key f.ae).ask]}]) [] 0
 | up:f.running=false→az b f.key=true→FS aa val b p f b p [] 0
 | start:f.running=false→az b f.key=false→(aA b.ah f.key=none∨(aD b.ah f.key).bA=true)→FS aa val b p f b (p++[{f with running:=true,at_:=0}]) [] 0
 | mark:f.running=false→Live b.ah b.ad f.key→(bR b.ah (aB b.ah b.ad f.key)).length≤f.at_.toNat→FS aa val b p f (cH b (aB b.ah b.ad f.key) false) p [] 0
 | sK (c:ob):f.running=false→Live b.ah b.ad f.key→(bR b.ah (aB b.ah b.ad f.key))[f.at_.toNat]?=some c→bJ b (p++[f]) [] c.read=1→FS aa val b p f b (p++[f]++[⟨c.read,false,0,[],[]⟩]) [] 0
 | My (c:ob):f.running=false→Live b.ah b.ad f.key→(bR b.ah (aB b.ah b.ad f.key))[f.at_.toNat]?=some c→bJ b (p++[f]) [] c.read=3→FS aa val b p f b (p++[f]) [] 43
 | pass (c:ob):f.running=false→Live b.ah b.ad f.key→(bR b.ah (aB b.ah b.ad f.key))[f.at_.toNat]?=some c→bJ b (p++[f]) [] c.read≠1→bJ b (p++[f]) [] c.read≠3→
   aV val b c.read≤(aD b.ah c.dC).av→FS aa val b p f b (p++[{f with at_:=f.at_+1}]) [] 0
 | fail (c:ob):f.running=false→Live b.ah b.ad f.key→(bR b.ah (aB b.ah b.ad f.key))[f.at_.toNat]?=some c→bJ b (p++[f]) [] c.read≠1→bJ b (p++[f]) [] c.read≠3→
   (aD b.ah c.dC).av<aV val b c.read→FS aa val b p f (if ax f.key then cH b (aB b.ah b.ad f.key) true else b) (p++[{f with running:=true,at_:=0}]) [] 0
section
variable {aa:List aG}{H:Int→List cv}{b0 b b':cm}{p q l l':List br}{f g:br}{bj:List Key}
structure FI (aa:List aG) (H:Int→List cv) (b0 b:cm) (p:List br) (f:br):Prop where
 key:∃i:Nat,i<aa.length∧f.key=aL aa (i:Int)
 new:gi p f.key=false
 low:∀i j:Nat,i<aa.length→j<aa.length→f.key=aL aa (i:Int)→gi p (aL aa (j:Int))=true→Lw aa i (nz aa j)
 run:f.running=true→bU b.ah b.ad f.key=false∧az b f.key=false∧Gz (valOf aa b0.ab) b0 f.key∧(∀i:Nat,i<aa.length→f.key=aL aa (i:Int)→∃n,n≤cJ aa i∧f.reads=(dT (cx aa f.key) (valOf aa b0.ab) n).1∧f.ae=(dT (cx aa f.key) (valOf aa b0.ab) n).2)∧∀a∈f.reads,fV (p++[f]) b a
 Bz:f.running=false→f.reads=[]∧f.ae=[]∧0≤f.at_∧(Live b.ah b.ad f.key→∀j c,j<f.at_.toNat→(bR b.ah (aB b.ah b.ad f.key))[j]?=some c→valOf aa (H (aD b.ah c.dC).av) c.read=valOf aa b0.ab c.read∧fV (p++[f]) b c.read∧aV (valOf aa b0.ab) b0 c.read≤(aD b.ah c.dC).av)
structure TI (aa:List aG) (H:Int→List cv) (b0 b:cm) (l:List br) (bj:List Key):Prop where
 bi:Bi aa H (fun y=>gi l y && ax y) b
 wy:Wy aa b0 ⟨b,[],bj,0⟩
 fr:∀p f q,l=p++f::q→FI aa H b0 b p f
 nr:∀f∈l,f.key∉bj∧az b0 f.key=false
theorem fV.jx{N:Key→Prop}{a:Key}(h:fV l b a) (j:iU (valOf aa b0.ab) N bj b.ad b.ah b'.ah) (hr:b'.ad=b.ad):fV l b' a:=
 h.imp id (Or.imp id (j.az hr))
theorem fV.mono{a:Key}(h:fV l b a) (j:∀k,gi l k=true→gi l' k=true):fV l' b a:=h.imp id (Or.imp (fun⟨x,y⟩=>⟨j _ x,y⟩) id)
theorem FI.jx{N:Key→Prop}(h:FI aa H b0 b p g) (m:iU (valOf aa b0.ab) N bj b.ad b.ah b'.ah) (hr:b'.ad=b.ad) (C:¬N g.key):FI aa H b0 b' p g:=by
 refine⟨h.key,h.new,h.low,fun o=>?_,fun o=>?_⟩
 ·
  obtain⟨h1,B,t,u,D⟩:=h.run o
  have I:aA b'.ah g.key=aA b.ah g.key:=by
   rcases m.pt g.key with e | ⟨e0,r,e1,e2,e3,_⟩ | ⟨⟨_,e0⟩,_⟩
   ·
    exact e
   ·
    grind [bK]
   exact absurd e0 C
  refine⟨?_,?_,t,u,fun a F=>(D a F).jx m hr⟩
  ·
   grind [bU,aD]
  grind [az,aD]
 obtain⟨h1,B,t,u⟩:=h.Bz o;refine⟨h1,B,t,fun hl j c G hc=>?_⟩;rw [hr] at hl hc;rw [m.JG hl] at hc;obtain⟨p1,p2,p3⟩:=u (m.OK hl) j c G hc;have hm:=(dr.1 (List.mem_of_getElem? hc)).1
 have e:aD b'.ah c.dC=aD b.ah c.dC:=by
  unfold aD
  rw [(m.group hl).2 _ hm]
 rw [e];exact⟨p1,p2.jx m hr,p3⟩
theorem TI.top(h:TI aa H b0 b (p++[f]) bj):FI aa H b0 b p f:=h.fr p f [] rfl
theorem TI.under(h:TI aa H b0 b (p++[f]) bj) {p1:List br}(j:p=p1++g::q):FI aa H b0 b p1 g∧g.key≠f.key:=by
 refine⟨h.fr p1 g (q++[f]) (by rw [j];simp),fun e=>?_⟩;have h1:=h.top.new
 grind [gi]
theorem TI.snoc(h:∀p1 g q,p=p1++g::q→FI aa H b0 b p1 g) (j:FI aa H b0 b p f):∀p1 g q,p++[f]=p1++g::q→FI aa H b0 b p1 g:=fun p1 g q m=>by grind [Ex]
theorem mb(N:aq aa) {rk:List Key}{er:Int}(h:TI aa H b0 b (p++[f]) bj) (U:Good aa b0.ab ⟨b,[],[],0⟩) (hs:FS aa (valOf aa b0.ab) b p f b' l' rk er):er=0∧TI aa H b0 b' l' (bj++rk):=by
 have Hm:=N.len;have F:=h.bi;have o:=h.wy;have Wb:b.ad=b0.ad:=o.rev;have eQ:b.ab=b0.ab:=o.aC;have hT:=h.top;obtain⟨i,hi,B⟩:=hT.key
 have wA:ay f.key=false:=by grind [dj]
 have hor:∀j:Nat,j<aa.length→gi (p++[f]) (aL aa (j:Int))=true→j=i∨Lw aa i (nz aa j):=fun j t O=>by
  rw [fJ,kK] at O;simp only [Bool.or_eq_true,decide_eq_true_eq] at O
  rcases O with O | O
  ·
   exact .inr (hT.low i j hi t B O)
  grind [dY]
 have QZ:∀{b2:cm}{C:List Key},iU (valOf aa b0.ab) (fun y=>y=f.key) C b.ad b.ah b2.ah→(∀y∈bj,y∈C)→b2.ad=b.ad→b2.ab=b.ab→(∀y r,aA b2.ah y=some r→r.bA=true→(aD b0.ah y).bA=true∨Mx (valOf aa b0.ab) b0 y)→(∀y∈C,Gz (valOf aa b0.ab) b0 y)→(∀y∈C,y∈bj∨az b2 y=true)→(∀y,az b y=false→az b2 y=true→y∈C∨¬Mx (valOf aa b0.ab) b0 y)→C.Nodup→Wy aa b0 ⟨b2,[],C,0⟩:=fun G Ey h1 u Q I h5 h6 h7=>
  o.step h1 u (by rw [← Wb];exact G.mono (fun _ h=>h) fun _ _=>trivial) Ey Q I h5 h6 h7
 -- a frame is acP
 have Wc:∀a,dX aa a→bJ b (p++[f]) [] a=1→(∀m:Nat,m<aa.length→a=aL aa (m:Int)→∀j:Nat,j<aa.length→gi (p++[f]) (aL aa (j:Int))=true→Lw aa m (nz aa j))→TI aa H b0 b (p++[f]++[⟨a,false,0,[],[]⟩]) bj:=fun a IC hl B3=>by
  obtain⟨h1,u,Q⟩:=uM hl;obtain⟨m,hm,ham,_⟩:=IC.gL u;refine⟨F.Mw fun y hy=>?_,o,TI.snoc h.fr ⟨⟨m,hm,ham⟩,h1,fun m' j hm' t e O=>B3 m' hm' e j t O,(fun hc=>by cases hc),fun _=>⟨rfl,rfl,Int.le_refl _,fun _ j c t=>by simp at t⟩⟩,fun g U=>?_⟩
  rotate_left
  ·
   rcases List.mem_append.1 U with U | U
   ·
    exact h.nr g U
   rw [List.mem_singleton] at U;subst U;refine⟨fun hr=>?_,o.uI Q⟩
   have:=o.Lz a hr
   grind
  rw [Bool.and_eq_true] at hy ⊢;rw [fJ,hy.1];exact⟨rfl,hy.2⟩
 -- the last frame is abe one of the same key
 have uL:∀{g:br}{b2:cm}{C:List Key},g.key=f.key→Bi aa H (fun y=>gi (p++[f]) y && ax y) b2→Wy aa b0 ⟨b2,[],C,0⟩→iU (valOf aa b0.ab) (fun y=>y=f.key) C b.ad b.ah b2.ah→b2.ad=b.ad→(∀y∈C,y∈bj)→FI aa H b0 b2 p g→TI aa H b0 b2 (p++[g]) C:=fun {g b2 C} hk S Wd G hr Ey hF=>by
  refine⟨?_,Wd,TI.snoc (fun p1 g q hp=>?_) hF,fun q V=>?_⟩
  ·
   have e:(fun y=>gi (p++[g]) y && ax y)=fun y=>gi (p++[f]) y && ax y:=by
    funext y
    grind [fJ,kK]
   rw [e];exact S
  ·
   obtain⟨h1,u⟩:=h.under hp;exact h1.jx G hr u
  rcases List.mem_append.1 V with V | V
  ·
   have:=h.nr q (List.mem_append_left _ V)
   grind
  rw [List.mem_singleton] at V;subst V
  have:=h.nr f (by simp)
  grind
 have Mz:∀{g:br},g.key=f.key→∀k,gi (p++[f]) k=true→gi (p++[g]) k=true:=fun hk k DA=>by grind [fJ,kK]
 -- the last frame is done
 have Q0:∀{b2:cm}{C:List Key},Bi aa H (fun y=>gi (p++[f]) y && ax y) b2→az b2 f.key=true→Wy aa b0 ⟨b2,[],C,0⟩→iU (valOf aa b0.ab) (fun y=>y=f.key) C b.ad b.ah b2.ah→b2.ad=b.ad→(∀y∈C,y∈bj∨y=f.key)→TI aa H b0 b2 p C:=fun {b2 C} S hu Wd G hr Ey=>by
  refine⟨S.off hu fun y hy=>?_,Wd,fun p1 g q hp=>?_,fun g U=>?_⟩
  ·
   rw [Bool.and_eq_true,fJ,kK] at hy
   grind
  ·
   obtain⟨h1,u⟩:=h.under hp;exact h1.jx G hr u
  have h1:=h.nr g (List.mem_append_left _ U);refine⟨fun Q=>?_,h1.2⟩
  rcases Ey _ Q with I | I
  ·
   exact h1.1 I
  obtain⟨p1,q1,hp⟩:=List.append_of_mem U;exact(h.under hp).2 I
 have JL:∀n,f.ae=(dT (cx aa f.key) (valOf aa b0.ab) n).2→aH aa f.key f.ae=cx aa (aL aa (i:Int)) (tu aa b0.ab i n):=fun n hn=>by
  rw [hn,B,dU hi (by omega)]
  rfl
 have acQ:∀{y},gi (p++[f]) y=true→∃j:Nat,j<aa.length∧y=aL aa (j:Int):=fun {y} hy=>by
  rw [fJ,kK] at hy;simp only [Bool.or_eq_true,decide_eq_true_eq] at hy
  rcases hy with hy | hy
  ·
   unfold gi at hy
   obtain⟨g,hgm,DB⟩:=List.any_eq_true.1 hy;obtain⟨p1,q1,hp⟩:=List.append_of_mem hgm;obtain⟨j,t,e⟩:=(h.under hp).1.key
   grind
  grind
 have am0:∀a,(∀m:Nat,m<aa.length→a=aL aa (m:Int)→∀j:Nat,j<aa.length→gi (p++[f]) (aL aa (j:Int))=true→Lw aa m (nz aa j))→bJ b (p++[f]) [] a≠3:=fun a B3 hl=>by
  obtain⟨h1,u⟩:=Ew hl;obtain⟨j,t,rfl⟩:=acQ u;have Q:=B3 j t rfl j t u
  grind [bd,Lw,nz]
 have We:∀n,n<cJ aa i→∀m:Nat,m<aa.length→ko aa b0.ab i n=aL aa (m:Int)→∀j:Nat,j<aa.length→gi (p++[f]) (aL aa (j:Int))=true→Lw aa m (nz aa j):=fun n hn m hm e j t O=>by
  obtain⟨h1,u⟩:=(oi N hi (List.mem_of_getElem? (fI (aC:=b0.ab) hn))).2 m hm e
  grind
 have ajP:Live b.ah b.ad f.key→∀c∈bR b.ah (aB b.ah b.ad f.key),dX aa c.read∧∀m:Nat,m<aa.length→c.read=aL aa (m:Int)→∀j:Nat,j<aa.length→gi (p++[f]) (aL aa (j:Int))=true→Lw aa m (nz aa j):=fun hl c hc=>by
  obtain⟨hm,D,OQ⟩:=dr.1 hc;obtain⟨j,t,ej⟩:=F.key (jX hl hm);obtain⟨rm,g1,g2,g3⟩:=jX hl hm;have h1:=(F.c.vr rm (aJ g1).1).2;rw [(aJ g1).2,ej,fG N t] at h1;rw [aQ g1,h1] at D;have B3:=oi N t D;refine⟨B3.1.Ix N,fun m AQ e q V O=>?_⟩;obtain⟨I,h5⟩:=B3.2 m AQ e;rw [B] at hl hm;obtain⟨g4,g5⟩:=GB N F hi t hl (ej ▸ hm)
  grind
 have Wa:∀{a},fV (p++[f]) b a→ay a=true∨((gi (p++[f]) a && ax a)=true∧ax a=true)∨az b a=true:=fun {a} h=>h.imp id (Or.imp (fun⟨x,y⟩=>⟨by rw [x,y];rfl,y⟩) id)
 have Ez:∀{b2:cm},f.running=false→Bi aa H (fun y=>gi (p++[f]) y && ax y) b2→Wy aa b0 ⟨b2,[],bj,0⟩→iU (valOf aa b0.ab) (fun y=>y=f.key) bj b.ad b.ah b2.ah→b2.ad=b.ad→bU b2.ah b2.ad f.key=false→az b2 f.key=false→Gz (valOf aa b0.ab) b0 f.key→TI aa H b0 b2 (p++[{f with running:=true,at_:=0}]) bj:=fun {b2} hr S Wd G acR O hu hw=>by
  obtain⟨c1,c2,_,_⟩:=hT.Bz hr;refine uL (g:={f with running:=true,at_:=0}) rfl S Wd G acR (fun _ h=>h) ⟨⟨i,hi,B⟩,hT.new,hT.low,fun _=>⟨O,hu,hw,fun j t e=>⟨0,Nat.zero_le _,c1,c2⟩,fun a D=>?_⟩,fun hc=>by cases hc⟩
  grind
 have B4:Live b.ah b.ad f.key→az b f.key=false:=fun⟨r,h1,_,u⟩=>ji h1 u
 cases hs with
 | stay=>grind
 | full hr J hn=>
  have:=F.len
  simp at hn
  omega
 | put hr J=>
  obtain⟨h1,u,Q,I,h5⟩:=hT.run hr;obtain⟨n,hn,AR,Q1⟩:=I i hi B;have ht:=JL n Q1
  have hnq:n=cJ aa i:=by grind [Gw]
  rw [hnq,Gx N hi] at ht
  have Q3:f.reads=cG aa b0.ab i:=by
   rw [AR,hnq,B]
   rfl
  have hm:bF b f.key (aH aa f.key f.ae).value f.reads=bF b (aL aa (i:Int)) (valOf aa b0.ab (aL aa (i:Int))) (cG aa b0.ab i):=by rw [ht,Q3,B]
  rw [hm];have S:=F.put N hi (fun hc=>by grind [fJ,kK]) (by grind);rw [eQ] at S
  have S:Bi aa H (fun y=>gi (p++[f]) y && ax y) ⟨b.ad,b.ab,eh b.ah (bF b (aL aa (i:Int)) (valOf aa b0.ab (aL aa (i:Int))) (cG aa b0.ab i))⟩:=by rw [eQ];exact S
  have G:iU (valOf aa b0.ab) (fun y=>y=f.key) (bj++[f.key]) b.ad b.ah (eh b.ah (bF b (aL aa (i:Int)) (valOf aa b0.ab (aL aa (i:Int))) (cG aa b0.ab i))):=by
   rw [B] at h1 u;refine iU.put h1 (fun r hr=>?_) ⟨by simp [bF,B],B.symm⟩ rfl rfl rfl (fun r hr=>?_) fun hn=>?_
   ·
    have h1:=(F.c.Ep r (aJ hr).1).1
    have h6:r.av≠b.ad:=fun e=>by
     have:az b (aL aa (i:Int))=true:=aR.2 ⟨r,hr,e⟩
     grind
    omega
   ·
    have JK:aA b.ah (aL aa (i:Int))=some r:=hr
    unfold bF
    simp only [JK,aQ JK]
    grind
   grind [bF]
  have pC:az {b with ah:=eh b.ah (bF b (aL aa (i:Int)) (valOf aa b0.ab (aL aa (i:Int))) (cG aa b0.ab i))} f.key=true:=by
   rw [B];exact jg (r:=bF b (aL aa (i:Int)) (valOf aa b0.ab (aL aa (i:Int))) (cG aa b0.ab i)) rfl
  refine⟨rfl,Q0 S pC (QZ G (fun y hy=>by simp [hy]) rfl rfl (fun y r W J=>?_) (fun y hy=>?_) (fun y hy=>?_) (fun y hu Et=>?_) (xV o.j5 fun hr=>by have:=o.Lz _ hr;rw [u] at this;cases this)) G rfl fun y hy=>by simpa using hy⟩
  ·
   have Y:aA (eh b.ah (bF b (aL aa (i:Int)) (valOf aa b0.ab (aL aa (i:Int))) (cG aa b0.ab i))) y=some r:=W;rw [cN] at Y
   split at Y
   ·
    have:=Option.some.inj Y
    subst this
    cases J
   exact o.Ly y r Y J
  ·
   rcases List.mem_append.1 hy with hy | hy
   ·
    exact o.bj y hy
   grind
  ·
   grind
  refine .inl ?_
  by_cases e:y=f.key
  ·
   rw [e]
   simp
  obtain⟨r,hr,hv⟩:=aR.1 Et;have JK:aA (eh b.ah (bF b (aL aa (i:Int)) (valOf aa b0.ab (aL aa (i:Int))) (cG aa b0.ab i))) y=some r:=hr;rw [cN,if_neg (show ¬y=(bF b (aL aa (i:Int)) (valOf aa b0.ab (aL aa (i:Int))) (cG aa b0.ab i)).key from fun h=>e (h.trans B.symm))] at JK
  grind [aR]
 | push hr J hl=>
  obtain⟨h1,u,Q,I,h5⟩:=hT.run hr;obtain⟨n,hn,AR,Q1⟩:=I i hi B;have ht:=JL n Q1
  have X:n<cJ aa i:=by grind [Gx]
  rw [Gw N hi X] at ht;rw [ht] at hl ⊢;rw [List.append_nil];exact⟨rfl,Wc _ (B1 N hi X) hl (We n X)⟩
 | QM hr J hl=>
  obtain⟨h1,u,Q,I,h5⟩:=hT.run hr;obtain⟨n,hn,AR,Q1⟩:=I i hi B
  grind [Gx,Gw]
 | read hr J DC uN=>
  obtain⟨h1,u,Q,I,h5⟩:=hT.run hr;obtain⟨n,hn,AR,Q1⟩:=I i hi B;have ht:=JL n Q1
  have X:n<cJ aa i:=by grind [Gx]
  rw [Gw N hi X] at ht;rw [ht] at DC uN ⊢;rw [List.append_nil];have Ml:=pB DC uN
  have QY:bS (valOf aa b0.ab) b (ko aa b0.ab i n)=valOf aa b0.ab (ko aa b0.ab i n):=by
   rw [← eQ];refine F.answer (by grind [B1]) ?_
   grind
  refine⟨rfl,uL (g:={f with reads:=f.reads++[ko aa b0.ab i n],ae:=f.ae++[bS (valOf aa b0.ab) b (ko aa b0.ab i n)]}) rfl F o (.refl _) rfl (fun _ h=>h) ⟨⟨i,hi,B⟩,hT.new,hT.low,fun _=>⟨h1,u,Q,fun j t e=>?_,fun a D=>?_⟩,fun hc=>?_⟩⟩
  ·
   have:=dY N t hi (e.symm.trans B)
   subst this;refine⟨n+1,X,?_,?_⟩
   ·
    show f.reads++[ko aa b0.ab j n]=_
    rw [AR,B]
    rfl
   show f.ae++[bS (valOf aa b0.ab) b (ko aa b0.ab j n)]=_
   rw [QY,Q1,B]
   rfl
  ·
   rcases List.mem_append.1 D with D | D
   ·
    exact(h5 a D).mono (Mz rfl)
   rw [List.mem_singleton] at D;rw [D];exact Ml.mono (Mz rfl)
  grind
 | up hr hu=>
  rw [List.append_nil];exact⟨rfl,Q0 F hu o (.refl _) rfl fun _ h=>.inl h⟩
 | start hr hu hx=>
  rw [List.append_nil];refine⟨rfl,Ez hr F o (.refl _) rfl ?_ hu ⟨wA,o.uI hu,?_⟩⟩
  ·
   rw [Bool.eq_false_iff]
   grind [bK,aQ]
  cases W:aA b.ah f.key with
  | none=>exact .inl (o.none W)
  | some r=>
   refine .inr ?_
   rcases hx with hx | hx
   ·
    rw [W] at hx
    cases hx
   rw [aQ W] at hx;exact o.Ly _ r W hx
 | mark hr hl hn=>
  obtain⟨c1,c2,c3,c4⟩:=hT.Bz hr;have c4:=c4 hl;have G:iU (valOf aa b0.ab) (fun y=>y=f.key) bj b.ad b.ah (cH b (aB b.ah b.ad f.key) false).ah:=iU.mark hl false (.inr rfl)
  have S:=F.mark N hl fun m hm a D OQ=>by
   have rI:(⟨m,a⟩:ob)∈bR b.ah (aB b.ah b.ad f.key):=dr.2 ⟨hm,D,OQ⟩;obtain⟨j,t⟩:=List.mem_iff_getElem?.1 rI;have h1:=(List.getElem?_eq_some_iff.1 t).1;obtain⟨u,Q,_⟩:=c4 j ⟨m,a⟩ (by omega) t
   grind
  have yG:=o.OM hl fun m hm a D OQ=>by
   have rI:(⟨m,a⟩:ob)∈bR b.ah (aB b.ah b.ad f.key):=dr.2 ⟨hm,D,OQ⟩;obtain⟨j,t⟩:=List.mem_iff_getElem?.1 rI
   grind
  rw [List.append_nil];refine⟨rfl,Q0 S ?_ (QZ G (fun _ h=>h) rfl rfl (fun y r' W J=>?_) o.bj (fun _ h=>.inl h) (fun y hu Et=>.inr (yG y (GA hu Et))) o.j5) G rfl fun _ h=>.inl h⟩
  ·
   obtain⟨r,h1,_⟩:=hl
   grind [gZ,fq]
  have Y:(aA b.ah y).map (a7 b.ad (aB b.ah b.ad f.key) false)=some r':=bY.symm.trans W;obtain⟨r,hr,rfl⟩:=Option.map_eq_some_iff.1 Y;rw [sJ] at J;exact o.Ly y r hr J
 | sK c hr hl hc hk=>grind
 | My c hr hl hc hk=>grind
 | pass c hr hl hc B5 ID hle=>
  obtain⟨c1,c2,c3,c4⟩:=hT.Bz hr;have Ml:=pB B5 ID;rw [List.append_nil];refine⟨rfl,uL (g:={f with at_:=f.at_+1}) rfl F o (.refl _) rfl (fun _ h=>h) ⟨⟨i,hi,B⟩,hT.new,hT.low,fun hc=>?_,fun _=>⟨c1,c2,by show 0≤f.at_+1;omega,fun _ j c' t hcj=>?_⟩⟩⟩
  ·
   grind
  have hj':j<f.at_.toNat+1:=by grind
  rcases Nat.lt_or_ge j f.at_.toNat with X | IA
  ·
   obtain⟨p1,p2,p3⟩:=c4 hl j c' X hcj;exact⟨p1,p2.mono (Mz rfl),p3⟩
  have e:j=f.at_.toNat:=by omega
  subst e;have Wf:(bR b.ah (aB b.ah b.ad f.key))[f.at_.toNat]?=some c':=hcj;rw [hc] at Wf
  have:=Option.some.inj Wf
  subst this;refine⟨?_,Ml.mono (Mz rfl),by rw [← o.changed F c.read];exact hle⟩;obtain⟨hm,D,OQ⟩:=dr.1 (List.mem_of_getElem? hc);obtain⟨rm,g1,g2,g3⟩:=jX hl hm;rw [aQ g1] at hle D ⊢;have h1:=F.c.changed (aJ g1).1 g3 D (by rw [eQ];exact hle);rw [eQ] at h1;exact h1
 | fail c hr hl hc B5 ID X=>
  obtain⟨hm,D,OQ⟩:=dr.1 (List.mem_of_getElem? hc);have JI:=o.QV F hl hm D OQ X;have Eu:Gz (valOf aa b0.ab) b0 f.key:=⟨wA,o.uI (B4 hl),.inr (.inr (JI _ fq))⟩;rw [List.append_nil]
  cases JJ:ax f.key with
  | false=>
   simp only [Bool.false_eq_true,if_false];refine⟨trivial,Ez hr F o (.refl _) rfl ?_ (B4 hl) Eu⟩;rw [Bool.eq_false_iff]
   grind [bK]
  | true=>
   simp only [if_true];have G:iU (valOf aa b0.ab) (fun y=>y=f.key) bj b.ad b.ah (cH b (aB b.ah b.ad f.key) true).ah:=iU.mark hl true (.inl JJ);obtain⟨r,f1,f2,f3⟩:=id hl
   have hfk:aA (cH b (aB b.ah b.ad f.key) true).ah f.key=some {r with bA:=true}:=by
    refine bY.trans ?_;rw [f1]
    show some (a7 _ _ _ r)=_
    unfold a7
    rw [if_pos (by rw [(aJ f1).2];exact fq)]
    rfl
   refine⟨trivial,Ez hr (F.bA fun m hm=>jX hl hm) (QZ G (fun _ h=>h) rfl rfl (fun y r' W J=>?_) o.bj (fun _ h=>.inl h) (fun y hu Et=>by grind [lM]) o.j5) G rfl ?_ (ji hfk f3) Eu⟩
   ·
    have Y:(aA b.ah y).map (a7 b.ad (aB b.ah b.ad f.key) true)=some r':=bY.symm.trans W;obtain⟨q,V,rfl⟩:=Option.map_eq_some_iff.1 Y
    by_cases hy:y∈aB b.ah b.ad f.key
    ·
     exact .inr (JI y hy)
    unfold a7 at J
    rw [if_neg (by rw [(aJ V).2];exact hy)] at J;exact o.Ly y q V J
   rw [Bool.eq_false_iff]
   grind [bK]
end
end Go.Rc

namespace Go.Rc
open Go
theorem As.exc{A:As}{Z:Nat→Prop}{w w':World}(h:A.ok Z w) (c:aS [] w w'):A.ok Z w':=A.st c.size (fun x _ j=>c.block x j (by simp)) h
theorem B6{k:Key}(h:cZ k):ax k=decide (k.kind=32):=by
 have e:(decide (1≤k.kind) && decide (k.kind≤22))=false:=by
  rcases h with h | h
  ·
   grind
  grind
 unfold ax
 grind
/-! ### records in blocks -/
structure RL where
 b:Nat
 a:Option Addr
 n:Nat
 c:Nat
def WD.wc(D:WD) (v:Nat) (rev:Int) (ra:Option Addr) (rn rc:Nat):List Value:=
 [.slice D.ar D.r D.cr,.int .i64 rev,.slice D.a1 D.n1 D.c1,.slice D.a2 D.n2 D.c2,.map (some D.m),.pointer (some ⟨v,0,none⟩),.slice ra rn rc]
def As.gy(RT:Nat) (lf:Key→RL) (l:List Rec):As where
 fp x:=∃k r,aA l k=some r∧x=(lf k).b
 ok Z w:=(∀k r,aA l k=some r→bT w (lf k).b RT (r.row (lf k).a (lf k).n (lf k).c)∧Rd RR.key 2 Z w (lf k).a (lf k).n (lf k).c r.reads∧r.reads.length≤4000)∧∀k k' r r',aA l k=some r→aA l k'=some r'→(lf k).b=(lf k').b→k=k'
 lt h x hx:=by
  obtain⟨k,r,hk,rfl⟩:=hx;exact(h.1 k r hk).1.lt
 mono hZ h:=⟨fun k r hk=>by
  obtain⟨hb,hr,h4⟩:=h.1 k r hk;exact⟨hb,hr.mono hZ,h4⟩,h.2⟩
 st hs hc h:=⟨fun k r hk=>by
  obtain⟨hb,hr,h4⟩:=h.1 k r hk;exact⟨(As.blk (lf k).b RT (r.row (lf k).a (lf k).n (lf k).c)).st (Z:=fun _=>False) hs (fun x hx hl=>hc x (.inl ⟨k,r,hk,by rcases hx with hx | hx;exact hx;exact hx.elim⟩) hl) hb,hr.st hs (fun x hx=>hc x (.inr hx)),h4⟩,h.2⟩
theorem As.sL{RT:Nat}{lf:Key→RL}{l:List Rec}{Z:Nat→Prop}{w:World}(h:(As.gy RT lf l).ok Z w):(As.gy RT lf l).ok Z w:=h
def dw(l:List Rec) (lf:Key→RL) (ml:List (Key × Value)):Prop:=∀k,bD ml k=(aA l k).map fun _=>Value.pointer (some ⟨(lf k).b,0,none⟩)
theorem dw.nil(lf:Key→RL):dw [] lf []:=fun _=>rfl
theorem dw.no{l:List Rec}{lf:Key→RL}{ml:List (Key × Value)}{k:Key}(h:dw l lf ml) (j:aA l k=none):(bD ml k).getD (.pointer none)=.pointer none:=by rw [h k,j];rfl
theorem dw.yes{l:List Rec}{lf:Key→RL}{ml:List (Key × Value)}{k:Key}{r:Rec}(h:dw l lf ml) (j:aA l k=some r):bD ml k=some (.pointer (some ⟨(lf k).b,0,none⟩)):=by rw [h k,j];rfl
def wI(lf:Key→RL) (k:Key) (q:RL):Key→RL:=fun y=>if y=k then q else lf y
theorem lN{lf:Key→RL}{k:Key}{q:RL}:wI lf k q k=q:=if_pos rfl
theorem mc{lf:Key→RL}{k y:Key}{q:RL}(h:¬y=k):wI lf k q y=lf y:=if_neg h
theorem dw.put{l l':List Rec}{lf:Key→RL}{ml:List (Key × Value)}{r:Rec}{q:RL}(h:dw l lf ml) (hl:∀y,aA l' y=if y=r.key then some r else aA l y):dw l' (wI lf r.key q) (cL ml r.key (.pointer (some ⟨q.b,0,none⟩))):=fun k=>by
 rw [ef,hl k]
 by_cases e:k=r.key
 ·
  subst e;rw [if_pos rfl,if_pos rfl,lN]
  rfl
 rw [if_neg fun h=>e h.symm,if_neg e,mc e,h k]
section
variable {RT:Nat}{q:RL}{lf:Key→RL}{l l':List Rec}{r:Rec}{w0 w:World}{M Z:Nat→Prop}{L:List As}
theorem St.acT(h:St w0 M Z w L) (RT:Nat) (lf:Key→RL):St w0 M Z w (As.gy RT lf []::L):=h.fact (B:=As.gy RT lf []) ⟨fun k r hk=>(by cases hk),fun k k' r r' hk=>(by cases hk)⟩ fun x j=>by obtain⟨k,r,hk,_⟩:=j;cases hk
theorem St.yZ(h:St w0 M Z w (As.blk q.b RT (r.row q.a q.n q.c)::As.gy RT lf l::L)) (hr:Rd RR.key 2 Z w q.a q.n q.c r.reads) (u:r.reads.length≤4000) (hl:∀y,aA l' y=if y=r.key then some r else aA l y):St w0 M Z w (As.gy RT (wI lf r.key q) l'::L):=by
 have B:bT w q.b RT (r.row q.a q.n q.c):=h.g0;have m:(As.gy RT lf l).ok Z w:=h.g1;have o:∀k r',aA l k=some r'→q.b≠(lf k).b:=fun k r' hk e=>(List.pairwise_cons.1 h.ry).1 (As.gy RT lf l) M0 q.b rfl ⟨k,r',hk,e⟩;refine h.join (C:=As.gy RT (wI lf r.key q) l') ⟨fun k r' hk=>?_,fun k k' r1 r2 h1 j e=>?_⟩ fun x t=>?_
 ·
  rw [hl k] at hk
  by_cases e:k=r.key
  ·
   rw [if_pos e] at hk
   grind [lN]
  rw [if_neg e] at hk;rw [mc e];exact m.1 k r' hk
 ·
  rw [hl k] at h1;rw [hl k'] at j
  by_cases e1:k=r.key
  ·
   by_cases e2:k'=r.key
   ·
    rw [e1,e2]
   rw [if_neg e2] at j
   grind [lN,mc]
  rw [if_neg e1] at h1
  by_cases e2:k'=r.key
  ·
   rw [mc e1,e2,lN] at e;exact absurd e.symm (o k _ h1)
  rw [if_neg e2] at j;rw [mc e1,mc e2] at e;exact m.2 k k' _ _ h1 j e
 obtain⟨k,r',hk,rfl⟩:=t;rw [hl k] at hk
 by_cases e:k=r.key
 ·
  rw [e,lN];exact .inl rfl
 rw [if_neg e] at hk;rw [mc e];exact .inr ⟨k,r',hk,rfl⟩
theorem Ow.z{α:Type}{f:α→List Value}{E k n c:Nat}{a:Option Addr}{xs:List α}{Z':Nat→Prop}(h:Ow (RR.flat f) E k Z' w a n c xs):Ow (RR.flat f) E k Z w a n c xs:=by
 obtain⟨hn,rows,hl,hk,h1,j⟩:=h;exact⟨hn,rows,hl,hk,h1,j⟩
theorem St.unz{A:As}{Z':Nat→Prop}(h:St w0 M Z' w [A]) (m:∀x,Z x→Z' x) (u:A.ok Z w):St w0 M Z w [A]:=
 ⟨h.bV,fun x j=>h.jK x (m x j),fun B o x j t=>h.l4 B o x j (m x t),h.mQ,h.ry,fun B o=>by grind⟩
end
theorem EB{l:List Rec}{r:Rec}(h:∀x∈l,x.key≠r.key) (y:Key):aA (l++[r]) y=if y=r.key then some r else aA l y:=by
 unfold aA
 grind
/-! ### entries of maps that are changed in place -/
section
variable {κ:Type} [DecidableEq κ] {enc:κ→Value}{P:Program}{kt:TypeId}{w w':World}{b:Nat}{l:List (κ × Value)}
def Q4{κ:Type}(enc:κ→Value) (w:World) (b:Nat) (l:List (κ × Value)) (k:κ) (z:Int):Prop:=
 ∃es clock,w.heap[b]?=some (.map es clock)∧(es.toList.map (fun e=>(e.key,e.val))=l.map (fun p=>(enc p.1,p.2))∧(l.map (·.1)).Nodup∧(∀e∈es.toList,e.born<clock)∧(es.toList.map (·.born)).Nodup)∧∃(j:Nat) (v:Value) (e:MapEntry),l[j]?=some (k,v)∧es[j]?=some e∧(e.born:Int)=z
def As.EC{κ:Type}(enc:κ→Value) (b:Nat) (l:List (κ × Value)) (k:κ) (z:Int):As where
 fp x:=x=b
 ok _ w:=Q4 enc w b l k z
 lt h x hx:=by
  subst hx;obtain⟨es,c,h,_⟩:=h
  grind
 mono _ h:=h
 st hs hc h:=by
  obtain⟨es,c,h,r⟩:=h;exact⟨es,c,(hc b (.inl rfl) (Array.getElem?_eq_some_iff.1 h).1).trans h,r⟩
theorem As.gmb{κ:Type}{enc:κ→Value}{b:Nat}{l:List (κ × Value)}{k:κ}{z:Int}{Z:Nat→Prop}{w:World}(h:(As.EC enc b l k z).ok Z w):Q4 enc w b l k z:=h
theorem y5{e T:TypeId}{h:Value}(t:KK P kt enc) (hT:P.underlying T=some (.map kt e)) (D:∀w,(zeroValue e).run P w=.ok h w) (hb:KM enc w b l) (k:κ) :
  ∃(z:Int) (w':World),(Instr.mapEntry T (.map (some b)) (enc k)).run P w=.ok (.tuple #[(bD l k).getD h,.int .i64 z]) w'∧aS [b] w w'∧Q4 enc w' b (cL l k ((bD l k).getD h)) k z:=by
 obtain⟨es,clock,hm,he,hn,S,F⟩:=hb;have u:b<w.heap.size:=(Array.getElem?_eq_some_iff.1 hm).1
 have hlen:es.toList.length=l.length:=by simpa using congrArg List.length he
 cases o:pc l k 0 with
 | none=>
  obtain⟨h1,B⟩:=j8 o;refine⟨(clock:Int),_,?_,iM w b (.map (es.push {key:=enc k,val:=h,born:=clock}) (clock+1)),?_⟩
  ·
   rw [h1];simp only [Instr.mapEntry,Sem.run_bind,run_underlying hT,Result.andThen_ok,MapKept.run_getObj_map hm,t.check,t.find l es.toList k w he,o,D,MapKept.run_setObj_map _ hm,Option.getD_none]
   rfl
  rw [h1,B];refine⟨_,_,by first | (simp [u];done) | (simp [u];exact⟨rfl,rfl⟩),⟨by simp [he],by grind [gk],?_,?_⟩,l.length,h,{key:=enc k,val:=h,born:=clock},by simp,?_,rfl⟩
  ·
   grind
  ·
   grind
  grind
 | some p=>
  obtain⟨j,v0⟩:=p;obtain⟨m,h1,B,C,U,_⟩:=ja o
  have G:j=m:=by omega
  subst G
  have I:j<es.size:=by grind
  obtain⟨y,hy⟩:∃y,es[j]?=some y:=⟨_,Array.getElem?_eq_getElem I⟩
  have J:y.key=enc k∧y.val=v0:=by
   have:=congrArg (fun x=>x[j]?) he
   grind
  have N:(((es[j]?).map (·.key)).getD (enc k))=enc k:=by rw [hy];exact J.1
  have O:(((es[j]?).map fun x=>(x.born:Int)).getD 0)=(y.born:Int):=by rw [hy];rfl
  refine⟨(y.born:Int),_,?_,iM w b (.map (es.modify j fun e=>{e with key:=enc k}) clock),?_⟩
  ·
   rw [C];simp only [Instr.mapEntry,Sem.run_bind,run_underlying hT,Result.andThen_ok,MapKept.run_getObj_map hm,t.check,t.find l es.toList k w he,o,Instr.keyThatStays,N,t.same,if_true,Sem.run_pure,MapKept.run_setObj_map _ hm,Option.getD_some,O]
   rfl
  rw [C]
  have Q:(es.modify j fun e=>{e with key:=enc k}).toList.map (fun e=>(e.key,e.val))=(l.set j (k,v0)).map (fun p=>(enc p.1,p.2))∧(es.modify j fun e=>{e with key:=enc k}).toList.map (·.born)=es.toList.map (·.born):=by
   constructor
   ·
    apply List.ext_getElem?
    intro i;have hi:=congrArg (fun x=>x[i]?) he
    grind
   apply List.ext_getElem?
   grind
  refine⟨_,_,by first | (simp [u];done) | (simp [u];exact⟨rfl,rfl⟩),⟨by grind,gk hn k _,?_,by rw [Q.2];exact F⟩,j,v0,{y with key:=enc k},?_,?_,rfl⟩
  ·
   intro x o
   have:x.born∈(es.modify j fun e=>{e with key:=enc k}).toList.map (·.born):=List.mem_map.2 ⟨x,o,rfl⟩
   grind
  ·
   grind
  grind
theorem uO{α:Type}:∀{l:List α},l.Nodup→∀{i j:Nat}{x:α},l[i]?=some x→l[j]?=some x→i=j:=fun {l} h {i j x} h1 o=>by
 obtain⟨hi,e1⟩:=List.getElem?_eq_some_iff.1 h1;obtain⟨m,e2⟩:=List.getElem?_eq_some_iff.1 o
 rcases Nat.lt_trichotomy i j with g | g | g
 ·
  exact absurd (e1.trans e2.symm) (List.pairwise_iff_getElem.1 h i j hi m g)
 ·
  exact g
 exact absurd (e2.trans e1.symm) (List.pairwise_iff_getElem.1 h j i m hi g)
theorem uP{T:TypeId}{k:κ}{z:Int}(hb:Q4 enc w b l k z) (v:Value) :
  ∃w':World,(Instr.entryStore T (.map (some b)) (.int .i64 z) v).run P w=.ok () w'∧aS [b] w w'∧KM enc w' b (cL l k v):=by
 obtain⟨es,clock,hm,⟨he,hn,V,G⟩,j,v0,y,B,hy,I⟩:=hb;have C:b<w.heap.size:=(Array.getElem?_eq_some_iff.1 hm).1;have J:j<es.size:=(Array.getElem?_eq_some_iff.1 hy).1
 have N:es.findIdx? (fun e=>(e.born:Int) == z)=some j:=by
  rw [Array.findIdx?_eq_some_iff_getElem]
  have O:es[j]=y:=by grind
  refine⟨J,by rw [O];simpa using I,fun i hi=>?_⟩
  have W:(es[i]'(by omega)).born≠y.born:=fun e=>by
   have h1:(es.toList.map (·.born))[i]?=some y.born:=by grind
   have t:(es.toList.map (·.born))[j]?=some y.born:=by simp [hy]
   grind [uO]
  grind
 have Q:∃(h:Nat),pc l k 0=some (h,v0)∧h=j:=by
  cases o:pc l k 0 with
  | none=>
   have h1:=(j8 o).1;exact absurd (List.mem_map.2 ⟨(k,v0),List.mem_of_getElem? B,rfl⟩) (lD.1 h1)
  | some p=>
   obtain⟨h,v1⟩:=p;obtain⟨m,h1,t,_⟩:=ja o
   have D:(l.map (·.1))[m]?=some k:=by rw [List.getElem?_map,t];rfl
   have u:(l.map (·.1))[j]?=some k:=by rw [List.getElem?_map,B];rfl
   have X:=uO hn D u
   grind
 obtain⟨h,o,S⟩:=Q;subst S;obtain⟨m,h1,t,D,u,_⟩:=ja o
 have U:h=m:=by omega
 subst U;refine⟨_,?_,iM w b (.map (es.modify h fun e=>{e with val:=v}) clock),?_⟩
 ·
  simp only [Instr.entryStore,Sem.run_bind,Result.andThen_ok,MapKept.run_getObj_map hm,asInt,asIntOf,Sem.run_pure,N,MapKept.run_setObj_map _ hm]
 have Y:y.key=enc k:=by
  have:=congrArg (fun x=>x[h]?) he
  grind
 have F:(es.modify h fun e=>{e with val:=v}).toList.map (fun e=>(e.key,e.val))=(l.set h (k,v)).map (fun p=>(enc p.1,p.2))∧(es.modify h fun e=>{e with val:=v}).toList.map (·.born)=es.toList.map (·.born):=by
  constructor
  ·
   apply List.ext_getElem?
   intro i;have hi:=congrArg (fun x=>x[i]?) he
   grind
  apply List.ext_getElem?
  grind
 refine⟨_,_,by first | (simp [C];done) | (simp [C];exact⟨rfl,rfl⟩),by rw [u];exact F.1,gk hn k v,?_,by rw [F.2];exact G⟩;intro x o
 have:x.born∈(es.modify h fun e=>{e with val:=v}).toList.map (·.born):=List.mem_map.2 ⟨x,o,rfl⟩
 grind
variable {n:Nat}{kv:KV}{K:KV→World→Prop}{d:Tmp}{ty:TypeId}{pos:String}{af:Array Edge}{g:Option (Nat × Bool)}{T e:TypeId}
theorem OX.mapEntry{j v:Value}{k:κ}(t:KK P kt enc) (hT:P.underlying T=some (.map kt e)) (u:∀w,(zeroValue e).run P w=.ok j w) (hb:KM enc w b l) (B:(bD l k).getD j=v) {x y:Operand}(m:ev kv x=some (.map (some b))) (hy:ev kv y=some (enc k)) (C:Nat.blt d n=true)
  (h:∀(z:Int) w',aS [b] w w'→Q4 enc w' b (cL l k v) k z→K ((d,.tuple #[v,.int .i64 z])::kv) w'):OX P ⟨some d,.mapEntry T x y,ty,pos,af,g⟩ n kv w K:=by
 obtain⟨z,w',hr,h1,o⟩:=y5 t hT u hb k;rw [B] at hr o;refine⟨rfl,C,by simp [known,opers,m,hy],?_⟩
 have D:(execOp (jH kv) ⟨some d,.mapEntry T x y,ty,pos,af,g⟩).run P w=.ok (.value (.tuple #[v,.int .i64 z])) w':=by
  simp only [execOp,aK m,aK hy,Sem.run_bind,hr,Result.andThen_ok];rfl
 rw [D];exact h z _ h1 o
theorem OX.entryStore{k:κ}{z:Int}{v:Value}(hb:Q4 enc w b l k z) {x y u:Operand}(j:ev kv x=some (.map (some b))) (hy:ev kv y=some (.int .i64 z)) (hu:ev kv u=some v)
  (h:∀w',aS [b] w w'→KM enc w' b (cL l k v)→K kv w'):OX P ⟨none,.entryStore T x y u,ty,pos,af,g⟩ n kv w K:=by
 obtain⟨w',hr,h1,m⟩:=uP (P:=P) (T:=T) hb v;refine⟨rfl,rfl,by simp [known,opers,j,hy,hu],?_⟩
 have o:(execOp (jH kv) ⟨none,.entryStore T x y u,ty,pos,af,g⟩).run P w=.ok .skip w':=by
  simp only [execOp,aK j,aK hy,aK hu,Sem.run_bind,hr,Result.andThen_ok];rfl
 rw [o];exact h _ h1 m
end
section
variable {κ:Type}{enc:κ→Value}{w0 w w':World}{M Z:Nat→Prop}{L:List As}{b:Nat}{l l':List (κ × Value)}{k:κ}{z:Int}
theorem St.Wg(h:St w0 M Z w (As.map enc b l::L)) (s:aS [b] w w') (hm:Q4 enc w' b l' k z):St w0 M Z w' (As.EC enc b l' k z::L):=h.kC (s.p.mono fun x _ j=>by simpa [As.map] using j) hm fun x j=>.inl j
theorem St.Wh(h:St w0 M Z w (As.EC enc b l k z::L)) (s:aS [b] w w') (hm:KM enc w' b l'):St w0 M Z w' (As.map enc b l'::L):=h.kC (s.p.mono fun x _ j=>by simpa [As.EC] using j) hm fun x j=>.inl j
end
/-! ### a map to owned slices -/
def jQ(L:List RE) (k:Key):Option RE:=L.find? fun e=>decide (e.key=k)
def iO(L:List RE) (k:Key):List Key:=((jQ L k).map (·.reads)).getD []
def tv(L:List RE) (ml:List (Key × Value)):Prop:=∀k,bD ml k=(jQ L k).map fun e=>Value.slice e.a e.n e.c
def qq(bg:Key→List Key) (x y:Key):Key→List Key:=fun z=>if z=x then bg z++[y] else bg z
def rest(L:List RE) (x:Key):List RE:=L.filter fun e=>decide (e.key≠x)
section
variable {L:List RE}{ml:List (Key × Value)}{x y:Key}{e:RE}{a:Option Addr}{n c:Nat}{v:Value}
theorem xX(h:jQ L x=some e):e∈L∧e.key=x:=by grind [jQ]
theorem tv.nil:tv [] []:=fun _=>rfl
theorem rJ(h:List Key) (z:Key):jQ (⟨x,a,n,c,h⟩::rest L x) z=if z=x then some ⟨x,a,n,c,h⟩ else jQ L z:=by
 unfold jQ rest
 grind
theorem tv.put(h:tv L ml) (j:List Key):tv (⟨x,a,n,c,j⟩::rest L x) (cL (cL ml x v) x (.slice a n c)):=fun z=>by
 rw [ef,rJ]
 by_cases e:x=z
 ·
  subst e
  simp
 rw [if_neg e,if_neg fun h=>e h.symm,ef,if_neg e];exact h z
theorem JM(z:Key):iO (⟨x,a,n,c,iO L x++[y]⟩::rest L x) z=qq (iO L) x y z:=by
 unfold qq
 by_cases h:z=x
 ·
  subst h;rw [if_pos rfl]
  show((jQ _ z).map _).getD []=_
  rw [rJ,if_pos rfl]
  rfl
 rw [if_neg h]
 show((jQ _ z).map _).getD []=((jQ L z).map _).getD []
 rw [rJ,if_neg h]
theorem MA:iO (⟨x,a,n,c,iO L x++[y]⟩::rest L x)=qq (iO L) x y:=funext JM
theorem ED(h:(L.map (·.key)).Nodup) (j:List Key):(((⟨x,a,n,c,j⟩:RE)::rest L x).map (·.key)).Nodup:=by
 rw [List.map_cons,List.nodup_cons];refine⟨fun m=>?_,((List.filter_sublist (l:=L)).map (·.key)).nodup h⟩;obtain⟨e,he,o⟩:=List.mem_map.1 m
 have:=(List.mem_filter.1 he).2
 simp at this
 exact this o
theorem xY:∀{L:List RE},(L.map (·.key)).Nodup→jQ L x=some e→L.Perm (e::rest L x)
 | [],_,h=>by cases h
 | q::L,hn,h=>by
  rw [List.map_cons,List.nodup_cons] at hn
  unfold jQ at h
  by_cases j:q.key=x
  ·
   rw [List.find?_cons_of_pos (by simpa using j)] at h
   cases h
   have:rest (e::L) x=L:=by
    unfold rest
    simp_all
   rw [this]
  rw [List.find?_cons_of_neg (by simpa using j)] at h
  have m:rest (q::L) x=q::rest L x:=by
   unfold rest
   grind
  rw [m];exact((xY hn.2 h).cons q).trans (.swap _ _ _)
variable {w0 w:World}{M Z:Nat→Prop}{l:List As}{EK:Nat}
theorem St.Wi(hn:(L.map (·.key)).Nodup) (hm:tv L ml) (x:Key) (h:St w0 M Z w (As.many (L.map (RE.as EK))::l)):∃(a:Option Addr) (n c:Nat),(bD ml x).getD (.slice none 0 0)=.slice a n c∧St w0 M Z w (As.os RR.key EK 2 a n c (iO L x)::As.many ((rest L x).map (RE.as EK))::l):=by
 cases j:jQ L x with
 | none=>
  refine⟨none,0,0,by rw [hm x,j];rfl,?_⟩
  have e1:iO L x=[]:=by unfold iO;rw [j];rfl
  have e2:rest L x=L:=by
   unfold rest
   rw [List.filter_eq_self];intro e he
   have:=List.find?_eq_none.1 j e he
   simpa using this
  rw [e1,e2];exact h.dq _ _ _
 | some e=>
  refine⟨e.a,e.n,e.c,by rw [hm x,j];rfl,?_⟩
  have e1:iO L x=e.reads:=by unfold iO;rw [j];rfl
  rw [e1];exact(St.V4 ((xY hn j).map (RE.as EK)) h).yT
theorem St.acV{j:List Key}(h:St w0 M Z w (As.os RR.key EK 2 a n c j::As.many ((rest L x).map (RE.as EK))::l)):St w0 M Z w (As.many (((⟨x,a,n,c,j⟩:RE)::rest L x).map (RE.as EK))::l):=h.Em
def FBK(L:List RE):FZ where
 p Z w:=∀e∈L,Rd RR.key 2 Z w e.a e.n e.c e.reads
 mono hZ h:=fun e he=>(h e he).mono hZ
 st hs hc h:=fun e he=>(h e he).st hs hc
theorem St.bkF(hl:∀e∈L,e.reads.length≤140737488355328) (h:St w0 M Z w (As.many (L.map (RE.as EK))::l)):St w0 M (fun x=>Z x∨(As.many (L.map (RE.as EK))).fp x) w (As.fz (FBK L)::l):=by
 have hm:(As.many (L.map (RE.as EK))).ok Z w:=h.ok _ M0
 refine h.freeze (B:=As.fz (FBK L)) (fun e he=>?_) fun x j=>j
 have m:Ow RR.key EK 2 Z w e.a e.n e.c e.reads:=As.gs (hm.2 _ (List.mem_map_of_mem (f:=RE.as EK) he))
 exact(m.rd (hl e he)).mono fun x j=>j.imp id fun j=>⟨_,List.mem_map_of_mem (f:=RE.as EK) he,j⟩
theorem tv.read(hm:tv L ml) (j:(FBK L).p Z w) (x:Key):∃(a:Option Addr) (n c:Nat),(bD ml x).getD (.slice none 0 0)=.slice a n c∧Rd RR.key 2 Z w a n c (iO L x):=by
 cases h:jQ L x with
 | none=>
  refine⟨none,0,0,by rw [hm x,h];rfl,?_⟩
  grind [iO,Rd.nil]
 | some e=>
  refine⟨e.a,e.n,e.c,by rw [hm x,h];rfl,?_⟩
  have e1:iO L x=e.reads:=by unfold iO;rw [h];rfl
  rw [e1];exact j e (xX h).1
theorem JN(hn:(L.map (·.key)).Nodup) (he:e∈L):iO L e.key=e.reads:=by
 have:jQ L e.key=some e:=by
  cases h:jQ L e.key with
  | none=>
   have:=List.find?_eq_none.1 h e he
   simp at this
  | some q=>
   obtain⟨h1,o⟩:=xX h;obtain⟨i,hi⟩:=List.mem_iff_getElem?.1 h1;obtain⟨j,m⟩:=List.mem_iff_getElem?.1 he
   have g1:(L.map (·.key))[i]?=some e.key:=by grind
   have g2:(L.map (·.key))[j]?=some e.key:=by rw [List.getElem?_map,m];rfl
   grind [uO]
 unfold iO
 rw [this]
 rfl
end
/-! ### a search there and back -/
section
variable {l:List Rec}{rev:Int}{k:Key}{bg:Key→List Key}{L:List Key}{i q:Nat}{x y:Key}
structure tw (l:List Rec) (rev:Int) (k:Key) (bg:Key→List Key) (L:List Key) (i q:Nat):Prop where
 j5:L.Nodup
 mem:k∈L
 sub:∀x∈L,x=k∨bM l rev k x
 cl:∀j y,j<i→L[j]?=some y→∀x,Ld l rev y x→x∈L∧y∈bg x
 cur:∀y,L[i]?=some y→∀x∈(aD l y).reads.take q,bU l rev x=true→x∈L∧y∈bg x
 bk:∀x y,y∈bg x→y∈L∧Ld l rev y x
 len:∀x,(bg x).length≤4000*i+q
theorem tw.start(h:∀x,bg x=[]):tw l rev k bg [k] 0 0:=
 ⟨by simp,by simp,by simp,fun j y h=>by omega,fun y _ x m=>by simp at m,fun x y hy=>(by rw [h] at hy;cases hy),fun x=>by rw [h];simp⟩
theorem tw.op(h:tw l rev k bg L i q) (j:bU l rev k=true) (m:x∈L):bU l rev x=true:=by
 rcases h.sub x m with rfl | h1
 ·
  exact j
 exact h1.gC
theorem tw.le(h:tw l rev k bg L i q) (j:bU l rev k=true):L.length≤l.length:=by
 have:=eK h.j5 fun x m=>nt (h.op j m)
 simpa using this
theorem tw.skip(h:tw l rev k bg L i q) (hy:L[i]?=some y) (o:(aD l y).reads[q]?=some x) (t:bU l rev x=false):tw l rev k bg L i (q+1):=
 {h with
  cur:=fun C m u B j=>by
   rw [hy] at m
   cases m
   rcases nC o B with h1 | rfl
   ·
    exact h.cur y hy u h1 j
   rw [t] at j;cases j
  len:=fun x=>by have:=h.len x;omega}
theorem qt{z u:Key}(h:u∈bg z):u∈qq bg x y z:=by grind [qq]
theorem xZ:y∈qq bg x y x:=by unfold qq;simp
theorem uQ{z u:Key}(h:u∈qq bg x y z):u∈bg z∨(z=x∧u=y):=by grind [qq]
theorem B7(z:Key):(qq bg x y z).length≤(bg z).length+1:=by
 unfold qq
 split <;> simp
theorem tw.lV(h:tw l rev k bg L i q) (hy:L[i]?=some y) (B:(aD l y).reads[q]?=some x) (D:bU l rev x=true) (hm:x∈L):tw l rev k (qq bg x y) L i (q+1):=
 {h with
  cl:=fun j t C m o hl=>⟨(h.cl j t C m o hl).1,qt (h.cl j t C m o hl).2⟩
  cur:=fun t m o F G=>by
   rw [hy] at m
   cases m
   rcases nC B F with h1 | rfl
   ·
    have:=h.cur y hy o h1 G
    grind [qt]
   exact⟨hm,xZ⟩
  bk:=fun z u hu=>by
   rcases uQ hu with h1 | ⟨rfl,rfl⟩
   ·
    exact h.bk z u h1
   exact⟨List.mem_of_getElem? hy,List.mem_of_getElem? B,D⟩
  len:=fun z=>by have:=h.len z;grind [B7]}
theorem tw.new(h:tw l rev k bg L i q) (hy:L[i]?=some y) (B:(aD l y).reads[q]?=some x) (I:bU l rev x=true) (hm:x∉L):tw l rev k (qq bg x y) (L++[x]) i (q+1):=by
 have O:i<L.length:=(List.getElem?_eq_some_iff.1 hy).1;have C:Ld l rev y x:=⟨List.mem_of_getElem? B,I⟩
 have lV:∀{j z},j≤i→(L++[x])[j]?=some z→L[j]?=some z:=fun D Q=>by grind
 refine⟨by grind [j5],by simp [h.mem],fun z m=>?_,fun j F D o t hl=>?_,fun F o t J N=>?_,fun z u hu=>?_,fun z=>?_⟩
 ·
  rcases List.mem_append.1 m with m | m
  ·
   exact h.sub z m
  rw [List.mem_singleton] at m;subst m
  rcases h.sub y (List.mem_of_getElem? hy) with rfl | h1
  ·
   exact .inr (.one C)
  exact .inr (.step h1 C)
 ·
  have h1:=h.cl j F D (lV (by omega) o) t hl
  grind [qt]
 ·
  have G:=lV (Nat.le_refl _) o;rw [hy] at G
  cases G
  rcases nC B J with h1 | rfl
  ·
   have:=h.cur y hy t h1 N
   grind [qt]
  exact⟨by simp,xZ⟩
 ·
  rcases uQ hu with h1 | ⟨rfl,rfl⟩
  ·
   have:=h.bk z u h1
   grind
  grind
 have:=h.len z
 grind [B7]
theorem tw.next(h:tw l rev k bg L i q) (hy:L[i]?=some y) (t:(aD l y).reads.length≤q) (C:q≤4000):tw l rev k bg L (i+1) 0:=
 {h with
  cl:=fun j u D m o hl=>by
   rcases Nat.lt_or_ge j i with h1 | h1
   ·
    exact h.cl j u h1 m o hl
   have e:j=i:=by omega
   subst e;rw [hy] at m
   cases m
   exact h.cur y hy o (by rw [List.take_of_length_le t];exact hl.1) hl.2
  cur:=fun _ _ x B=>by simp at B
  len:=fun x=>by have:=h.len x;omega}
theorem tw.done(h:tw l rev k bg L i q) (hi:L.length≤i) (x:Key):x∈L↔x=k∨bM l rev k x:=by
 have m:∀y∈L,∀x,Ld l rev y x→x∈L∧y∈bg x:=fun y hy x hl=>by
  obtain⟨j,o⟩:=List.mem_iff_getElem?.1 hy
  have:=(List.getElem?_eq_some_iff.1 o).1
  exact h.cl j y (by omega) o x hl
 refine⟨h.sub x,?_⟩;rintro(rfl | h1)
 ·
  exact h.mem
 induction h1 with
 | one h1=>exact(m _ h.mem _ h1).1
 | step _ t u=>exact(m _ u _ t).1
theorem tw.acX(h:tw l rev k bg L i q) (hi:L.length≤i) (x y:Key):y∈bg x↔(y=k∨bM l rev k y)∧Ld l rev y x:=by
 rw [← h.done hi y];refine⟨h.bk x y,fun⟨h1,o⟩=>?_⟩;obtain⟨j,m⟩:=List.mem_iff_getElem?.1 h1
 have:=(List.getElem?_eq_some_iff.1 m).1
 exact(h.cl j y (by omega) m x o).2
structure x2 (l:List Rec) (rev:Int) (k:Key) (bg:Key→List Key) (L:List Key) (i q:Nat):Prop where
 j5:L.Nodup
 mem:k∈L
 sub:∀x∈L,x=k∨xT l rev k x
 cl:∀j y,j<i→L[j]?=some y→∀x∈bg y,x∈L
 cur:∀y,L[i]?=some y→∀x∈(bg y).take q,x∈L
theorem x2.start:x2 l rev k bg [k] 0 0:=⟨by simp,by simp,by simp,fun j y h=>by omega,fun y _ x m=>by simp at m⟩
theorem x2.le(h:x2 l rev k bg L i q) (j:bU l rev k=true):L.length≤l.length:=by
 have:=eK h.j5 fun x m=>nt (l:=l) (rev:=rev) (by
  rcases h.sub x m with rfl | h1
  ·
   exact j
  exact h1.gC)
 simpa using this
theorem x2.has(h:x2 l rev k bg L i q) (hy:L[i]?=some y) (m:(bg y)[q]?=some x) (hm:x∈L):x2 l rev k bg L i (q+1):=
 {h with
  cur:=fun u j o t=>by
   rw [hy] at j
   cases j
   rcases nC m t with h1 | rfl
   ·
    exact h.cur y hy o h1
   exact hm}
theorem x2.add(h:x2 l rev k bg L i q) (J:∀x y,y∈bg x↔(y=k∨bM l rev k y)∧Ld l rev y x) (hy:L[i]?=some y) (D:(bg y)[q]?=some x) (hm:x∉L):x2 l rev k bg (L++[x]) i (q+1):=by
 have Q:i<L.length:=(List.getElem?_eq_some_iff.1 hy).1;obtain⟨h1,o⟩:=(J y x).1 (List.mem_of_getElem? D)
 have N:bM l rev k x:=by grind [mem]
 have O:bM l rev x k:=by
  rcases h.sub y (List.mem_of_getElem? hy) with rfl | t
  ·
   exact .one o
  exact(bM.one o).trans t.2
 have lV:∀{j z},j≤i→(L++[x])[j]?=some z→L[j]?=some z:=fun F o=>by grind
 refine⟨by grind [j5],by simp [h.mem],fun z m=>?_,fun j G F u B C=>by simp [h.cl j G F (lV (by omega) u) B C],fun G u B C=>?_⟩
 ·
  rcases List.mem_append.1 m with m | m
  ·
   exact h.sub z m
  rw [List.mem_singleton] at m;subst m;exact .inr ⟨N,O⟩
 have I:=lV (Nat.le_refl _) u;rw [hy] at I
 cases I
 rcases nC D C with t | rfl
 ·
  simp [h.cur y hy B t]
 simp
theorem x2.next(h:x2 l rev k bg L i q) (hy:L[i]?=some y) (C:(bg y).length≤q):x2 l rev k bg L (i+1) 0:=
 {h with
  cl:=fun j t D m o u=>by
   rcases Nat.lt_or_ge j i with h1 | h1
   ·
    exact h.cl j t h1 m o u
   have e:j=i:=by omega
   subst e;rw [hy] at m
   cases m
   exact h.cur y hy o (by grind [List.take_of_length_le])
  cur:=fun _ _ x B=>by simp at B}
theorem x2.done(h:x2 l rev k bg L i q) (B:bU l rev k=true) (C:∀x y,y∈bg x↔(y=k∨bM l rev k y)∧Ld l rev y x) (hi:L.length≤i) (x:Key):x∈L↔x∈aB l rev k:=by
 have D:∀y∈L,∀x∈bg y,x∈L:=fun y hy x m=>by
  obtain⟨j,u⟩:=List.mem_iff_getElem?.1 hy
  have:=(List.getElem?_eq_some_iff.1 u).1
  exact h.cl j y (by omega) u x m
 rw [cA]
 constructor
 ·
  intro m
  exact(h.sub x m).imp id fun h1=>⟨B,h1⟩
 rintro(rfl | ⟨_,h1,o⟩)
 ·
  exact h.mem
 have key:∀{x y:Key},bM l rev x y→(x=k∨bM l rev k x)→y∈L→x∈L:=by
  intro x y o h1
  induction o with
  | one t=>grind
  | step t F G=>
   refine fun hy=>G (D _ hy _ ((C _ _).2 ⟨.inr ?_,F⟩))
   rcases h1 with rfl | h1
   ·
    exact t
   exact h1.trans t
 exact key o (.inr h1) h.mem
theorem x2.group(h:x2 l rev k bg L i q) (j:bU l rev k=true) (m:∀x y,y∈bg x↔(y=k∨bM l rev k y)∧Ld l rev y x) (hi:L.length≤i) {L':List Key}(o:wF L') (t:L'.Perm L):L'=aB l rev k:=
 uH o (rH _ _ _) fun x=>(t.mem_iff).trans (h.done j m hi x)
end
/-! ### what has changed, and why a key would be run -/
section
variable {val:Key→ByteArray}{x:cm}{k:Key}{r:Rec}
theorem Q5(hi:ay k=true):aV val x k=(bz x.ab k).changed:=by unfold aV;rw [if_pos hi]
theorem Q6(hi:ay k=false) (h:aA x.ah k=none):aV val x k=x.ad:=by grind [aV]
theorem Q7(hi:ay k=false) (h:aA x.ah k=some r) (j:r.av=x.ad):aV val x k=r.changed:=by grind [aV,aQ]
theorem GD(hi:ay k=false) (h:aA x.ah k=some r) (j:¬r.av=x.ad):aV val x k=if val k=r.value then r.changed else x.ad:=by
 unfold aV
 rw [hi,aQ h,h]
 grind
def JO(val:Key→ByteArray) (x:cm) (c:ob):Bool:=decide ((aD x.ah c.dC).av<aV val x c.read)
noncomputable def MB(val:Key→ByteArray) (x:cm) (k:Key):Int × Key:=
 if (ay k || az x k)=true then (0,eR)
 else match aA x.ah k with
  | none=>(1,eR)
  | some r=>if r.bA=true then (3,eR) else
   match (bR x.ah (aB x.ah x.ad k)).find? (JO val x) with
   | none=>(0,eR)
   | some c=>(if c.dC=k then 2 else 3,c.read)
def KR(aa:List aG) (l:List Rec):Prop:=∀r∈l,dX aa r.key∧ay r.key=false∧∀a∈r.reads,dX aa a
theorem KR.acY{aa:List aG}{l:List Rec}(h:KR aa l):∀r∈l,cZ r.key:=fun r hr=>(h r hr).1.cZ
theorem KR.aC{aa:List aG}{l:List Rec}(h:KR aa l) (hi:ay k=true):aA l k=none:=by
 cases j:aA l k with
 | none=>rfl
 | some r=>
  obtain⟨h1,m⟩:=aJ j
  have:=(h r h1).2.1
  grind
theorem GF{l:List Rec}{rev:Int}(j:aA l k=some r):∀m∈aB l rev k,∃q,aA l m=some q:=fun m hm=>by
 rcases cA.1 hm with rfl | ⟨_,h⟩
 ·
  exact⟨r,j⟩
 obtain⟨q,o,_⟩:=bK.1 h.gC;exact⟨q,o⟩
theorem HB{l:List Rec}(hr:∀r∈l,r.reads.length≤4000) {group:List Key}(h:group.length≤4001) (i:Nat):((group.take i).flatMap fun m=>cT group m (aD l m).reads).length≤100000000:=by
 have h1:∀s:List Key,(s.flatMap fun m=>cT group m (aD l m).reads).length≤s.length*4000:=by
  intro s
  induction s with
  | nil=>simp
  | cons m s j=>
   simp only [List.flatMap_cons,List.length_append,List.length_cons];have o:=jV group m (aD l m).reads
   have t:(aD l m).reads.length≤4000:=by
    cases u:aA l m with
    | none=>grind [aD,nj]
    | some r=>grind [aQ,aJ]
   rw [Nat.add_mul]
   omega
 grind
end
end Go.Rc

namespace Go.Rc
open Go
theorem nE(n:cv):∀l:List cv,(fU n l false).find? (fun x=>x.key == n.key)=some n
 | []=>by simp [fU]
 | x::xs=>by
  by_cases h:0≤bC x.key n.key
  ·
   simp [fU,h]
  have h0:¬bC x.key n.key=0:=by omega
  have j:(x.key == n.key)=false:=by
   rw [beq_eq_false_iff_ne];intro e;rw [e,iw] at h0;exact h0 rfl
  have:=nE n xs
  simp [fU,h,h0,j,this]
theorem kq(n:cv) (l:List cv):bz (fU n l false) n.key=n:=by grind [bz,nE]
structure Wj (x:cm) (l:List Change) (y:cm):Prop where
 same:∀k,(∀c∈l,c.key≠k)→bz y.ab k=bz x.ab k
 how:(y.ad=x.ad∧y.ab=x.ab)∨(y.ad=x.ad+1∧∀k,bz y.ab k=bz x.ab k∨(bz y.ab k).changed=x.ad+1)
theorem Wj.refl(x:cm) (l:List Change):Wj x l x:=⟨fun _ _=>rfl,.inl ⟨rfl,rfl⟩⟩
theorem MC{rev:Int}{l li:List cv}(h:∀k,bz li k=bz l k∨(bz li k).changed=rev) (n:cv) (hn:n.changed=rev) (k:Key):bz (fU n li false) k=bz l k∨(bz (fU n li false) k).changed=rev:=by
 by_cases e:n.key=k
 ·
  grind [kq]
 rw [oh e];exact h k
/-! ### tasks -/
section
variable {aa:List aG}{H:Int→List cv}{x b:cm}{bj:List Key}{k:Key}
theorem TI.begin(F:aq aa) (h:TI aa H x b [] bj) (hk:dX aa k) (hn:cM b [] k=true):TI aa H x b [⟨k,false,0,[],[]⟩] bj:=by
 have G:¬(ay k=true∨gi [] k=true∨az b k=true):=fun h=>by grind [gS]
 have h1:ay k=false:=by grind
 have t:az b k=false:=by grind
 obtain⟨m,hm,u,_⟩:=hk.gL h1;refine⟨h.bi.Mw fun y hy=>?_,h.wy,?_,fun f o=>?_⟩
 ·
  simp [gi] at hy
 ·
  have:=TI.snoc (aa:=aa) (H:=H) (b0:=x) (b:=b) (p:=[]) (f:=⟨k,false,0,[],[]⟩) (fun p1 g q B=>by cases p1 <;> cases B) ⟨⟨m,hm,u⟩,rfl,fun i j _ _ _ C=>(by simp [gi] at C),fun hc=>(by cases hc),fun _=>⟨rfl,rfl,Int.le_refl _,fun _ j c D=>(by simp at D)⟩⟩
  exact this
 rw [List.mem_singleton] at o;subst o;refine⟨fun hr=>?_,h.wy.uI t⟩
 have:=h.wy.Lz k hr
 grind
def TO(aa:List aG) (x:cm) (t:qo):Prop:=∃H:Int→List cv,TI aa H x t.base t.stack t.bj
theorem TO.start(h:Bh aa x) (goals:List Key):TO aa x ⟨aa,x,goals,[],[]⟩:=by
 obtain⟨H,h⟩:=h;exact⟨H,h.Mw fun k hk=>(by cases hk),Wy.start x,fun p f q j=>(by cases p <;> cases j),fun f m=>(by cases m)⟩
theorem TO.of{t:qo}(h:Bh aa t.base) (j:t.stack=[]) (hr:t.bj=[]):TO aa t.base t:=by
 obtain⟨H,h⟩:=h;refine⟨H,?_⟩;rw [j,hr];exact⟨h.Mw fun k hk=>(by cases hk),Wy.start _,fun p f q m=>(by cases p <;> cases m),fun f o=>(by cases o)⟩
theorem MD{aC:List cv}{rev:Int}(hb:BK aa aC rev b) (m:az b k=false) (j:(!(aA b.ah k).isSome || (aD b.ah k).bA)=false):Live b.ah b.ad k:=by
 cases h:aA b.ah k with
 | none=>rw [h] at j;cases j
 | some r=>
  rw [h,aQ h] at j;have o:r.av≤b.ad:=(hb.tO.v r (aJ h).1).2
  have t:r.av≠b.ad:=fun e=>by grind [aR]
  exact⟨r,h,by simpa using j,by omega⟩
theorem TO.begin{t:qo}(j:aq aa) (h:TO aa x t) (m:t.stack=[]) (hk:dX aa k) (hn:cM t.base [] k=true) (g:List Key):TO aa x {t with goals:=g,stack:=[⟨k,false,0,[],[]⟩]}:=by
 obtain⟨H,h⟩:=h;rw [m] at h;exact⟨H,h.begin j hk hn⟩
theorem TO.goals{t:qo}(h:TO aa x t) (g:List Key):TO aa x {t with goals:=g}:=h
theorem TO.JP{t:qo}{b':cm}{l':List br}{rk:List Key}{er:Int}(m:aq aa) (h:TO aa x t) (o:Good aa x.ab ⟨t.base,[],[],0⟩) (j:∃p f,p++[f]=t.stack∧FS aa (valOf aa x.ab) t.base p f b' l' rk er):er=0∧TO aa x {t with base:=b',stack:=l',bj:=t.bj++rk}:=by
 obtain⟨H,h⟩:=h;obtain⟨p,f,u,j⟩:=j;rw [← u] at h;obtain⟨h1,B⟩:=mb m h o j;exact⟨h1,H,B⟩
/-! ### cancelled tasks -/
def eI(l:List br) (rs:List Rec):List Rec:=l.foldl (fun rs f=>if ax f.key then fl rs f.key else rs) rs
theorem qu(l:List br) (f:br) (rs:List Rec):eI (l++[f]) rs=if ax f.key then fl (eI l rs) f.key else eI l rs:=by grind [eI]
theorem EE(rs:List Rec) (k:Key):(fl rs k).Sublist rs:=by grind [fl,List.filter_sublist]
theorem nF:∀(l:List br) (rs:List Rec),(eI l rs).Sublist rs∧∀r,r∈eI l rs↔r∈rs∧(gi l r.key && ax r.key)=false
 | [],rs=>⟨List.Sublist.refl _,fun r=>by simp [eI,gi]⟩
 | f::l,rs=>by
  have e:eI (f::l) rs=eI l (if ax f.key then fl rs f.key else rs):=rfl;obtain⟨h1,h⟩:=nF l (if ax f.key then fl rs f.key else rs);rw [e];refine⟨h1.trans ?_,fun r=>?_⟩
  ·
   grind [EE]
  rw [h r]
  have j:gi (f::l) r.key=(decide (f.key=r.key) || gi l r.key):=by simp [gi]
  rw [j]
  by_cases hc:ax f.key=true
  ·
   rw [if_pos hc]
   unfold fl
   grind
  grind
theorem TO.cancel{t:qo}(h:TO aa x t):Bh aa ⟨t.base.ad,t.base.ab,eI t.stack t.base.ah⟩∧(∀y∈t.bj,az ⟨t.base.ad,t.base.ab,eI t.stack t.base.ah⟩ y=true)∧(∀y,az x y=true→az ⟨t.base.ad,t.base.ab,eI t.stack t.base.ah⟩ y=true)∧(∀y∈t.bj,ay y=false∧az x y=false)∧t.bj.Nodup:=by
 obtain⟨H,h⟩:=h;obtain⟨h1,o⟩:=nF t.stack t.base.ah
 have hb:=h.bi.drop h1 fun r hr=>((o r).1 hr).2
 have B:pT (eI t.stack t.base.ah):=hb.st
 have jx:∀y,az t.base y=true→gi t.stack y=false→az ⟨t.base.ad,t.base.ab,eI t.stack t.base.ah⟩ y=true:=fun y hu hn=>by
  obtain⟨r,hr,C⟩:=aR.1 hu;obtain⟨g1,g2⟩:=aJ hr
  grind [aR,ib]
 have m:∀y,(∀f∈t.stack,f.key≠y)→gi t.stack y=false:=fun y hy=>by grind [gi]
 refine⟨⟨H,hb⟩,fun y hy=>jx y (h.wy.Lz y hy) (m y fun f j e=>?_),fun y hy=>jx y ?_ (m y fun f j e=>?_),fun y hy=>⟨(h.wy.bj y hy).1,(h.wy.bj y hy).2.1⟩,h.wy.j5⟩
 ·
  rw [← e] at hy;exact(h.nr f j).1 hy
 ·
  have:=h.wy.ev
  have u:t.base.ad=x.ad:=h.wy.rev;exact this.az u hy
 have:=(h.nr f j).2
 rw [e,hy] at this
 cases this
/-! ### bases of the mill -/
structure LC (aa:List aG) (x:cm):Prop where
 lb:LB aa x
 bh:Bh aa x
theorem LC.apply(h:LC aa x) {y:cm}{l:List Change}(j:Wj x l y) (hr:y.ah=x.ah) (h0:x.ad≤y.ad) (h1:y.ad≤1073741824) (m:jA y.ad y.ab) (o:y.ab.length≤64):LC aa y:=by
 refine⟨h.lb.apply hr h0 h1 m o,?_⟩
 rcases j.how with⟨e1,e2⟩ | ⟨e1,e2⟩
 ·
  obtain⟨t,u,B⟩:=y;simp only at hr e1 e2;subst hr e1 e2;exact h.bh
 exact h.bh.apply hr e1 fun k=>by rw [e1];exact e2 k
theorem LC.sub(h:LC aa x) {rs:List Rec}(j:rs.Sublist x.ah):LC aa ⟨x.ad,x.ab,rs⟩:=⟨h.lb.sub j,h.bh.drop j⟩
theorem LC.task{t:qo}(h:LC aa x) (hb:BK aa x.ab x.ad t.base) (ht:TO aa x t):LC aa ⟨t.base.ad,t.base.ab,eI t.stack t.base.ah⟩:=⟨h.lb.task hb (nF _ _).1,ht.cancel.1⟩
theorem LC.req(j:aq aa) (h:LC aa x) {goals:List Key}(u:∀k∈goals,lZ aa k) (B:goals.length≤32):∃(f:Nat) (s':ES),gI aa x goals=0∧Good aa x.ab ⟨x,[],[],0⟩∧(∀k∈goals,dX aa k)∧dK aa (valOf aa x.ab) f ⟨x,[],[],0⟩ goals=some s'∧s'.bj.length≤1000000∧LC aa (s'.base x)∧(s'.base x).ad=x.ad∧s'.e=0∧s'.base x=s'.b∧Wy aa x s'∧(∀k∈goals,ay k=false→az s'.b k=true)∧∀r∈s'.b.ah,r.av=s'.b.ad→r.value=valOf aa x.ab r.key:=by
 obtain⟨f,s',h1,m,o,t,C,D,F⟩:=h.lb.req j u B;obtain⟨g1,g2,g3,g4,g5,g6⟩:=h.bh.request j m o t
 have e:s'.base x=s'.b:=by unfold ES.base;rw [if_pos g1]
 exact⟨f,s',h1,m,o,t,C,⟨D,by rw [e];exact g2⟩,F,g1,e,g3,g5,g6⟩
theorem LC.nil(aa:List aG) (y:cm) (hr:y.ah=[]) (h0:0≤y.ad) (h1:y.ad≤1073741824) (h:jA y.ad y.ab) (j:y.ab.length≤64):LC aa y:=by
 refine⟨LB.nil y hr h0 h1 h j,?_⟩;obtain⟨m,o,t⟩:=y
 grind [Bh.new]
end
/-! ### reasons -/
section
variable {aa:List aG}{x y:cm}{k:Key}{s:ES}
theorem Wy.runs(h:Wy aa x s) (hw:Gz (valOf aa x.ab) x k) (hu:az s.b k=true):k∈s.bj:=by
 obtain⟨_,hn,hc⟩:=hw
 rcases h.mrk k hn hu with h1 | h1
 ·
  exact h1
 have j:=h.ev.pt k
 have m:∀r,aA s.b.ah k=some r→r.av=x.ad:=fun r hr=>by grind [aR,rev]
 rcases j with e | ⟨_,r,e1,e2,e3,_⟩ | ⟨⟨e1,_⟩,_⟩
 ·
  grind [aR]
 ·
  grind [aQ]
 exact e1
end
end Go.Rc

namespace Go.Rc
open Go
structure AO (x:cm) (l:List Change) (y:cm):Prop where
 one:∀c,l=[c]→(bz x.ab c.key).value≠c.value→x.ad+1≤1073741824→y=⟨x.ad+1,fU ⟨c.key,c.value,x.ad+1⟩ x.ab false,x.ah⟩
 QV:∀k,bz y.ab k=bz x.ab k∨(bz y.ab k).value≠(bz x.ab k).value
 src:∀k,bz y.ab k=bz x.ab k∨∃c∈l,(bz y.ab k).value=c.value
structure HC (x:cm) (l:List Change) (i:Nat) (ch:Bool) (li:List cv):Prop where
 one:∀c,l=[c]→(i=0∧ch=false∧li=x.ab)∨(i=1∧((bz x.ab c.key).value=c.value∨(ch=true∧li=fU ⟨c.key,c.value,x.ad+1⟩ x.ab false)))
 QV:∀k,bz li k=bz x.ab k∨(bz li k).value≠(bz x.ab k).value
 src:∀k,bz li k=bz x.ab k∨∃c∈l,(bz li k).value=c.value
section
variable {x:cm}{l:List Change}{i:Nat}{ch:Bool}{li:List cv}
theorem HC.start:HC x l 0 false x.ab:=⟨fun _ _=>.inl ⟨rfl,rfl,rfl⟩,fun _=>.inl rfl,fun _=>.inl rfl⟩
theorem HC.skip(h:HC x l i ch li) (hi:i<l.length) {j:Bool}(h1:l.length=i+1→j=true) (g:(!j || decide ((bz x.ab l[i].key).value=l[i].value))=true):HC x l (i+1) ch li:=by
 refine⟨fun c e=>?_,h.QV,h.src⟩;subst e
 have h0:i=0:=by simpa using hi
 subst h0;rw [h1 rfl] at g;exact .inr ⟨rfl,.inl (by simpa using g)⟩
theorem HC.put(h:HC x l i ch li) (hi:i<l.length) {m:Bool}(g:(!m || decide ((bz x.ab l[i].key).value=l[i].value))=false):HC x l (i+1) true (fU ⟨l[i].key,l[i].value,x.ad+1⟩ li false):=by
 refine⟨fun c e=>?_,fun k=>?_,fun k=>?_⟩
 ·
  subst e
  have h0:i=0:=by simpa using hi
  subst h0
  rcases h.one c rfl with⟨_,_,e⟩ | ⟨e,_⟩
  ·
   subst e;exact .inr ⟨rfl,.inr ⟨rfl,rfl⟩⟩
  cases e
 ·
  by_cases e:l[i].key=k
  ·
   subst e;have j:=kq ⟨l[i].key,l[i].value,x.ad+1⟩ li;simp only at j;rw [j]
   simp at g
   exact .inr fun e=>g.2 e.symm
  rw [oh e];exact h.QV k
 by_cases e:l[i].key=k
 ·
  subst e;have j:=kq ⟨l[i].key,l[i].value,x.ad+1⟩ li;simp only at j;rw [j];exact .inr ⟨l[i],List.getElem_mem hi,rfl⟩
 rw [oh e];exact h.src k
theorem HC.same(h:HC x l i ch li) (hi:l.length≤i) (hc:ch=false):AO x l x:=by
 refine⟨fun c e j _=>?_,fun _=>.inl rfl,fun _=>.inl rfl⟩;subst e
 rcases h.one c rfl with⟨e,_⟩ | ⟨_,e | ⟨e,_⟩⟩
 ·
  subst e;simp at hi
 ·
  exact absurd e j
 rw [hc] at e;cases e
theorem HC.done(h:HC x l i ch li) (hi:l.length≤i):AO x l ⟨x.ad+1,li,x.ah⟩:=by
 refine⟨fun c e j _=>?_,h.QV,h.src⟩;subst e
 rcases h.one c rfl with⟨e,_⟩ | ⟨_,e | ⟨_,e⟩⟩
 ·
  subst e;simp at hi
 ·
  exact absurd e j
 rw [e]
end
end Go.Rc

namespace Go.Rc
open Go
instance:Inhabited Key:=⟨eR⟩
theorem HD{w w':World}(h:aS [] w w'):∃q os,w'=Sort.grow (w.drewN q) os:=by
 refine⟨w'.drawn - w.drawn,w'.heap.extract w.heap.size w'.heap.size,?_⟩;obtain⟨o,ht,hu,t,u,hb⟩:=h
 have j:w'.heap=w.heap++w'.heap.extract w.heap.size w'.heap.size:=by grind
 have m:w'.drawn=w.drawn+(w'.drawn - w.drawn):=by omega
 generalize w'.heap.extract w.heap.size w'.heap.size=os at j
 generalize w'.drawn - w.drawn=q at m
 cases w'
 cases w
 simp only at o ht hu j m;subst o ht hu j m
 rfl
section
variable {α:Type} [Inhabited α] {row:α→List Value}{k:Nat}{key:α→Key}
theorem GG:Sort.SWO (Proofs.ltOf fun x y=>bC (key x) (key y)):=by
 refine⟨fun x=>?_,fun x y z h1 h=>?_,fun x y z h1 h=>?_⟩
 ·
  grind [Proofs.ltOf,iw]
 ·
  unfold Proofs.ltOf at *
  rw [decide_eq_true_eq] at *;exact il h1 h
 grind [Proofs.ltOf,jh,il,l9]
theorem y7(hk:∀x,(row x).length=k) (l:List α):(l.map row).flatten.length=l.length*k:=by
 induction l with
 | nil=>simp
 | cons x r h=>simp only [List.map_cons,List.flatten_cons,List.length_append,List.length_cons,Nat.add_mul,h,hk];omega
theorem B8(hk:∀x,(row x).length=k) (l:List α) (t:Nat) (ht:t<l.length*k):(l.map row).flatten[t]?=some ((row (l.toArray[t / k]!))[t % k]!):=by
 have h0:0<k:=by rcases Nat.eq_zero_or_pos k with h | h;subst h;omega;exact h
 have hi:t / k<l.length:=(Nat.div_lt_iff_lt_mul h0).2 ht
 have hr:(l.map row)[t / k]?=some (row l[t / k]):=by grind
 have e:t=t / k*k+t % k:=by rw [Nat.mul_comm];exact(Nat.div_add_mod t k).symm
 have h1:(l.toArray[t / k]!)=l[t / k]:=by simp [hi]
 rw [h1];have hm:t % k<k:=Nat.mod_lt _ h0
 have h:=mZ (l.map row) k (t / k) _ (fun r hr=>by obtain⟨x,_,rfl⟩:=List.mem_map.1 hr;exact hk x) hr (t % k) ((row l[t / k])[t % k]!) (by
  rw [List.getElem?_eq_getElem (by rw [hk];exact hm),getElem!_pos])
 rw [← e] at h;exact h
theorem HE(hk:∀x,(row x).length=k) {w:World}{b E:Nat}{cur:Array Value}{l:List α}(hb:w.heap[b]?=some (.cells cur E (0,0))) (ht:cur.toList.take (l.length*k)=(l.map row).flatten):Sort.HoldsK row k w b 0 l.toArray:=by
 unfold Sort.HoldsK
 intro j h;rw [Sort.size_flatK,List.size_toArray] at h;have h1:=B8 hk l j h;rw [← ht,List.getElem?_take,if_pos h,Array.getElem?_toList] at h1;refine⟨?_,?_⟩
 ·
  unfold World.cell?
  simp only [hb,Nat.zero_add]
  grind [Sort.get_flatK]
 grind [World.frozen?]
theorem ME(hk:∀x,(row x).length=k) {w:World}{b E m:Nat}{os:Array Obj}{cur:Array Value}{l l':List α}(hb:w.heap[b]?=some (.cells cur E (0,0))) (ht:cur.toList.take (l.length*k)=(l.map row).flatten) (hl:l'.length=l.length):∃pa:Array Value,(Proofs.sortWorldK row k w b 0 m l'.toArray os).heap[b]?=some (.cells pa E (0,0))∧pa.size=cur.size∧pa.toList.take (l'.length*k)=(l'.map row).flatten:=by
 have j:b<w.heap.size:=(Array.getElem?_eq_some_iff.1 hb).1;refine⟨Sort.putCells id 0 (Sort.flatK row k l'.toArray) cur,?_,by unfold Sort.putCells;simp,?_⟩
 ·
  unfold Proofs.sortWorldK
  rw [Sort.heap_grow_old _ _ (by grind [Sort.putRowK,Sort.putRow,Sort.mapBlock,Sort.ahead])]
  unfold Sort.putRowK Sort.putRow Sort.mapBlock Sort.ahead
  simp only [Array.getElem?_modify,if_true,hb]
  rfl
 have hlen:l.length*k≤cur.size:=by
  have h1:=congrArg List.length ht;have o:=y7 hk l
  grind
 apply List.ext_getElem?
 intro t
 by_cases h:t<l'.length*k
 ·
  rw [B8 hk l' t h,List.getElem?_take,if_pos h,Array.getElem?_toList]
  unfold Sort.putCells
  rw [hl] at h;rw [Array.getElem?_mapIdx,Array.getElem?_eq_getElem (by omega),Option.map_some];rw [if_pos ⟨Nat.zero_le _,by simp_all⟩,Nat.sub_zero,Sort.get_flatK _ _ _ _ (by rw [List.size_toArray,hl];exact h)]
  rfl
 rw [List.getElem?_eq_none (by rw [List.length_take];omega),List.getElem?_eq_none (by rw [y7 hk];omega)]
theorem JQ{w:World}{b m:Nat}{os:Array Obj}{d:Array α}:aS [b] w (Proofs.sortWorldK row k w b 0 m d os):=by
 refine⟨rfl,rfl,rfl,?_,?_,fun k hk hn=>?_⟩
 ·
  unfold Proofs.sortWorldK Sort.grow Sort.putRowK Sort.putRow Sort.mapBlock Sort.ahead
  simp
 ·
  exact Nat.le_add_right _ _
 unfold Proofs.sortWorldK
 rw [Sort.heap_grow_old _ _ (by grind [Sort.putRowK,Sort.putRow,Sort.mapBlock,Sort.ahead])]
 unfold Sort.putRowK Sort.putRow Sort.mapBlock Sort.ahead
 grind
theorem x3{P:Program}{F g E:Nat}(hk:∀x,(row x).length=k) (h1:∀x,∀v∈row x,v.oneCell'=true) (I:∀(blk cap:Nat) (d:Array α) (w:World),Proofs.CmpLays P g #[] row k (fun x y=>bC (key x) (key y)) blk 0 d.size w→Sort.HoldsK row k w blk 0 d→blk<w.heap.size→d.size<4611686018427387904→Calls P F #[.slice (some ⟨blk,0,none⟩) d.size cap,.func (.func g) #[] #[]] w fun e w'=>e=.returned (.tuple #[])∧∃d' n os,Sort.PermIn 0 d.size d d'∧Sort.SortedIn (Proofs.ltOf fun x y=>bC (key x) (key y)) 0 d.size d'∧w'=Proofs.sortWorldK row k w blk 0 n d' os)
  (hcmp:∀(x y:α) (w:World),Calls P g #[.agg (row x).toArray,.agg (row y).toArray] w fun e w'=>e=.returned (.int .i64 (bC (key x) (key y)))∧aS [] w w')
  {l:List α}{a:Option Addr}{n c:Nat}{w:World}{M Z:Nat→Prop}(B:St w M Z w [As.os (RR.flat row) E k a n c l]) (h0:l≠[]) (hn:l.length≤1000000):Calls P F #[.slice a n c,.func (.func g) #[] #[]] w fun e w'=>e=.returned (.tuple #[])∧∃l',l'.Perm l∧(l'.Pairwise fun x y=>¬bC (key y) (key x)<0)∧St w M Z w' [As.os (RR.flat row) E k a n c l']:=by
 have J:=As.gs B.g0;obtain⟨o,rows,OS,UZ,N,O⟩:=id J
 have Q:rows=l.map row:=by
  apply List.ext_getElem?
  intro i;rw [List.getElem?_map]
  by_cases hi:i<l.length
  ·
   rw [List.getElem?_eq_getElem (by omega),List.getElem?_eq_getElem hi]
   have:=O i l[i] rows[i] (List.getElem?_eq_getElem hi) (List.getElem?_eq_getElem (by omega))
   rw [RR.ba this]
   rfl
  grind
 rcases N.cases with⟨g1,g2,_⟩ | ⟨b,cur,rfl,Q8,hb,S,U,V,ht⟩
 ·
  grind
 rw [Q,o] at ht;have W:b<w.heap.size:=(Array.getElem?_eq_some_iff.1 hb).1
 have hc:Proofs.CmpLays P g #[] row k (fun x y=>bC (key x) (key y)) b 0 l.toArray.size w:=fun m os dk _ x y=>(hcmp x y _).mono fun e w' ⟨h1,X⟩=>⟨h1,HD X⟩
 have C:=I b c l.toArray w hc (HE hk hb ht) W (by rw [List.size_toArray];omega);rw [List.size_toArray,← o] at C;refine C.mono ?_;rintro e w' ⟨rfl,d',m,os,⟨t,_,Y⟩,D,rfl⟩;rw [o] at Y D
 have t:d'.size=l.length:=by rw [t,List.size_toArray]
 have G:d'.toList.Perm l:=by grind [Array.extract_size]
 obtain⟨l',rfl⟩:∃l':List α,d'=l'.toArray:=⟨d'.toList,by simp⟩
 have hl:l'.length=l.length:=by simpa using t
 simp only at G;obtain⟨pa,g1,g2,g3⟩:=ME hk (m:=m) (os:=os) hb ht hl;refine⟨rfl,l',G,?_,?_⟩
 ·
  rw [List.pairwise_iff_getElem];intro i j hi hj hij;have h1:=D i j (Nat.zero_le _) hij (by omega)
  grind [Proofs.ltOf]
 refine B.eS (w':=Proofs.sortWorldK row k w b 0 m l'.toArray os) (JQ.mono fun x h=>by simpa [aI] using h) ?_ (fun x h=>.inl h);refine⟨by omega,l'.map row,by simp,fun r hr=>by obtain⟨x,_,rfl⟩:=List.mem_map.1 hr;exact hk x,?_,fun i x r h hr=>?_⟩
 ·
  refine⟨fun u hu=>?_,?_,.inr ⟨b,c,pa,rfl,Nat.zero_le _,g1,S,U,by rw [g2];exact V,by grind⟩⟩
  ·
   obtain⟨r,hr,hu⟩:=List.mem_flatten.1 hu;obtain⟨x,_,rfl⟩:=List.mem_map.1 hr;exact h1 x u hu
  rw [y7 hk]
  grind
 rw [List.getElem?_map,h] at hr
 cases hr
 rfl
end
end Go.Rc

namespace Go.Rc
open Go
inductive ft (aa:List aG) (val:Key→ByteArray) (goals:List Key) (x:cm):cm→List br→List Key→Prop where
 | start:ft aa val goals x x [] []
 | take {b:cm}{bj:List Key}{k:Key}:ft aa val goals x b [] bj→k∈goals→cM b [] k=true→ft aa val goals x b [⟨k,false,0,[],[]⟩] bj
 | step {b b':cm}{p l':List br}{f:br}{bj rk:List Key}:ft aa val goals x b (p++[f]) bj→FS aa val b p f b' l' rk 0→l'≠p++[f]→ft aa val goals x b' l' (bj++rk)
section
variable {aa:List aG}{H:Int→List cv}{x b b':cm}{p q l l':List br}{f g:br}{bj rk goals:List Key}{k y:Key}{val:Key→ByteArray}{er:Int}
theorem FS.Q9(h:FS aa val b p f b' l' rk er) (hu:az b y=true):az b' y=true:=by
 have hm:∀G,az (cH b G false) y=true:=fun G=>by grind [aR,a7,bY,cH]
 cases h with
 | put=>
  obtain⟨r,hr,j⟩:=aR.1 hu;rw [aR];simp only [cN]
  by_cases e:y=(bF b f.key (aH aa f.key f.ae).value f.reads).key
  ·
   rw [if_pos e];exact⟨_,rfl,rfl⟩
  grind
 | mark=>exact hm _
 | fail=>grind [lM]
 | _=>exact hu
theorem FS.bot(h:FS aa val b p f b' l' rk er) (hb:az b k=true∨∃g q,p++[f]=g::q∧g.key=k):az b' k=true∨∃g q,l'=g::q∧g.key=k:=by
 rcases hb with hb | ⟨g,q,e,hk⟩
 ·
  exact .inl (h.Q9 hb)
 have key:∀{z:br}{r:List br},z.key=f.key→∃g q,p++z::r=g::q∧g.key=k:=fun {z r} o=>by
  cases p with
  | nil=>grind
  | cons a m=>grind
 have j:az b' f.key=true→az b' k=true∨∃g q,p=g::q∧g.key=k:=fun hu=>by
  cases p with
  | nil=>grind
  | cons a m=>grind
 cases h with
 | put=>exact j (jg (r:=bF b f.key (aH aa f.key f.ae).value f.reads) rfl)
 | up _ hu=>exact j hu
 | mark _ hl=>
  obtain⟨r,h1,_⟩:=hl
  grind [gZ,fq]
 | push=>grind
 | sK=>grind
 | _=>exact .inr (key rfl)
theorem FS.keeps(m:aq aa) {aC:List cv}{rev:Int}(hb:BK aa aC rev b) (t:∀g∈p++[f],fo aa g) (D:FS aa val b p f b' l' rk 0) (hn:(!(aA b.ah f.key).isSome && decide (4000≤b.ah.length))=false):BK aa aC rev b'∧∀g∈l',fo aa g:=by
 have h:fo aa f:=t f (by simp);have u:∀g∈p,fo aa g:=fun g B=>t g (List.mem_append_left _ B)
 have o:∀{z:br},fo aa z→∀g∈p++[z],fo aa g:=fun F g B=>by grind
 have G:∀{z:br},fo aa z→∀g∈p++[f]++[z],fo aa g:=fun F g B=>by grind
 cases D with
 | stay=>exact⟨hb,t⟩
 | put hr j=>
  have hl:=h.len;have I:=h.gL.le m;exact⟨hb.put h.key ⟨by show f.reads.length≤4000;omega,h.AK⟩ hn (pz m hb.tO h.gL j h.len h.AK) (Int.le_refl _),u⟩
 | push hr j hl=>
  obtain⟨C,h1⟩:=h.gL.next m j
  grind [fo.new,ma]
 | read hr j h1 J=>
  obtain⟨C,h1⟩:=h.gL.next m j;exact⟨hb,o (h.read h1 C)⟩
 | up=>exact⟨hb,u⟩
 | start=>exact⟨hb,o h.runs⟩
 | mark=>exact⟨hb.BN _,u⟩
 | sK c hr hl hc hk=>exact⟨hb,G (fo.new (fT hb.fH hc) (ma hk))⟩
 | pass=>exact⟨hb,o h.step⟩
 | fail=>
  refine⟨?_,o h.runs⟩
  split
  ·
   rename_i hc
   exact hb.BO (py hc)
  exact hb
/-! ### the end -/
theorem TI.nodup(h:TI aa H x b l bj):(l.map (·.key)).Nodup:=by
 refine List.pairwise_iff_getElem.2 fun i j hi m t=>?_;simp only [List.length_map] at hi m;simp only [List.getElem_map];intro e;have o:=h.fr (l.take j) l[j] (l.drop (j+1)) (by simp);have hn:=o.new
 unfold gi at hn
 rw [List.any_eq_false] at hn;refine hn l[i] (List.mem_take_iff_getElem.2 ⟨i,by omega,rfl⟩) ?_
 simpa using e
theorem TI.eX(h:TI aa H x b l bj) (j:f∈l):∃i:Nat,i<aa.length∧f.key=aL aa (i:Int):=by
 obtain⟨p1,q1,m⟩:=List.append_of_mem j;exact(h.fr p1 f q1 m).key
theorem TI.EG(h:TI aa H x b l bj):l.length≤aa.length:=by
 have:=eK h.nodup (S:=(List.range aa.length).map fun i:Nat=>aL aa (i:Int)) fun k hk=>by
  obtain⟨f,j,rfl⟩:=List.mem_map.1 hk;obtain⟨i,hi,e⟩:=h.eX j
  grind
 simpa using this
def AU(aa:List aG) (b:cm):Nat:=Dz (fun i=>!az b (aL aa (i:Int))) aa.length
def x4(f:br):Nat:=if f.running then 10000 - f.reads.length else 10001+(200000000 - f.at_.toNat)
def U0(aa:List aG) (b:cm) (l:List br):Nat:=
 ((AU aa b*100+l.countP fun f=>az b f.key)*100+(50 - l.countP fun f=>!az b f.key))*1000000000+(l.getLast?.map x4).getD 0
theorem Ra(f:br):x4 f≤200010001:=by
 unfold x4
 split <;> omega
theorem JR(h:br→Bool) (l:List br):l.countP h+l.countP (fun f=>!h f)=l.length:=by
 induction l with
 | nil=>rfl
 | cons a l j=>grind
theorem JS{n u v t m j v' o:Nat}(h1:u+v≤24) (B:j+v'≤24) (ht:o≤200010001) (h:m<n∨m=n∧(j<u∨j=u∧(v<v'∨v'=v∧o<t))):((m*100+j)*100+(50 - v'))*1000000000+o<((n*100+u)*100+(50 - v))*1000000000+t:=by omega
theorem Rb(h:∀y,az b y=true→az b' y=true):AU aa b'≤AU aa b:=rC fun i _ j=>by grind
theorem JT(h:∀y,az b y=true→az b' y=true) {i:Nat}(hi:i<aa.length) (h0:az b (aL aa (i:Int))=false) (h1:az b' (aL aa (i:Int))=true):AU aa b'<AU aa b:=
 rD (j:=i) (fun i _ m=>by grind) hi (by rw [h0];rfl) (by rw [h1];rfl)
theorem HF(D:aq aa) (h:TI aa H x b (p++[f]) bj) (F:TI aa H x b' l' (bj++rk)) (I:∀G:List Key,G.length≤4001→(bR b.ah G).length≤100000000) (hlen:b.ah.length≤4000) (V:f.reads.length<4000) (u:FS aa val b p f b' l' rk 0) (J:l'≠p++[f]):U0 aa b' l'<U0 aa b (p++[f]):=by
 have W:=D.1;have X:=h.EG;have Y:=F.EG;have hc:=JR (fun f=>az b f.key) (p++[f]);have hc':=JR (fun f=>az b' f.key) l'
 have N:(l'.getLast?.map x4).getD 0≤200010001:=by grind [Ra]
 have m:=fun y=>u.Q9 (y:=y);obtain⟨i,hi,o⟩:=h.top.key;have am7:AU aa b'≤AU aa b:=Rb m
 unfold U0
 refine JS (by omega) (by omega) N ?_
 have O:((p++[f]).getLast?.map x4).getD 0=x4 f:=by simp
 rw [O]
 have acZ:∀z:br,((p++[z]).getLast?.map x4).getD 0=x4 z:=fun z=>by simp
 have same:∀{z:br},z.key=f.key→x4 z<x4 f→AU aa b<AU aa b∨AU aa b=AU aa b∧((p++[z]).countP (fun f=>az b f.key)<(p++[f]).countP (fun f=>az b f.key)∨(p++[z]).countP (fun f=>az b f.key)=(p++[f]).countP (fun f=>az b f.key)∧((p++[f]).countP (fun f=>!az b f.key)<(p++[z]).countP (fun f=>!az b f.key)∨(p++[z]).countP (fun f=>!az b f.key)=(p++[f]).countP (fun f=>!az b f.key)∧((p++[z]).getLast?.map x4).getD 0<x4 f)):=fun {z} Q B=>by grind
 have push:∀{z:br},az b z.key=false→AU aa b<AU aa b∨AU aa b=AU aa b∧((p++[f]++[z]).countP (fun f=>az b f.key)<(p++[f]).countP (fun f=>az b f.key)∨(p++[f]++[z]).countP (fun f=>az b f.key)=(p++[f]).countP (fun f=>az b f.key)∧((p++[f]).countP (fun f=>!az b f.key)<(p++[f]++[z]).countP (fun f=>!az b f.key)∨(p++[f]++[z]).countP (fun f=>!az b f.key)=(p++[f]).countP (fun f=>!az b f.key)∧((p++[f]++[z]).getLast?.map x4).getD 0<x4 f)):=fun {z} Q=>by grind
 have LA:=kl b.ah b.ad f.key;have am8:=I (aB b.ah b.ad f.key) (by omega)
 cases u with
 | stay=>exact absurd rfl J
 | put hr C=>
  obtain⟨_,j,_⟩:=h.top.run hr;rw [o] at j;refine .inl (JT m hi j ?_);rw [← o];exact jg (r:=bF b f.key (aH aa f.key f.ae).value f.reads) rfl
 | push hr C hl=>exact push (uM hl).2.2
 | read hr C h1 h3=>
  refine same (z:={f with reads:=f.reads++[(aH aa f.key f.ae).ask],ae:=f.ae++[bS val b (aH aa f.key f.ae).ask]}) rfl ?_
  unfold x4
  simp only [hr,if_true,List.length_append,List.length_singleton]
  omega
 | up hr hu=>grind
 | start hr hu hx=>
  refine same (z:={f with running:=true,at_:=0}) rfl ?_
  unfold x4
  grind
 | mark hr hl hn=>
  obtain⟨r,g1,_,g3⟩:=hl;have j:=ji g1 g3;rw [o] at j;refine .inl (JT m hi j ?_)
  grind [gZ,fq]
 | sK c hr hl t hk=>exact push (uM hk).2.2
 | pass c hr hl t S U hle=>
  have h5:=(h.top.Bz hr).2.2.1;have h6:=(List.getElem?_eq_some_iff.1 t).1;refine same (z:={f with at_:=f.at_+1}) rfl ?_
  unfold x4
  simp only [hr]
  simp
  omega
 | fail c hr hl t S U B=>
  have B:x4 {f with running:=true,at_:=0}<x4 f:=by
   unfold x4
   grind
  split
  ·
   have he:∀y,az (cH b (aB b.ah b.ad f.key) true) y=az b y:=fun y=>lM
   have hn:AU aa (cH b (aB b.ah b.ad f.key) true)=AU aa b:=by unfold AU;simp only [he]
   simp_all
  grind
/-! ### what is known of what a request reaches -/
theorem ft.inv(j:aq aa) (B:LC aa x) (hk:∀k∈goals,dX aa k) (h:ft aa (valOf aa x.ab) goals x b l bj):(∃H,TI aa H x b l bj)∧BK aa x.ab x.ad b∧∀f∈l,fo aa f:=by
 induction h with
 | start=>exact⟨TO.start B.bh [],B.lb.ok,fun f m=>by cases m⟩
 | @take b bj k h1 F hn u=>
  obtain⟨⟨H,o⟩,t,C⟩:=u;refine⟨⟨H,o.begin j (hk _ F) hn⟩,t,fun f m=>?_⟩;rw [List.mem_singleton] at m;subst m
  have G:¬(ay k=true∨gi [] k=true∨az b k=true):=fun h=>by grind [gS]
  grind [fo.new]
 | step h1 D G u=>
  obtain⟨⟨H,o⟩,t,C⟩:=u;have hl:=o.bi.len;have N:=j.1;obtain⟨I,J⟩:=FS.keeps j t C D (by simp;intro;omega);exact⟨⟨H,(mb j o t.fH D).2⟩,I,J⟩
theorem ft.less(j:aq aa) (B:LC aa x) (hk:∀k∈goals,dX aa k) (h:ft aa (valOf aa x.ab) goals x b (p++[f]) bj) (o:FS aa (valOf aa x.ab) b p f b' l' rk 0) (C:l'≠p++[f]):U0 aa b' l'<U0 aa b (p++[f]):=by
 obtain⟨⟨H,t⟩,m,D⟩:=h.inv j B hk;have u:=D f (by simp);have hl:=u.len;have I:=u.gL.le j;exact HF j t (mb j t m.fH o).2 (fun G F=>tN m.fH F) m.fH.len (by omega) o C
theorem ft.Wk(j:aq aa) (m:LC aa x) (hk:∀k∈goals,dX aa k) (h:ft aa (valOf aa x.ab) goals x b (p++[f]) bj) (o:FS aa (valOf aa x.ab) b p f b' l' rk er):er=0:=by
 obtain⟨⟨H,t⟩,u,B⟩:=h.inv j m hk;exact(mb j t u.fH o).1
theorem ft.Q9(h:ft aa val goals x b l bj) (hu:az x y=true):az b y=true:=by
 induction h with
 | start=>exact hu
 | take _ _ _ j=>exact j
 | step _ m _ j=>exact m.Q9 j
theorem ft.idle(hu:∀k∈goals,ay k=true∨az x k=true) (h:ft aa val goals x b l bj):b=x∧l=[]∧bj=[]:=by
 induction h with
 | start=>exact⟨rfl,rfl,rfl⟩
 | @take b bj k _ m hn j=>grind [gS]
 | step _ _ _ j=>simp at j
end
end Go.Rc

namespace Go.Rc
open Go
theorem uR(l:List Rec) (k y:Key):aA (fl l k) y=if y=k then none else aA l y:=by
 unfold aA fl
 grind
section
variable {RT:Nat}{q:RL}{lf:Key→RL}{l l':List Rec}{r r':Rec}{k:Key}{ml:List (Key × Value)}{w0 w:World}{M Z:Nat→Prop}{L:List As}
theorem ff{y:Key}(h:aA (fl l k) y=some r):y≠k∧aA l y=some r:=by grind [uR]
theorem As.y8{w:World}{Z:Nat→Prop}(h:(As.gy RT lf l).ok Z w) (k:Key):(As.gy RT lf (Rc.fl l k)).ok Z w:=⟨fun y r hy=>h.1 y r (ff hy).2,fun y j r r' h1 m=>h.2 y j r r' (ff h1).2 (ff m).2⟩
theorem St.y8(h:St w0 M Z w (As.gy RT lf l::L)) (k:Key):St w0 M Z w (As.gy RT lf (Rc.fl l k)::L):=
 h.conv (As.y8 h.g0 k) fun x ⟨y,r,hy,e⟩=>⟨y,r,(ff hy).2,e⟩
theorem St.JU(h:St w0 M Z w (As.gy RT lf l::L)) (hk:aA l k=some r):St w0 M Z w (As.blk (lf k).b RT (r.row (lf k).a (lf k).n (lf k).c)::As.gy RT lf (Rc.fl l k)::L):=by
 have j:(As.gy RT lf l).ok Z w:=h.g0;refine h.split (j.1 k r hk).1 (As.y8 j k) (fun x m=>⟨k,r,hk,m⟩) (fun x ⟨y,r,hy,e⟩=>⟨y,r,(ff hy).2,e⟩) fun x m ⟨y,r2,hy,e⟩=>?_;obtain⟨h1,o⟩:=ff hy;exact h1 (j.2 y k _ _ o hk (e.symm.trans m))
theorem MF:wI lf k (lf k)=lf:=by
 funext y
 unfold wI
 grind
theorem St.GH(h:St w0 M Z w (As.blk (lf k).b RT (r'.row (lf k).a (lf k).n (lf k).c)::As.gy RT lf (Rc.fl l k)::L)) (hk:r'.key=k) (hr:Rd RR.key 2 Z w (lf k).a (lf k).n (lf k).c r'.reads) (j:r'.reads.length≤4000) (hl:∀y,aA l' y=if y=k then some r' else aA l y):St w0 M Z w (As.gy RT lf l'::L):=by
 subst hk
 have:=St.yZ (q:=lf r'.key) (l':=l') h hr j fun y=>by grind [uR]
 rwa [MF] at this
theorem dw.mark(h:dw l lf ml) (rev:Int) (G:List Key) (d:Bool):dw (l.map (a7 rev G d)) lf ml:=fun y=>by
 rw [h y,bY]
 cases aA l y <;> rfl
theorem dw.len(h:dw l lf ml) (hn:(ml.map (·.1)).Nodup):ml.length≤l.length:=by
 have h1:=eK hn (S:=l.map (·.key)) fun x m=>by
  cases j:aA l x with
  | none=>
   have o:bD ml x=none:=by rw [h x,j];rfl
   grind [lD]
  | some r=>
   obtain⟨g1,g2⟩:=aJ j
   grind
 simpa using h1
theorem sM{rev:Int}{G:List Key}{i:Nat}(hi:i<G.length) (d:Bool) (h:aA (l.map (a7 rev (G.take i) d)) G[i]=some r) (y:Key):aA (l.map (a7 rev (G.take (i+1)) d)) y=if y=G[i] then some (if d then {r with bA:=true} else {r with av:=rev}) else aA (l.map (a7 rev (G.take i) d)) y:=by
 have hT:G.take (i+1)=G.take i++[G[i]]:=List.take_succ_eq_append_getElem hi;rw [bY,bY,hT];rw [bY] at h
 by_cases e:y=G[i]
 ·
  rw [if_pos e,e]
  cases hr:aA l G[i] with
  | none=>rw [hr] at h;cases h
  | some q=>
   rw [hr] at h;simp only [Option.map_some,Option.some.injEq] at h ⊢;have j:=(aJ hr).2;subst h
   unfold a7
   grind
 rw [if_neg e]
 cases hr:aA l y with
 | none=>rfl
 | some q=>
  have j:=(aJ hr).2
  grind [a7]
theorem uS{rev:Int}{G:List Key}{d:Bool}:l.map (a7 rev (G.take 0) d)=l:=by
 simp only [List.take_zero]
 unfold a7
 simp
theorem uT{rev:Int}{g:List Key}{d:Bool}(h:∃r,aA l k=some r):∃r,aA (l.map (a7 rev g d)) k=some r∧r.key=k:=by grind [aA,bY]
end
/-! ### own slices that lose their last -/
section
variable {α:Type}{R:RR α}{E k n c:Nat}{a:Option Addr}{xs:List α}{x:α}{w0 w:World}{M Z:Nat→Prop}{L:List As}
theorem Ow.pop(h:Ow R E k Z w a n c (xs++[x])):Ow R E k Z w a xs.length c xs:=by
 obtain⟨hn,rows,hl,hk,j,m⟩:=h
 rcases List.eq_nil_or_concat rows with rfl | ⟨rs,r,rfl⟩
 ·
  simp at hl
 rw [List.concat_eq_append] at hl hk j m
 have t:rs.length=xs.length:=by simpa using hl
 have hr:r.length=k:=hk r (by simp)
 have B:rs.flatten.length=xs.length*k:=by
  have:∀(q:List (List Value)),(∀r∈q,r.length=k)→q.flatten.length=q.length*k:=by
   intro q G
   induction q with
   | nil=>simp
   | cons a q I=>grind
  grind
 refine⟨rfl,rs,t,fun r hr=>hk r (by simp [hr]),?_,fun i y s h1 C=>m i y s (by grind) (by grind)⟩;have h1:=j.1
 rcases j.cases with⟨rfl,rfl,rfl,J⟩ | ⟨g,cur,rfl,hb,D,N,F,hsz,o⟩
 ·
  simp at hn
 simp only [List.flatten_append,List.flatten_cons,List.flatten_nil,List.append_nil] at o h1;simp only [List.length_append,List.length_singleton] at hn
 have ht:cur.toList.take (xs.length*k)=rs.flatten:=by
  have C:=congrArg (List.take (xs.length*k)) o
  grind
 refine⟨fun u hu=>h1 u (List.mem_append_left _ hu),B,.inr ⟨g,c,cur,rfl,hb,D,by omega,F,hsz,ht⟩⟩
theorem St.Re(h:St w0 M Z w (As.os R E k a n c (xs++[x])::L)):St w0 M Z w (As.os R E k a xs.length c xs::L):=h.conv (Ow.pop h.g0) fun _ h=>h
end
/-! ### what the frames of a stack own -/
def x5(EK ES:Nat) (L:List (br × eB)):List As:=L.reverse.flatMap fun e=>[As.os RR.key EK 2 e.2.a e.2.n e.2.c e.1.reads,As.os RR.str ES 1 e.2.a2 e.2.n2 e.2.c2 e.1.ae]
theorem uU(EK ES:Nat) (L:List (br × eB)) (f:br) (A:eB):x5 EK ES (L++[(f,A)])=As.os RR.key EK 2 A.a A.n A.c f.reads::As.os RR.str ES 1 A.a2 A.n2 A.c2 f.ae::x5 EK ES L:=by simp [x5]
section
variable {EK ES:Nat}{L:List (br × eB)}{f g:br}{A:eB}{w0 w:World}{M Z:Nat→Prop}{l:List As}
theorem St.OT(h:St w0 M Z w (As.many (x5 EK ES (L++[(f,A)]))::l)):St w0 M Z w (As.os RR.key EK 2 A.a A.n A.c f.reads::As.os RR.str ES 1 A.a2 A.n2 A.c2 f.ae::As.many (x5 EK ES L)::l):=by
 rw [uU] at h;exact h.yT.p1.yT.p2
theorem St.MG(h:St w0 M Z w (As.os RR.key EK 2 A.a A.n A.c f.reads::As.os RR.str ES 1 A.a2 A.n2 A.c2 f.ae::As.many (x5 EK ES L)::l)):St w0 M Z w (As.many (x5 EK ES (L++[(f,A)]))::l):=by
 rw [uU];exact h.p2.p2.Em.p1.Em
theorem St.JV(h:St w0 M Z w (As.many (x5 EK ES L)::l)) (hr:g.reads=[]) (j:g.ae=[]):St w0 M Z w (As.many (x5 EK ES (L++[(g,⟨none,0,0,none,0,0⟩)]))::l):=by
 refine St.MG ?_;rw [hr,j];exact(h.dq RR.str ES 1).dq RR.key EK 2
theorem JW(h1:g.reads=f.reads) (h:g.ae=f.ae):x5 EK ES (L++[(g,A)])=x5 EK ES (L++[(f,A)]):=by grind [uU]
end
/-! ### what a stack finds -/
section
variable {x:cm}{l:List br}{k:Key}{val:Key→ByteArray}{r:Rec}
theorem MH(L:List (br × eB)) (k:Key):(L.any fun x=>decide (x.1.key=k))=gi (L.map Prod.fst) k:=by grind [gi]
theorem JX(h:(gi l k && !ax k)=true):bJ x l [] k=3:=by
 rw [iC,if_pos (by rw [Bool.and_comm];exact h)]
theorem JY(h:(gi l k && !ax k)=false) (j:(gi l k || (ay k || az x k))=true):bJ x l [] k=0:=by
 have hn:cM x l k=false:=gS.2 (by grind);rw [iC,if_neg (by rw [Bool.and_comm,h];simp),hn]
 rfl
theorem JZ(h:(gi l k && !ax k)=false) (j:(gi l k || (ay k || az x k))=false):bJ x l [] k=1:=by
 have hn:cM x l k=true:=by grind [gS]
 rw [iC,if_neg (by rw [Bool.and_comm,h];simp),hn]
 rfl
theorem HG:bJ x [] [] k=if cM x [] k=true then 1 else 0:=by rw [iC];simp [gi]
theorem Rf(hi:ay k=true):bS val x k=(bz x.ab k).value:=by grind [ax,ay,kH,bS,i1]
theorem MI(hc:ax k=true):bS val x k=val k:=if_pos hc
theorem MJ(hi:ay k=false) (hc:ax k=false) (h:aA x.ah k=some r) (j:r.av=x.ad):bS val x k=r.value:=by grind [bS,i1,gq,aQ]
theorem J0{v:ByteArray}{rd:List Key}(h:aA x.ah k=none):bF x k v rd=⟨k,v,rd,x.ad,x.ad,1+(rd.length:Int),false⟩:=by
 unfold bF
 rw [h]
 rfl
theorem J1{v:ByteArray}{rd:List Key}(h:aA x.ah k=some r):bF x k v rd=⟨k,v,rd,if r.value=v then r.changed else x.ad,x.ad,1+(rd.length:Int),false⟩:=by grind [bF,aQ]
end
/-! ### a step of the work -/
section
variable {aa:List aG}{val:Key→ByteArray}{b b':cm}{L L':List (br × eB)}{f g:br}{A:eB}{rk:List Key}{er:Int}{k:Key}
def FT(aa:List aG) (val:Key→ByteArray) (b:cm) (L:List (br × eB)) (f:br) (A:eB) (b':cm) (L':List (br × eB)) (rk:List Key) (er:Int):Prop:=
 FS aa val b (L.map Prod.fst) f b' (L'.map Prod.fst) rk er∧(er=0→L'.map Prod.fst≠L.map Prod.fst++[f])∧(L'=L∨(∃g,L'=L++[(g,A)]∧g.reads=f.reads∧g.ae=f.ae)∨∃k,L'=L++[(f,A)]++[(⟨k,false,0,[],[]⟩,⟨none,0,0,none,0,0⟩)])
theorem FT.pop(h:FS aa val b (L.map Prod.fst) f b' (L.map Prod.fst) rk er):FT aa val b L f A b' L rk er:=⟨h,fun _ e=>by simpa using congrArg List.length e,.inl rfl⟩
theorem FT.same(h:FS aa val b (L.map Prod.fst) f b' (L.map Prod.fst++[g]) rk er) (j:g≠f) (h1:g.reads=f.reads) (m:g.ae=f.ae):FT aa val b L f A b' (L++[(g,A)]) rk er:=
 ⟨by simpa using h,fun _ e=>by simp at e;exact j e,.inr (.inl ⟨g,rfl,h1,m⟩)⟩
theorem FT.push(h:FS aa val b (L.map Prod.fst) f b' (L.map Prod.fst++[f]++[⟨k,false,0,[],[]⟩]) rk er):FT aa val b L f A b' (L++[(f,A)]++[(⟨k,false,0,[],[]⟩,⟨none,0,0,none,0,0⟩)]) rk er:=
 ⟨by simpa using h,fun _ e=>by simp at e,.inr (.inr ⟨k,rfl⟩)⟩
theorem FT.err(h:FS aa val b (L.map Prod.fst) f b' (L.map Prod.fst++[f]) rk er) (he:er≠0):FT aa val b L f A b' (L++[(f,A)]) rk er:=
 ⟨by simpa using h,fun e=>absurd e he,.inr (.inl ⟨f,rfl,rfl,rfl⟩)⟩
theorem x7{x:cm}{l:List br}:bJ x l [] k≠2:=by grind [iC]
theorem HH{x:cm}{c:ob}(h:JO val x c=false):aV val x c.read≤(aD x.ah c.dC).av:=by grind [JO]
theorem J2{x:cm}{c:ob}(h:JO val x c=true):(aD x.ah c.dC).av<aV val x c.read:=by grind [JO]
end
section
variable {EK ES:Nat}{L L':List (br × eB)}{f:br}{A:eB}{w0 w:World}{M Z:Nat→Prop}{l:List As}
theorem St.ac0(h:St w0 M Z w (As.many (x5 EK ES (L++[(f,A)]))::l)) (j:L'=L∨(∃g,L'=L++[(g,A)]∧g.reads=f.reads∧g.ae=f.ae)∨∃k,L'=L++[(f,A)]++[(⟨k,false,0,[],[]⟩,⟨none,0,0,none,0,0⟩)]):St w0 M Z w (As.many (x5 EK ES L')::l):=by
 rcases j with rfl | ⟨g,rfl,h1,m⟩ | ⟨k,rfl⟩
 ·
  exact h.OT.drop.drop
 ·
  grind [JW]
 exact h.JV rfl rfl
end
end Go.Rc

