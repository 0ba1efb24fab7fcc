/- Base of the proof: frames, memory, ownership, and the plain meaning of rule systems. Conditions: as each lemma says. -/
import Derived.Test.YtfamnpoplgkkcaaGreatDoorSBg
import Derived.Test.YtfamnpoplgkkcaaGreatDoorSBf
import Derived.Shelf.SlSortCmp.WholeK
set_option linter.all false
namespace Go.Rc
open Go
def fR(l:List bq) (b:cz) (a:Key):Prop:=ay a=true∨(fZ l a=true∧ax a=true)∨az b a=true
section
variable {x b b':cz}{l l' p q:List bq}{f g:bq}{k a:Key}
theorem gQ:cH x l k=false↔ay k=true∨fZ l k=true∨az x k=true:=by
 unfold cH az
 grind
theorem iC:bH x l [] k=if (!ax k && fZ l k)=true then 3 else if cH x l k=true then 1 else 0:=by grind [bH,fZ]
theorem px(h1:bH x l [] k≠1) (m:bH x l [] k≠3):fR l x k:=by
 rw [iC] at h1 m
 by_cases j:(!ax k && fZ l k)=true
 ·
  grind
 rw [if_neg j] at h1
 by_cases hn:cH x l k=true
 ·
  grind
 rcases gQ.1 (by simpa using hn) with h | h | h
 ·
  exact .inl h
 ·
  exact .inr (.inl ⟨h,by rw [h] at j;simpa using j⟩)
 exact .inr (.inr h)
theorem uV(h:bH x l [] k=1):fZ l k=false∧ay k=false∧az x k=false:=by
 rw [iC] at h
 by_cases j:(!ax k && fZ l k)=true
 ·
  rw [if_pos j] at h;cases h
 rw [if_neg j] at h
 by_cases hn:cH x l k=true
 ·
  have m:¬(ay k=true∨fZ l k=true∨az x k=true):=fun h=>by grind [gQ]
  grind
 rw [if_neg hn] at h;cases h
theorem EC(h:bH x l [] k=3):ax k=false∧fZ l k=true:=by
 rw [iC] at h
 grind
theorem fE:fZ (p++q) k=(fZ p k || fZ q k):=by simp [fZ]
theorem kM:fZ [f] k=decide (f.key=k):=by simp [fZ]
theorem ED{z:bq}{p1:List bq}(h:p++[z]=p1++g::q):(q=[]∧p1=p∧g=z)∨∃j,q=j++[z]∧p=p1++g::j:=by
 rcases List.eq_nil_or_concat q with rfl | ⟨j,y,rfl⟩
 ·
  simp_all
 rw [List.concat_eq_append,← List.cons_append,← List.append_assoc] at h;obtain⟨h1,m⟩:=List.append_inj' h rfl
 grind
end
inductive FS (aa:List aG) (val:Key→ByteArray) (b:cz) (p:List bq) (f:bq):cz→List bq→List Key→Int→Prop where
 | stay:FS aa val b p f b (p++[f]) [] 0
 | full:f.running=true→(aH aa f.key f.ae).done=true→(!(aB b.ah f.key).isSome && decide (4000≤b.ah.length))=true→FS aa val b p f b (p++[f]) [] 45
 | put:f.running=true→(aH aa f.key f.ae).done=true→FS aa val b p f {b with ah:=eu b.ah (bL b f.key (aH aa f.key f.ae).value f.reads)} p [f.key] 0
 | push:f.running=true→(aH aa f.key f.ae).done=false→bH b (p++[f]) [] (aH aa f.key f.ae).ask=1→FS aa val b p f b (p++[f]++[⟨(aH aa f.key f.ae).ask,false,0,[],[]⟩]) [] 0
 | QZ:f.running=true→(aH aa f.key f.ae).done=false→bH b (p++[f]) [] (aH aa f.key f.ae).ask=3→FS aa val b p f b (p++[f]) [] 43
 | read:f.running=true→(aH aa f.key f.ae).done=false→bH b (p++[f]) [] (aH aa f.key f.ae).ask≠1→bH b (p++[f]) [] (aH aa f.key f.ae).ask≠3→
   FS aa val b p f b (p++[{f with reads:=f.reads++[(aH aa f.key f.ae).ask],ae:=f.ae++[bP val b (aH aa f.key f.ae).ask]}]) [] 0
 | up:f.running=false→az b f.key=true→FS aa val b p f b p [] 0
 | start:f.running=false→az b f.key=false→(aB b.ah f.key=none∨(aC b.ah f.key).bp=true)→FS aa val b p f b (p++[{f with running:=true,at_:=0}]) [] 0
 | mark:f.running=false→Live b.ah b.ad f.key→(bB b.ah (aA b.ah b.ad f.key)).length≤f.at_.toNat→FS aa val b p f (cL b (aA b.ah b.ad f.key) false) p [] 0
 | uW (c:oq):f.running=false→Live b.ah b.ad f.key→(bB b.ah (aA b.ah b.ad f.key))[f.at_.toNat]?=some c→bH b (p++[f]) [] c.read=1→FS aa val b p f b (p++[f]++[⟨c.read,false,0,[],[]⟩]) [] 0
 | MT (c:oq):f.running=false→Live b.ah b.ad f.key→(bB b.ah (aA b.ah b.ad f.key))[f.at_.toNat]?=some c→bH b (p++[f]) [] c.read=3→FS aa val b p f b (p++[f]) [] 43
 | pass (c:oq):f.running=false→Live b.ah b.ad f.key→(bB b.ah (aA b.ah b.ad f.key))[f.at_.toNat]?=some c→bH b (p++[f]) [] c.read≠1→bH b (p++[f]) [] c.read≠3→
   aR val b c.read≤(aC b.ah c.dE).av→FS aa val b p f b (p++[{f with at_:=f.at_+1}]) [] 0
 | fail (c:oq):f.running=false→Live b.ah b.ad f.key→(bB b.ah (aA b.ah b.ad f.key))[f.at_.toNat]?=some c→bH b (p++[f]) [] c.read≠1→bH b (p++[f]) [] c.read≠3→
   (aC b.ah c.dE).av<aR val b c.read→FS aa val b p f (if ax f.key then cL b (aA b.ah b.ad f.key) true else b) (p++[{f with running:=true,at_:=0}]) [] 0
section
variable {aa:List aG}{H:Int→List cB}{b0 b b':cz}{p q l l':List bq}{f g:bq}{bf:List Key}
structure FI (aa:List aG) (H:Int→List cB) (b0 b:cz) (p:List bq) (f:bq):Prop where
 key:∃i:Nat,i<aa.length∧f.key=aI aa (i:Int)
 new:fZ p f.key=false
 low:∀i j:Nat,i<aa.length→j<aa.length→f.key=aI aa (i:Int)→fZ p (aI aa (j:Int))=true→Lw aa i (nt aa j)
 run:f.running=true→bV b.ah b.ad f.key=false∧az b f.key=false∧B2 (valOf aa b0.ab) b0 f.key∧(∀i:Nat,i<aa.length→f.key=aI aa (i:Int)→∃n,n≤cO aa i∧f.reads=(dX (cy aa f.key) (valOf aa b0.ab) n).1∧f.ae=(dX (cy aa f.key) (valOf aa b0.ab) n).2)∧∀a∈f.reads,fR (p++[f]) b a
 DK:f.running=false→f.reads=[]∧f.ae=[]∧0≤f.at_∧(Live b.ah b.ad f.key→∀j c,j<f.at_.toNat→(bB b.ah (aA b.ah b.ad f.key))[j]?=some c→valOf aa (H (aC b.ah c.dE).av) c.read=valOf aa b0.ab c.read∧fR (p++[f]) b c.read∧aR (valOf aa b0.ab) b0 c.read≤(aC b.ah c.dE).av)
structure TI (aa:List aG) (H:Int→List cB) (b0 b:cz) (l:List bq) (bf:List Key):Prop where
 bi:Bi aa H (fun y=>fZ l y && ax y) b
 wy:Wy aa b0 ⟨b,[],bf,0⟩
 fr:∀p f q,l=p++f::q→FI aa H b0 b p f
 nr:∀f∈l,f.key∉bf∧az b0 f.key=false
theorem fR.jw{N:Key→Prop}{a:Key}(h:fR l b a) (j:iS (valOf aa b0.ab) N bf b.ad b.ah b'.ah) (hr:b'.ad=b.ad):fR l b' a:=
 h.imp id (Or.imp id (j.az hr))
theorem fR.mono{a:Key}(h:fR l b a) (j:∀k,fZ l k=true→fZ l' k=true):fR l' b a:=h.imp id (Or.imp (fun⟨x,y⟩=>⟨j _ x,y⟩) id)
theorem FI.jw{N:Key→Prop}(h:FI aa H b0 b p g) (m:iS (valOf aa b0.ab) N bf b.ad b.ah b'.ah) (hr:b'.ad=b.ad) (B:¬N g.key):FI aa H b0 b' p g:=by
 refine⟨h.key,h.new,h.low,fun o=>?_,fun o=>?_⟩
 ·
  obtain⟨h1,A,t,u,C⟩:=h.run o
  have F:aB b'.ah g.key=aB b.ah g.key:=by
   rcases m.pt g.key with e | ⟨e0,r,e1,e2,e3,_⟩ | ⟨⟨_,e0⟩,_⟩
   ·
    exact e
   ·
    grind [bK]
   exact absurd e0 B
  refine⟨?_,?_,t,u,fun a D=>(C a D).jw m hr⟩
  ·
   grind [bV,aC]
  grind [az,aC]
 obtain⟨h1,A,t,u⟩:=h.DK o;refine⟨h1,A,t,fun hl j c E hc=>?_⟩;rw [hr] at hl hc;rw [m.JP hl] at hc;obtain⟨p1,p2,p3⟩:=u (m.O6 hl) j c E hc;have hm:=(dj.1 (List.mem_of_getElem? hc)).1
 have e:aC b'.ah c.dE=aC b.ah c.dE:=by
  unfold aC
  rw [(m.group hl).2 _ hm]
 rw [e];exact⟨p1,p2.jw m hr,p3⟩
theorem TI.top(h:TI aa H b0 b (p++[f]) bf):FI aa H b0 b p f:=h.fr p f [] rfl
theorem TI.under(h:TI aa H b0 b (p++[f]) bf) {p1:List bq}(j:p=p1++g::q):FI aa H b0 b p1 g∧g.key≠f.key:=by
 refine⟨h.fr p1 g (q++[f]) (by rw [j];simp),fun e=>?_⟩;have h1:=h.top.new
 grind [fZ]
theorem TI.snoc(h:∀p1 g q,p=p1++g::q→FI aa H b0 b p1 g) (j:FI aa H b0 b p f):∀p1 g q,p++[f]=p1++g::q→FI aa H b0 b p1 g:=fun p1 g q m=>by grind [ED]
theorem l8(J:aq aa) {rk:List Key}{er:Int}(h:TI aa H b0 b (p++[f]) bf) (R:Good aa b0.ab ⟨b,[],[],0⟩) (hs:FS aa (valOf aa b0.ab) b p f b' l' rk er):er=0∧TI aa H b0 b' l' (bf++rk):=by
 have II:=J.len;have E:=h.bi;have o:=h.wy;have Wa:b.ad=b0.ad:=o.rev;have eS:b.ab=b0.ab:=o.aD;have hT:=h.top;obtain⟨i,hi,B⟩:=hT.key
 have yN:ay f.key=false:=by grind [cj]
 have hor:∀j:Nat,j<aa.length→fZ (p++[f]) (aI aa (j:Int))=true→j=i∨Lw aa i (nt aa j):=fun j u N=>by
  rw [fE,kM] at N;simp only [Bool.or_eq_true,decide_eq_true_eq] at N
  rcases N with N | N
  ·
   exact .inr (hT.low i j hi u B N)
  grind [dY]
 have Rb:∀{b2:cz}{C:List Key},iS (valOf aa b0.ab) (fun y=>y=f.key) C b.ad b.ah b2.ah→(∀y∈bf,y∈C)→b2.ad=b.ad→b2.ab=b.ab→(∀y r,aB b2.ah y=some r→r.bp=true→(aC b0.ah y).bp=true∨LS (valOf aa b0.ab) b0 y)→(∀y∈C,B2 (valOf aa b0.ab) b0 y)→(∀y∈C,y∈bf∨az b2 y=true)→(∀y,az b y=false→az b2 y=true→y∈C∨¬LS (valOf aa b0.ab) b0 y)→C.Nodup→Wy aa b0 ⟨b2,[],C,0⟩:=fun F EE h1 A O G X h6 h7=>
  o.step h1 A (by rw [← Wa];exact F.mono (fun _ h=>h) fun _ _=>trivial) EE O G X h6 h7
 -- a frame is acQ
 have Wb:∀a,eA aa a→bH b (p++[f]) [] a=1→(∀m:Nat,m<aa.length→a=aI aa (m:Int)→∀j:Nat,j<aa.length→fZ (p++[f]) (aI aa (j:Int))=true→Lw aa m (nt aa j))→TI aa H b0 b (p++[f]++[⟨a,false,0,[],[]⟩]) bf:=fun a GK hl B3=>by
  obtain⟨h1,A,O⟩:=uV hl;obtain⟨m,hm,ham,_⟩:=GK.gH A;refine⟨E.MR fun y t=>?_,o,TI.snoc h.fr ⟨⟨m,hm,ham⟩,h1,fun m' j hm' u e N=>B3 m' hm' e j u N,(fun hc=>by cases hc),fun _=>⟨rfl,rfl,Int.le_refl _,fun _ j c u=>by simp at u⟩⟩,fun g R=>?_⟩
  rotate_left
  ·
   rcases List.mem_append.1 R with R | R
   ·
    exact h.nr g R
   rw [List.mem_singleton] at R;subst R;refine⟨fun hr=>?_,o.uR O⟩
   have:=o.LV a hr
   grind
  rw [Bool.and_eq_true] at t ⊢;rw [fE,t.1];exact⟨rfl,t.2⟩
 -- the last frame is abp one of the same key
 have uU:∀{g:bq}{b2:cz}{C:List Key},g.key=f.key→Bi aa H (fun y=>fZ (p++[f]) y && ax y) b2→Wy aa b0 ⟨b2,[],C,0⟩→iS (valOf aa b0.ab) (fun y=>y=f.key) C b.ad b.ah b2.ah→b2.ad=b.ad→(∀y∈C,y∈bf)→FI aa H b0 b2 p g→TI aa H b0 b2 (p++[g]) C:=fun {g b2 C} hk Q Wc F hr EE hF=>by
  refine⟨?_,Wc,TI.snoc (fun p1 g q Y=>?_) hF,fun q S=>?_⟩
  ·
   have e:(fun y=>fZ (p++[g]) y && ax y)=fun y=>fZ (p++[f]) y && ax y:=by
    funext y
    grind [fE,kM]
   rw [e];exact Q
  ·
   obtain⟨h1,A⟩:=h.under Y;exact h1.jw F hr A
  rcases List.mem_append.1 S with S | S
  ·
   have:=h.nr q (List.mem_append_left _ S)
   grind
  rw [List.mem_singleton] at S;subst S
  have:=h.nr f (by simp)
  grind
 have MU:∀{g:bq},g.key=f.key→∀k,fZ (p++[f]) k=true→fZ (p++[g]) k=true:=fun hk k GL=>by grind [fE,kM]
 -- the last frame is done
 have Re:∀{b2:cz}{C:List Key},Bi aa H (fun y=>fZ (p++[f]) y && ax y) b2→az b2 f.key=true→Wy aa b0 ⟨b2,[],C,0⟩→iS (valOf aa b0.ab) (fun y=>y=f.key) C b.ad b.ah b2.ah→b2.ad=b.ad→(∀y∈C,y∈bf∨y=f.key)→TI aa H b0 b2 p C:=fun {b2 C} Q hu Wc F hr EE=>by
  refine⟨Q.off hu fun y t=>?_,Wc,fun p1 g q Y=>?_,fun g R=>?_⟩
  ·
   rw [Bool.and_eq_true,fE,kM] at t
   grind
  ·
   obtain⟨h1,A⟩:=h.under Y;exact h1.jw F hr A
  have h1:=h.nr g (List.mem_append_left _ R);refine⟨fun O=>?_,h1.2⟩
  rcases EE _ O with G | G
  ·
   exact h1.1 G
  obtain⟨p1,q1,Y⟩:=List.append_of_mem R;exact(h.under Y).2 G
 have JS:∀n,f.ae=(dX (cy aa f.key) (valOf aa b0.ab) n).2→aH aa f.key f.ae=cy aa (aI aa (i:Int)) (HD aa b0.ab i n):=fun n hn=>by
  rw [hn,B,eY hi (by omega)]
  rfl
 have acR:∀{y},fZ (p++[f]) y=true→∃j:Nat,j<aa.length∧y=aI aa (j:Int):=fun {y} t=>by
  rw [fE,kM] at t;simp only [Bool.or_eq_true,decide_eq_true_eq] at t
  rcases t with t | t
  ·
   unfold fZ at t
   obtain⟨g,UP,DN⟩:=List.any_eq_true.1 t;obtain⟨p1,q1,Y⟩:=List.append_of_mem UP;obtain⟨j,u,e⟩:=(h.under Y).1.key
   grind
  grind
 have amM:∀a,(∀m:Nat,m<aa.length→a=aI aa (m:Int)→∀j:Nat,j<aa.length→fZ (p++[f]) (aI aa (j:Int))=true→Lw aa m (nt aa j))→bH b (p++[f]) [] a≠3:=fun a B3 hl=>by
  obtain⟨h1,A⟩:=EC hl;obtain⟨j,u,rfl⟩:=acR A;have O:=B3 j u rfl j u A
  grind [bz,Lw,nt]
 have Wd:∀n,n<cO aa i→∀m:Nat,m<aa.length→pr aa b0.ab i n=aI aa (m:Int)→∀j:Nat,j<aa.length→fZ (p++[f]) (aI aa (j:Int))=true→Lw aa m (nt aa j):=fun n hn m hm e j u N=>by
  obtain⟨h1,A⟩:=(oc J hi (List.mem_of_getElem? (jh (aD:=b0.ab) hn))).2 m hm e
  grind
 have ajI:Live b.ah b.ad f.key→∀c∈bB b.ah (aA b.ah b.ad f.key),eA aa c.read∧∀m:Nat,m<aa.length→c.read=aI aa (m:Int)→∀j:Nat,j<aa.length→fZ (p++[f]) (aI aa (j:Int))=true→Lw aa m (nt aa j):=fun hl c hc=>by
  obtain⟨hm,D,Pb⟩:=dj.1 hc;obtain⟨j,u,ej⟩:=E.key (jT hl hm);obtain⟨rm,g1,g2,g3⟩:=jT hl hm;have h1:=(E.c.vr rm (aL g1).1).2;rw [(aL g1).2,ej,gk J u] at h1;rw [aK g1,h1] at D;have B3:=oc J u D;refine⟨B3.1.IF J,fun m AV e q S N=>?_⟩;obtain⟨G,X⟩:=B3.2 m AV e;rw [B] at hl hm;obtain⟨g4,g5⟩:=GI J E hi u hl (ej ▸ hm)
  grind
 have V9:∀{a},fR (p++[f]) b a→ay a=true∨((fZ (p++[f]) a && ax a)=true∧ax a=true)∨az b a=true:=fun {a} h=>h.imp id (Or.imp (fun⟨x,y⟩=>⟨by rw [x,y];rfl,y⟩) id)
 have EG:∀{b2:cz},f.running=false→Bi aa H (fun y=>fZ (p++[f]) y && ax y) b2→Wy aa b0 ⟨b2,[],bf,0⟩→iS (valOf aa b0.ab) (fun y=>y=f.key) bf b.ad b.ah b2.ah→b2.ad=b.ad→bV b2.ah b2.ad f.key=false→az b2 f.key=false→B2 (valOf aa b0.ab) b0 f.key→TI aa H b0 b2 (p++[{f with running:=true,at_:=0}]) bf:=fun {b2} hr Q Wc F We N hu hw=>by
  obtain⟨c1,c2,_,_⟩:=hT.DK hr;refine uU (g:={f with running:=true,at_:=0}) rfl Q Wc F We (fun _ h=>h) ⟨⟨i,hi,B⟩,hT.new,hT.low,fun _=>⟨N,hu,hw,fun j u e=>⟨0,Nat.zero_le _,c1,c2⟩,fun a D=>?_⟩,fun hc=>by cases hc⟩
  grind
 have B4:Live b.ah b.ad f.key→az b f.key=false:=fun⟨r,h1,_,A⟩=>ji h1 A
 cases hs with
 | stay=>grind
 | full hr I hn=>
  have:=E.len
  simp at hn
  omega
 | put hr I=>
  obtain⟨h1,A,O,G,X⟩:=hT.run hr;obtain⟨n,hn,AW,Rf⟩:=G i hi B;have ht:=JS n Rf
  have hnq:n=cO aa i:=by grind [GD]
  rw [hnq,GF J hi] at ht
  have Rg:f.reads=cT aa b0.ab i:=by
   rw [AW,hnq,B]
   rfl
  have hm:bL b f.key (aH aa f.key f.ae).value f.reads=bL b (aI aa (i:Int)) (valOf aa b0.ab (aI aa (i:Int))) (cT aa b0.ab i):=by rw [ht,Rg,B]
  rw [hm];have Q:=E.put J hi (fun hc=>by grind [fE,kM]) (by grind);rw [eS] at Q
  have Q:Bi aa H (fun y=>fZ (p++[f]) y && ax y) ⟨b.ad,b.ab,eu b.ah (bL b (aI aa (i:Int)) (valOf aa b0.ab (aI aa (i:Int))) (cT aa b0.ab i))⟩:=by rw [eS];exact Q
  have F:iS (valOf aa b0.ab) (fun y=>y=f.key) (bf++[f.key]) b.ad b.ah (eu b.ah (bL b (aI aa (i:Int)) (valOf aa b0.ab (aI aa (i:Int))) (cT aa b0.ab i))):=by
   rw [B] at h1 A;refine iS.put h1 (fun r hr=>?_) ⟨by simp [bL,B],B.symm⟩ rfl rfl rfl (fun r hr=>?_) fun hn=>?_
   ·
    have h1:=(E.c.DM r (aL hr).1).1
    have h6:r.av≠b.ad:=fun e=>by
     have:az b (aI aa (i:Int))=true:=aT.2 ⟨r,hr,e⟩
     grind
    omega
   ·
    have MS:aB b.ah (aI aa (i:Int))=some r:=hr
    unfold bL
    simp only [MS,aK MS]
    grind
   grind [bL]
  have py:az {b with ah:=eu b.ah (bL b (aI aa (i:Int)) (valOf aa b0.ab (aI aa (i:Int))) (cT aa b0.ab i))} f.key=true:=by
   rw [B];exact je (r:=bL b (aI aa (i:Int)) (valOf aa b0.ab (aI aa (i:Int))) (cT aa b0.ab i)) rfl
  refine⟨rfl,Re Q py (Rb F (fun y t=>by simp [t]) rfl rfl (fun y r U I=>?_) (fun y t=>?_) (fun y t=>?_) (fun y hu wK=>?_) (xY o.j3 fun hr=>by have:=o.LV _ hr;rw [A] at this;cases this)) F rfl fun y t=>by simpa using t⟩
  ·
   have W:aB (eu b.ah (bL b (aI aa (i:Int)) (valOf aa b0.ab (aI aa (i:Int))) (cT aa b0.ab i))) y=some r:=U;rw [cU] at W
   split at W
   ·
    have:=Option.some.inj W
    subst this
    cases I
   exact o.LU y r W I
  ·
   rcases List.mem_append.1 t with t | t
   ·
    exact o.bf y t
   grind
  ·
   grind
  refine .inl ?_
  by_cases e:y=f.key
  ·
   rw [e]
   simp
  obtain⟨r,hr,hv⟩:=aT.1 wK;have MS:aB (eu b.ah (bL b (aI aa (i:Int)) (valOf aa b0.ab (aI aa (i:Int))) (cT aa b0.ab i))) y=some r:=hr;rw [cU,if_neg (show ¬y=(bL b (aI aa (i:Int)) (valOf aa b0.ab (aI aa (i:Int))) (cT aa b0.ab i)).key from fun h=>e (h.trans B.symm))] at MS
  grind [aT]
 | push hr I hl=>
  obtain⟨h1,A,O,G,X⟩:=hT.run hr;obtain⟨n,hn,AW,Rf⟩:=G i hi B;have ht:=JS n Rf
  have V:n<cO aa i:=by grind [GF]
  rw [GD J hi V] at ht;rw [ht] at hl ⊢;rw [List.append_nil];exact⟨rfl,Wb _ (B1 J hi V) hl (Wd n V)⟩
 | QZ hr I hl=>
  obtain⟨h1,A,O,G,X⟩:=hT.run hr;obtain⟨n,hn,AW,Rf⟩:=G i hi B
  grind [GF,GD]
 | read hr I DO uX=>
  obtain⟨h1,A,O,G,X⟩:=hT.run hr;obtain⟨n,hn,AW,Rf⟩:=G i hi B;have ht:=JS n Rf
  have V:n<cO aa i:=by grind [GF]
  rw [GD J hi V] at ht;rw [ht] at DO uX ⊢;rw [List.append_nil];have MG:=px DO uX
  have Ra:bP (valOf aa b0.ab) b (pr aa b0.ab i n)=valOf aa b0.ab (pr aa b0.ab i n):=by
   rw [← eS];refine E.answer (by grind [B1]) ?_
   grind
  refine⟨rfl,uU (g:={f with reads:=f.reads++[pr aa b0.ab i n],ae:=f.ae++[bP (valOf aa b0.ab) b (pr aa b0.ab i n)]}) rfl E o (.refl _) rfl (fun _ h=>h) ⟨⟨i,hi,B⟩,hT.new,hT.low,fun _=>⟨h1,A,O,fun j u e=>?_,fun a D=>?_⟩,fun hc=>?_⟩⟩
  ·
   have:=dY J u hi (e.symm.trans B)
   subst this;refine⟨n+1,V,?_,?_⟩
   ·
    show f.reads++[pr aa b0.ab j n]=_
    rw [AW,B]
    rfl
   show f.ae++[bP (valOf aa b0.ab) b (pr aa b0.ab j n)]=_
   rw [Ra,Rf,B]
   rfl
  ·
   rcases List.mem_append.1 D with D | D
   ·
    exact(X a D).mono (MU rfl)
   rw [List.mem_singleton] at D;rw [D];exact MG.mono (MU rfl)
  grind
 | up hr hu=>
  rw [List.append_nil];exact⟨rfl,Re E hu o (.refl _) rfl fun _ h=>.inl h⟩
 | start hr hu hx=>
  rw [List.append_nil];refine⟨rfl,EG hr E o (.refl _) rfl ?_ hu ⟨yN,o.uR hu,?_⟩⟩
  ·
   rw [Bool.eq_false_iff]
   grind [bK,aK]
  cases U:aB b.ah f.key with
  | none=>exact .inl (o.none U)
  | some r=>
   refine .inr ?_
   rcases hx with hx | hx
   ·
    rw [U] at hx
    cases hx
   rw [aK U] at hx;exact o.LU _ r U hx
 | mark hr hl hn=>
  obtain⟨c1,c2,c3,c4⟩:=hT.DK hr;have c4:=c4 hl;have F:iS (valOf aa b0.ab) (fun y=>y=f.key) bf b.ad b.ah (cL b (aA b.ah b.ad f.key) false).ah:=iS.mark hl false (.inr rfl)
  have Q:=E.mark J hl fun m hm a D Pb=>by
   have oY:(⟨m,a⟩:oq)∈bB b.ah (aA b.ah b.ad f.key):=dj.2 ⟨hm,D,Pb⟩;obtain⟨j,u⟩:=List.mem_iff_getElem?.1 oY;have h1:=(List.getElem?_eq_some_iff.1 u).1;obtain⟨A,O,_⟩:=c4 j ⟨m,a⟩ (by omega) u
   grind
  have yM:=o.O8 hl fun m hm a D Pb=>by
   have oY:(⟨m,a⟩:oq)∈bB b.ah (aA b.ah b.ad f.key):=dj.2 ⟨hm,D,Pb⟩;obtain⟨j,u⟩:=List.mem_iff_getElem?.1 oY
   grind
  rw [List.append_nil];refine⟨rfl,Re Q ?_ (Rb F (fun _ h=>h) rfl rfl (fun y r' U I=>?_) o.bf (fun _ h=>.inl h) (fun y hu wK=>.inr (yM y (GH hu wK))) o.j3) F rfl fun _ h=>.inl h⟩
  ·
   obtain⟨r,h1,_⟩:=hl
   grind [gW,eQ]
  have W:(aB b.ah y).map (aY b.ad (aA b.ah b.ad f.key) false)=some r':=cv.symm.trans U;obtain⟨r,hr,rfl⟩:=Option.map_eq_some_iff.1 W;rw [sR] at I;exact o.LU y r hr I
 | uW c hr hl hc hk=>grind
 | MT c hr hl hc hk=>grind
 | pass c hr hl hc DR IP hle=>
  obtain⟨c1,c2,c3,c4⟩:=hT.DK hr;have MG:=px DR IP;rw [List.append_nil];refine⟨rfl,uU (g:={f with at_:=f.at_+1}) rfl E o (.refl _) rfl (fun _ h=>h) ⟨⟨i,hi,B⟩,hT.new,hT.low,fun hc=>?_,fun _=>⟨c1,c2,by show 0≤f.at_+1;omega,fun _ j c' u hcj=>?_⟩⟩⟩
  ·
   grind
  have hj':j<f.at_.toNat+1:=by grind
  rcases Nat.lt_or_ge j f.at_.toNat with V | IL
  ·
   obtain⟨p1,p2,p3⟩:=c4 hl j c' V hcj;exact⟨p1,p2.mono (MU rfl),p3⟩
  have e:j=f.at_.toNat:=by omega
  subst e;have Wf:(bB b.ah (aA b.ah b.ad f.key))[f.at_.toNat]?=some c':=hcj;rw [hc] at Wf
  have:=Option.some.inj Wf
  subst this;refine⟨?_,MG.mono (MU rfl),by rw [← o.changed E c.read];exact hle⟩;obtain⟨hm,D,Pb⟩:=dj.1 (List.mem_of_getElem? hc);obtain⟨rm,g1,g2,g3⟩:=jT hl hm;rw [aK g1] at hle D ⊢;have h1:=E.c.changed (aL g1).1 g3 D (by rw [eS];exact hle);rw [eS] at h1;exact h1
 | fail c hr hl hc DR IP V=>
  obtain⟨hm,D,Pb⟩:=dj.1 (List.mem_of_getElem? hc);have JR:=o.O7 E hl hm D Pb V;have EB:B2 (valOf aa b0.ab) b0 f.key:=⟨yN,o.uR (B4 hl),.inr (.inr (JR _ eQ))⟩;rw [List.append_nil]
  cases LW:ax f.key with
  | false=>
   simp only [Bool.false_eq_true,if_false];refine⟨trivial,EG hr E o (.refl _) rfl ?_ (B4 hl) EB⟩;rw [Bool.eq_false_iff]
   grind [bK]
  | true=>
   simp only [if_true];have F:iS (valOf aa b0.ab) (fun y=>y=f.key) bf b.ad b.ah (cL b (aA b.ah b.ad f.key) true).ah:=iS.mark hl true (.inl LW);obtain⟨r,f1,f2,f3⟩:=id hl
   have hfk:aB (cL b (aA b.ah b.ad f.key) true).ah f.key=some {r with bp:=true}:=by
    refine cv.trans ?_;rw [f1]
    show some (aY _ _ _ r)=_
    unfold aY
    rw [if_pos (by rw [(aL f1).2];exact eQ)]
    rfl
   refine⟨trivial,EG hr (E.bp fun m hm=>jT hl hm) (Rb F (fun _ h=>h) rfl rfl (fun y r' U I=>?_) o.bf (fun _ h=>.inl h) (fun y hu wK=>by grind [nz]) o.j3) F rfl ?_ (ji hfk f3) EB⟩
   ·
    have W:(aB b.ah y).map (aY b.ad (aA b.ah b.ad f.key) true)=some r':=cv.symm.trans U;obtain⟨q,S,rfl⟩:=Option.map_eq_some_iff.1 W
    by_cases t:y∈aA b.ah b.ad f.key
    ·
     exact .inr (JR y t)
    unfold aY at I
    rw [if_neg (by rw [(aL S).2];exact t)] at I;exact o.LU y q S I
   rw [Bool.eq_false_iff]
   grind [bK]
end
end Go.Rc

namespace Go.Rc
open Go
theorem As.exc{A:As}{Z:Nat→Prop}{w w':World}(h:A.ok Z w) (c:aU [] w w'):A.ok Z w':=A.st c.size (fun x _ j=>c.block x j (by simp)) h
theorem B5{k:Key}(h:cY k):ax k=decide (k.kind=32):=by
 have e:(decide (1≤k.kind) && decide (k.kind≤22))=false:=by
  rcases h with h | h
  ·
   grind
  grind
 unfold ax
 grind
/-! ### records in blocks -/
structure RL where
 b:Nat
 a:Option Addr
 n:Nat
 c:Nat
def WD.wc(D:WD) (v:Nat) (rev:Int) (ra:Option Addr) (rn rc:Nat):List Value:=
 [.slice D.ar D.r D.cr,.int .i64 rev,.slice D.a1 D.n1 D.c1,.slice D.a2 D.n2 D.c2,.map (some D.m),.pointer (some ⟨v,0,none⟩),.slice ra rn rc]
def As.gw(RT:Nat) (lf:Key→RL) (l:List Rec):As where
 fp x:=∃k r,aB l k=some r∧x=(lf k).b
 ok Z w:=(∀k r,aB l k=some r→bR w (lf k).b RT (r.row (lf k).a (lf k).n (lf k).c)∧Rd RR.key 2 Z w (lf k).a (lf k).n (lf k).c r.reads∧r.reads.length≤4000)∧∀k k' r r',aB l k=some r→aB l k'=some r'→(lf k).b=(lf k').b→k=k'
 lt h x hx:=by
  obtain⟨k,r,hk,rfl⟩:=hx;exact(h.1 k r hk).1.lt
 mono hZ h:=⟨fun k r hk=>by
  obtain⟨hb,hr,h4⟩:=h.1 k r hk;exact⟨hb,hr.mono hZ,h4⟩,h.2⟩
 st hs hc h:=⟨fun k r hk=>by
  obtain⟨hb,hr,h4⟩:=h.1 k r hk;exact⟨(As.blk (lf k).b RT (r.row (lf k).a (lf k).n (lf k).c)).st (Z:=fun _=>False) hs (fun x hx hl=>hc x (.inl ⟨k,r,hk,by rcases hx with hx | hx;exact hx;exact hx.elim⟩) hl) hb,hr.st hs (fun x hx=>hc x (.inr hx)),h4⟩,h.2⟩
theorem As.sS{RT:Nat}{lf:Key→RL}{l:List Rec}{Z:Nat→Prop}{w:World}(h:(As.gw RT lf l).ok Z w):(As.gw RT lf l).ok Z w:=h
def dy(l:List Rec) (lf:Key→RL) (ml:List (Key × Value)):Prop:=∀k,bE ml k=(aB l k).map fun _=>Value.pointer (some ⟨(lf k).b,0,none⟩)
theorem dy.nil(lf:Key→RL):dy [] lf []:=fun _=>rfl
theorem dy.no{l:List Rec}{lf:Key→RL}{ml:List (Key × Value)}{k:Key}(h:dy l lf ml) (j:aB l k=none):(bE ml k).getD (.pointer none)=.pointer none:=by rw [h k,j];rfl
theorem dy.yes{l:List Rec}{lf:Key→RL}{ml:List (Key × Value)}{k:Key}{r:Rec}(h:dy l lf ml) (j:aB l k=some r):bE ml k=some (.pointer (some ⟨(lf k).b,0,none⟩)):=by rw [h k,j];rfl
def wL(lf:Key→RL) (k:Key) (q:RL):Key→RL:=fun y=>if y=k then q else lf y
theorem lO{lf:Key→RL}{k:Key}{q:RL}:wL lf k q k=q:=if_pos rfl
theorem l9{lf:Key→RL}{k y:Key}{q:RL}(h:¬y=k):wL lf k q y=lf y:=if_neg h
theorem dy.put{l l':List Rec}{lf:Key→RL}{ml:List (Key × Value)}{r:Rec}{q:RL}(h:dy l lf ml) (hl:∀y,aB l' y=if y=r.key then some r else aB l y):dy l' (wL lf r.key q) (cM ml r.key (.pointer (some ⟨q.b,0,none⟩))):=fun k=>by
 rw [ee,hl k]
 by_cases e:k=r.key
 ·
  subst e;rw [if_pos rfl,if_pos rfl,lO]
  rfl
 rw [if_neg fun h=>e h.symm,if_neg e,l9 e,h k]
section
variable {RT:Nat}{q:RL}{lf:Key→RL}{l l':List Rec}{r:Rec}{w0 w:World}{M Z:Nat→Prop}{L:List As}
theorem St.acT(h:St w0 M Z w L) (RT:Nat) (lf:Key→RL):St w0 M Z w (As.gw RT lf []::L):=h.fact (B:=As.gw RT lf []) ⟨fun k r hk=>(by cases hk),fun k k' r r' hk=>(by cases hk)⟩ fun x j=>by obtain⟨k,r,hk,_⟩:=j;cases hk
theorem St.zh(h:St w0 M Z w (As.blk q.b RT (r.row q.a q.n q.c)::As.gw RT lf l::L)) (hr:Rd RR.key 2 Z w q.a q.n q.c r.reads) (u:r.reads.length≤4000) (hl:∀y,aB l' y=if y=r.key then some r else aB l y):St w0 M Z w (As.gw RT (wL lf r.key q) l'::L):=by
 have A:bR w q.b RT (r.row q.a q.n q.c):=h.g0;have m:(As.gw RT lf l).ok Z w:=h.g1;have o:∀k r',aB l k=some r'→q.b≠(lf k).b:=fun k r' hk e=>(List.pairwise_cons.1 h.rG).1 (As.gw RT lf l) M0 q.b rfl ⟨k,r',hk,e⟩;refine h.join (C:=As.gw RT (wL lf r.key q) l') ⟨fun k r' hk=>?_,fun k k' r1 r2 h1 j e=>?_⟩ fun x t=>?_
 ·
  rw [hl k] at hk
  by_cases e:k=r.key
  ·
   rw [if_pos e] at hk
   grind [lO]
  rw [if_neg e] at hk;rw [l9 e];exact m.1 k r' hk
 ·
  rw [hl k] at h1;rw [hl k'] at j
  by_cases e1:k=r.key
  ·
   by_cases e2:k'=r.key
   ·
    rw [e1,e2]
   rw [if_neg e2] at j
   grind [lO,l9]
  rw [if_neg e1] at h1
  by_cases e2:k'=r.key
  ·
   rw [l9 e1,e2,lO] at e;exact absurd e.symm (o k _ h1)
  rw [if_neg e2] at j;rw [l9 e1,l9 e2] at e;exact m.2 k k' _ _ h1 j e
 obtain⟨k,r',hk,rfl⟩:=t;rw [hl k] at hk
 by_cases e:k=r.key
 ·
  rw [e,lO];exact .inl rfl
 rw [if_neg e] at hk;rw [l9 e];exact .inr ⟨k,r',hk,rfl⟩
theorem Ow.z{α:Type}{f:α→List Value}{E k n c:Nat}{a:Option Addr}{xs:List α}{Z':Nat→Prop}(h:Ow (RR.flat f) E k Z' w a n c xs):Ow (RR.flat f) E k Z w a n c xs:=by
 obtain⟨hn,rows,hl,hk,h1,j⟩:=h;exact⟨hn,rows,hl,hk,h1,j⟩
theorem St.unz{A:As}{Z':Nat→Prop}(h:St w0 M Z' w [A]) (m:∀x,Z x→Z' x) (u:A.ok Z w):St w0 M Z w [A]:=
 ⟨h.bW,fun x j=>h.jG x (m x j),fun B o x j t=>h.lV B o x j (m x t),h.mO,h.rG,fun B o=>by grind⟩
end
theorem EH{l:List Rec}{r:Rec}(h:∀x∈l,x.key≠r.key) (y:Key):aB (l++[r]) y=if y=r.key then some r else aB l y:=by
 unfold aB
 grind
/-! ### entries of maps that are changed in place -/
section
variable {κ:Type} [DecidableEq κ] {enc:κ→Value}{P:Program}{kt:TypeId}{w w':World}{b:Nat}{l:List (κ × Value)}
def Rh{κ:Type}(enc:κ→Value) (w:World) (b:Nat) (l:List (κ × Value)) (k:κ) (z:Int):Prop:=
 ∃es clock,w.heap[b]?=some (.map es clock)∧(es.toList.map (fun e=>(e.key,e.val))=l.map (fun p=>(enc p.1,p.2))∧(l.map (·.1)).Nodup∧(∀e∈es.toList,e.born<clock)∧(es.toList.map (·.born)).Nodup)∧∃(j:Nat) (v:Value) (e:MapEntry),l[j]?=some (k,v)∧es[j]?=some e∧(e.born:Int)=z
def As.EJ{κ:Type}(enc:κ→Value) (b:Nat) (l:List (κ × Value)) (k:κ) (z:Int):As where
 fp x:=x=b
 ok _ w:=Rh enc w b l k z
 lt h x hx:=by
  subst hx;obtain⟨es,c,h,_⟩:=h
  grind
 mono _ h:=h
 st hs hc h:=by
  obtain⟨es,c,h,r⟩:=h;exact⟨es,c,(hc b (.inl rfl) (Array.getElem?_eq_some_iff.1 h).1).trans h,r⟩
theorem As.gmb{κ:Type}{enc:κ→Value}{b:Nat}{l:List (κ × Value)}{k:κ}{z:Int}{Z:Nat→Prop}{w:World}(h:(As.EJ enc b l k z).ok Z w):Rh enc w b l k z:=h
theorem zj{e T:TypeId}{h:Value}(t:KK P kt enc) (hT:P.underlying T=some (.map kt e)) (D:∀w,(zeroValue e).run P w=.ok h w) (hb:KM enc w b l) (k:κ) :
  ∃(z:Int) (w':World),(Instr.mapEntry T (.map (some b)) (enc k)).run P w=.ok (.tuple #[(bE l k).getD h,.int .i64 z]) w'∧aU [b] w w'∧Rh enc w' b (cM l k ((bE l k).getD h)) k z:=by
 obtain⟨es,clock,hm,he,hn,Q,E⟩:=hb;have u:b<w.heap.size:=(Array.getElem?_eq_some_iff.1 hm).1
 have hlen:es.toList.length=l.length:=by simpa using congrArg List.length he
 cases o:o0 l k 0 with
 | none=>
  obtain⟨h1,A⟩:=j5 o;refine⟨(clock:Int),_,?_,iL w b (.map (es.push {key:=enc k,val:=h,born:=clock}) (clock+1)),?_⟩
  ·
   rw [h1];simp only [Instr.mapEntry,Sem.run_bind,run_underlying hT,Result.andThen_ok,MapKept.run_getObj_map hm,t.check,t.find l es.toList k w he,o,D,MapKept.run_setObj_map _ hm,Option.getD_none]
   rfl
  rw [h1,A];refine⟨_,_,by first | (simp [u];done) | (simp [u];exact⟨rfl,rfl⟩),⟨by simp [he],by grind [gh],?_,?_⟩,l.length,h,{key:=enc k,val:=h,born:=clock},by simp,?_,rfl⟩
  ·
   grind
  ·
   grind
  grind
 | some p=>
  obtain⟨j,v0⟩:=p;obtain⟨m,h1,A,B,R,_⟩:=i1 o
  have F:j=m:=by omega
  subst F
  have G:j<es.size:=by grind
  obtain⟨y,C⟩:∃y,es[j]?=some y:=⟨_,Array.getElem?_eq_getElem G⟩
  have I:y.key=enc k∧y.val=v0:=by
   have:=congrArg (fun x=>x[j]?) he
   grind
  have J:(((es[j]?).map (·.key)).getD (enc k))=enc k:=by rw [C];exact I.1
  have N:(((es[j]?).map fun x=>(x.born:Int)).getD 0)=(y.born:Int):=by rw [C];rfl
  refine⟨(y.born:Int),_,?_,iL w b (.map (es.modify j fun e=>{e with key:=enc k}) clock),?_⟩
  ·
   rw [B];simp only [Instr.mapEntry,Sem.run_bind,run_underlying hT,Result.andThen_ok,MapKept.run_getObj_map hm,t.check,t.find l es.toList k w he,o,Instr.keyThatStays,J,t.same,if_true,Sem.run_pure,MapKept.run_setObj_map _ hm,Option.getD_some,N]
   rfl
  rw [B]
  have O:(es.modify j fun e=>{e with key:=enc k}).toList.map (fun e=>(e.key,e.val))=(l.set j (k,v0)).map (fun p=>(enc p.1,p.2))∧(es.modify j fun e=>{e with key:=enc k}).toList.map (·.born)=es.toList.map (·.born):=by
   constructor
   ·
    apply List.ext_getElem?
    intro i;have hi:=congrArg (fun x=>x[i]?) he
    grind
   apply List.ext_getElem?
   grind
  refine⟨_,_,by first | (simp [u];done) | (simp [u];exact⟨rfl,rfl⟩),⟨by grind,gh hn k _,?_,by rw [O.2];exact E⟩,j,v0,{y with key:=enc k},?_,?_,rfl⟩
  ·
   intro x o
   have:x.born∈(es.modify j fun e=>{e with key:=enc k}).toList.map (·.born):=List.mem_map.2 ⟨x,o,rfl⟩
   grind
  ·
   grind
  grind
theorem uY{α:Type}:∀{l:List α},l.Nodup→∀{i j:Nat}{x:α},l[i]?=some x→l[j]?=some x→i=j:=fun {l} h {i j x} h1 o=>by
 obtain⟨hi,e1⟩:=List.getElem?_eq_some_iff.1 h1;obtain⟨m,e2⟩:=List.getElem?_eq_some_iff.1 o
 rcases Nat.lt_trichotomy i j with g | g | g
 ·
  exact absurd (e1.trans e2.symm) (List.pairwise_iff_getElem.1 h i j hi m g)
 ·
  exact g
 exact absurd (e2.trans e1.symm) (List.pairwise_iff_getElem.1 h j i m hi g)
theorem uZ{T:TypeId}{k:κ}{z:Int}(hb:Rh enc w b l k z) (v:Value) :
  ∃w':World,(Instr.entryStore T (.map (some b)) (.int .i64 z) v).run P w=.ok () w'∧aU [b] w w'∧KM enc w' b (cM l k v):=by
 obtain⟨es,clock,hm,⟨he,hn,S,F⟩,j,v0,y,A,B,G⟩:=hb;have C:b<w.heap.size:=(Array.getElem?_eq_some_iff.1 hm).1;have I:j<es.size:=(Array.getElem?_eq_some_iff.1 B).1
 have J:es.findIdx? (fun e=>(e.born:Int) == z)=some j:=by
  rw [Array.findIdx?_eq_some_iff_getElem]
  have N:es[j]=y:=by grind
  refine⟨I,by rw [N];simpa using G,fun i hi=>?_⟩
  have U:(es[i]'(by omega)).born≠y.born:=fun e=>by
   have h1:(es.toList.map (·.born))[i]?=some y.born:=by grind
   have t:(es.toList.map (·.born))[j]?=some y.born:=by simp [B]
   grind [uY]
  grind
 have O:∃(h:Nat),o0 l k 0=some (h,v0)∧h=j:=by
  cases o:o0 l k 0 with
  | none=>
   have h1:=(j5 o).1;exact absurd (List.mem_map.2 ⟨(k,v0),List.mem_of_getElem? A,rfl⟩) (lG.1 h1)
  | some p=>
   obtain⟨h,v1⟩:=p;obtain⟨m,h1,t,_⟩:=i1 o
   have D:(l.map (·.1))[m]?=some k:=by rw [List.getElem?_map,t];rfl
   have u:(l.map (·.1))[j]?=some k:=by rw [List.getElem?_map,A];rfl
   have V:=uY hn D u
   grind
 obtain⟨h,o,Q⟩:=O;subst Q;obtain⟨m,h1,t,D,u,_⟩:=i1 o
 have R:h=m:=by omega
 subst R;refine⟨_,?_,iL w b (.map (es.modify h fun e=>{e with val:=v}) clock),?_⟩
 ·
  simp only [Instr.entryStore,Sem.run_bind,Result.andThen_ok,MapKept.run_getObj_map hm,asInt,asIntOf,Sem.run_pure,J,MapKept.run_setObj_map _ hm]
 have W:y.key=enc k:=by
  have:=congrArg (fun x=>x[h]?) he
  grind
 have E:(es.modify h fun e=>{e with val:=v}).toList.map (fun e=>(e.key,e.val))=(l.set h (k,v)).map (fun p=>(enc p.1,p.2))∧(es.modify h fun e=>{e with val:=v}).toList.map (·.born)=es.toList.map (·.born):=by
  constructor
  ·
   apply List.ext_getElem?
   intro i;have hi:=congrArg (fun x=>x[i]?) he
   grind
  apply List.ext_getElem?
  grind
 refine⟨_,_,by first | (simp [C];done) | (simp [C];exact⟨rfl,rfl⟩),by rw [u];exact E.1,gh hn k v,?_,by rw [E.2];exact F⟩;intro x o
 have:x.born∈(es.modify h fun e=>{e with val:=v}).toList.map (·.born):=List.mem_map.2 ⟨x,o,rfl⟩
 grind
variable {n:Nat}{kv:KV}{K:KV→World→Prop}{d:Tmp}{ty:TypeId}{pos:String}{af:Array Edge}{g:Option (Nat × Bool)}{T e:TypeId}
theorem OX.mapEntry{j v:Value}{k:κ}(u:KK P kt enc) (hT:P.underlying T=some (.map kt e)) (A:∀w,(zeroValue e).run P w=.ok j w) (hb:KM enc w b l) (B:(bE l k).getD j=v) {x y:Operand}(m:ev kv x=some (.map (some b))) (o:ev kv y=some (enc k)) (C:Nat.blt d n=true)
  (h:∀(z:Int) w',aU [b] w w'→Rh enc w' b (cM l k v) k z→K ((d,.tuple #[v,.int .i64 z])::kv) w'):OX P ⟨some d,.mapEntry T x y,ty,pos,af,g⟩ n kv w K:=by
 obtain⟨z,w',hr,h1,t⟩:=zj u hT A hb k;rw [B] at hr t;refine⟨rfl,C,by simp [known,opers,m,o],?_⟩
 have D:(execOp (jE kv) ⟨some d,.mapEntry T x y,ty,pos,af,g⟩).run P w=.ok (.value (.tuple #[v,.int .i64 z])) w':=by
  simp only [execOp,aM m,aM o,Sem.run_bind,hr,Result.andThen_ok];rfl
 rw [D];exact h z _ h1 t
theorem OX.entryStore{k:κ}{z:Int}{v:Value}(hb:Rh enc w b l k z) {x y u:Operand}(j:ev kv x=some (.map (some b))) (m:ev kv y=some (.int .i64 z)) (hu:ev kv u=some v)
  (h:∀w',aU [b] w w'→KM enc w' b (cM l k v)→K kv w'):OX P ⟨none,.entryStore T x y u,ty,pos,af,g⟩ n kv w K:=by
 obtain⟨w',hr,h1,o⟩:=uZ (P:=P) (T:=T) hb v;refine⟨rfl,rfl,by simp [known,opers,j,m,hu],?_⟩
 have t:(execOp (jE kv) ⟨none,.entryStore T x y u,ty,pos,af,g⟩).run P w=.ok .skip w':=by
  simp only [execOp,aM j,aM m,aM hu,Sem.run_bind,hr,Result.andThen_ok];rfl
 rw [t];exact h _ h1 o
end
section
variable {κ:Type}{enc:κ→Value}{w0 w w':World}{M Z:Nat→Prop}{L:List As}{b:Nat}{l l':List (κ × Value)}{k:κ}{z:Int}
theorem St.Wg(h:St w0 M Z w (As.map enc b l::L)) (s:aU [b] w w') (hm:Rh enc w' b l' k z):St w0 M Z w' (As.EJ enc b l' k z::L):=h.kC (s.p.mono fun x _ j=>by simpa [As.map] using j) hm fun x j=>.inl j
theorem St.Wh(h:St w0 M Z w (As.EJ enc b l k z::L)) (s:aU [b] w w') (hm:KM enc w' b l'):St w0 M Z w' (As.map enc b l'::L):=h.kC (s.p.mono fun x _ j=>by simpa [As.EJ] using j) hm fun x j=>.inl j
end
/-! ### a map to owned slices -/
def jK(L:List RE) (k:Key):Option RE:=L.find? fun e=>decide (e.key=k)
def iM(L:List RE) (k:Key):List Key:=((jK L k).map (·.reads)).getD []
def tA(L:List RE) (ml:List (Key × Value)):Prop:=∀k,bE ml k=(jK L k).map fun e=>Value.slice e.a e.n e.c
def qq(bg:Key→List Key) (x y:Key):Key→List Key:=fun z=>if z=x then bg z++[y] else bg z
def rest(L:List RE) (x:Key):List RE:=L.filter fun e=>decide (e.key≠x)
section
variable {L:List RE}{ml:List (Key × Value)}{x y:Key}{e:RE}{a:Option Addr}{n c:Nat}{v:Value}
theorem x2(h:jK L x=some e):e∈L∧e.key=x:=by grind [jK]
theorem tA.nil:tA [] []:=fun _=>rfl
theorem rR(h:List Key) (z:Key):jK (⟨x,a,n,c,h⟩::rest L x) z=if z=x then some ⟨x,a,n,c,h⟩ else jK L z:=by
 unfold jK rest
 grind
theorem tA.put(h:tA L ml) (j:List Key):tA (⟨x,a,n,c,j⟩::rest L x) (cM (cM ml x v) x (.slice a n c)):=fun z=>by
 rw [ee,rR]
 by_cases e:x=z
 ·
  subst e
  simp
 rw [if_neg e,if_neg fun h=>e h.symm,ee,if_neg e];exact h z
theorem JT(z:Key):iM (⟨x,a,n,c,iM L x++[y]⟩::rest L x) z=qq (iM L) x y z:=by
 unfold qq
 by_cases h:z=x
 ·
  subst h;rw [if_pos rfl]
  show((jK _ z).map _).getD []=_
  rw [rR,if_pos rfl]
  rfl
 rw [if_neg h]
 show((jK _ z).map _).getD []=((jK L z).map _).getD []
 rw [rR,if_neg h]
theorem MV:iM (⟨x,a,n,c,iM L x++[y]⟩::rest L x)=qq (iM L) x y:=funext JT
theorem EL(h:(L.map (·.key)).Nodup) (j:List Key):(((⟨x,a,n,c,j⟩:RE)::rest L x).map (·.key)).Nodup:=by
 rw [List.map_cons,List.nodup_cons];refine⟨fun m=>?_,((List.filter_sublist (l:=L)).map (·.key)).nodup h⟩;obtain⟨e,he,o⟩:=List.mem_map.1 m
 have:=(List.mem_filter.1 he).2
 simp at this
 exact this o
theorem x3:∀{L:List RE},(L.map (·.key)).Nodup→jK L x=some e→L.Perm (e::rest L x)
 | [],_,h=>by cases h
 | q::L,hn,h=>by
  rw [List.map_cons,List.nodup_cons] at hn
  unfold jK at h
  by_cases j:q.key=x
  ·
   rw [List.find?_cons_of_pos (by simpa using j)] at h
   cases h
   have:rest (e::L) x=L:=by
    unfold rest
    simp_all
   rw [this]
  rw [List.find?_cons_of_neg (by simpa using j)] at h
  have m:rest (q::L) x=q::rest L x:=by
   unfold rest
   grind
  rw [m];exact((x3 hn.2 h).cons q).trans (.swap _ _ _)
variable {w0 w:World}{M Z:Nat→Prop}{l:List As}{EK:Nat}
theorem St.Wi(hn:(L.map (·.key)).Nodup) (hm:tA L ml) (x:Key) (h:St w0 M Z w (As.many (L.map (RE.as EK))::l)):∃(a:Option Addr) (n c:Nat),(bE ml x).getD (.slice none 0 0)=.slice a n c∧St w0 M Z w (As.os RR.key EK 2 a n c (iM L x)::As.many ((rest L x).map (RE.as EK))::l):=by
 cases j:jK L x with
 | none=>
  refine⟨none,0,0,by rw [hm x,j];rfl,?_⟩
  have e1:iM L x=[]:=by unfold iM;rw [j];rfl
  have e2:rest L x=L:=by
   unfold rest
   rw [List.filter_eq_self];intro e he
   have:=List.find?_eq_none.1 j e he
   simpa using this
  rw [e1,e2];exact h.dp _ _ _
 | some e=>
  refine⟨e.a,e.n,e.c,by rw [hm x,j];rfl,?_⟩
  have e1:iM L x=e.reads:=by unfold iM;rw [j];rfl
  rw [e1];exact(St.V2 ((x3 hn j).map (RE.as EK)) h).y7
theorem St.acV{j:List Key}(h:St w0 M Z w (As.os RR.key EK 2 a n c j::As.many ((rest L x).map (RE.as EK))::l)):St w0 M Z w (As.many (((⟨x,a,n,c,j⟩:RE)::rest L x).map (RE.as EK))::l):=h.Ew
def FBK(L:List RE):FZ where
 p Z w:=∀e∈L,Rd RR.key 2 Z w e.a e.n e.c e.reads
 mono hZ h:=fun e he=>(h e he).mono hZ
 st hs hc h:=fun e he=>(h e he).st hs hc
theorem St.bkF(hl:∀e∈L,e.reads.length≤140737488355328) (h:St w0 M Z w (As.many (L.map (RE.as EK))::l)):St w0 M (fun x=>Z x∨(As.many (L.map (RE.as EK))).fp x) w (As.fz (FBK L)::l):=by
 have hm:(As.many (L.map (RE.as EK))).ok Z w:=h.ok _ M0
 refine h.freeze (B:=As.fz (FBK L)) (fun e he=>?_) fun x j=>j
 have m:Ow RR.key EK 2 Z w e.a e.n e.c e.reads:=As.gs (hm.2 _ (List.mem_map_of_mem (f:=RE.as EK) he))
 exact(m.rd (hl e he)).mono fun x j=>j.imp id fun j=>⟨_,List.mem_map_of_mem (f:=RE.as EK) he,j⟩
theorem tA.read(hm:tA L ml) (j:(FBK L).p Z w) (x:Key):∃(a:Option Addr) (n c:Nat),(bE ml x).getD (.slice none 0 0)=.slice a n c∧Rd RR.key 2 Z w a n c (iM L x):=by
 cases h:jK L x with
 | none=>
  refine⟨none,0,0,by rw [hm x,h];rfl,?_⟩
  grind [iM,Rd.nil]
 | some e=>
  refine⟨e.a,e.n,e.c,by rw [hm x,h];rfl,?_⟩
  have e1:iM L x=e.reads:=by unfold iM;rw [h];rfl
  rw [e1];exact j e (x2 h).1
theorem JU(hn:(L.map (·.key)).Nodup) (he:e∈L):iM L e.key=e.reads:=by
 have:jK L e.key=some e:=by
  cases h:jK L e.key with
  | none=>
   have:=List.find?_eq_none.1 h e he
   simp at this
  | some q=>
   obtain⟨h1,o⟩:=x2 h;obtain⟨i,hi⟩:=List.mem_iff_getElem?.1 h1;obtain⟨j,m⟩:=List.mem_iff_getElem?.1 he
   have g1:(L.map (·.key))[i]?=some e.key:=by grind
   have g2:(L.map (·.key))[j]?=some e.key:=by rw [List.getElem?_map,m];rfl
   grind [uY]
 unfold iM
 rw [this]
 rfl
end
/-! ### a search there and back -/
section
variable {l:List Rec}{rev:Int}{k:Key}{bg:Key→List Key}{L:List Key}{i q:Nat}{x y:Key}
structure tB (l:List Rec) (rev:Int) (k:Key) (bg:Key→List Key) (L:List Key) (i q:Nat):Prop where
 j3:L.Nodup
 mem:k∈L
 sub:∀x∈L,x=k∨bT l rev k x
 cl:∀j y,j<i→L[j]?=some y→∀x,Ld l rev y x→x∈L∧y∈bg x
 cur:∀y,L[i]?=some y→∀x∈(aC l y).reads.take q,bV l rev x=true→x∈L∧y∈bg x
 bk:∀x y,y∈bg x→y∈L∧Ld l rev y x
 len:∀x,(bg x).length≤4000*i+q
theorem tB.start(h:∀x,bg x=[]):tB l rev k bg [k] 0 0:=
 ⟨by simp,by simp,by simp,fun j y h=>by omega,fun y _ x o=>by simp at o,fun x y m=>(by rw [h] at m;cases m),fun x=>by rw [h];simp⟩
theorem tB.op(h:tB l rev k bg L i q) (j:bV l rev k=true) (m:x∈L):bV l rev x=true:=by
 rcases h.sub x m with rfl | h1
 ·
  exact j
 exact h1.gA
theorem tB.le(h:tB l rev k bg L i q) (j:bV l rev k=true):L.length≤l.length:=by
 have:=eP h.j3 fun x m=>nk (h.op j m)
 simpa using this
theorem tB.skip(h:tB l rev k bg L i q) (m:L[i]?=some y) (t:(aC l y).reads[q]?=some x) (u:bV l rev x=false):tB l rev k bg L i (q+1):=
 {h with
  cur:=fun C o A B j=>by
   rw [m] at o
   cases o
   rcases ny t B with h1 | rfl
   ·
    exact h.cur y m A h1 j
   rw [u] at j;cases j
  len:=fun x=>by have:=h.len x;omega}
theorem qt{z u:Key}(h:u∈bg z):u∈qq bg x y z:=by grind [qq]
theorem x4:y∈qq bg x y x:=by unfold qq;simp
theorem u0{z u:Key}(h:u∈qq bg x y z):u∈bg z∨(z=x∧u=y):=by grind [qq]
theorem B6(z:Key):(qq bg x y z).length≤(bg z).length+1:=by
 unfold qq
 split <;> simp
theorem tB.rA(h:tB l rev k bg L i q) (t:L[i]?=some y) (B:(aC l y).reads[q]?=some x) (D:bV l rev x=true) (hm:x∈L):tB l rev k (qq bg x y) L i (q+1):=
 {h with
  cl:=fun j A C m o hl=>⟨(h.cl j A C m o hl).1,qt (h.cl j A C m o hl).2⟩
  cur:=fun A m o E F=>by
   rw [t] at m
   cases m
   rcases ny B E with h1 | rfl
   ·
    have:=h.cur y t o h1 F
    grind [qt]
   exact⟨hm,x4⟩
  bk:=fun z u hu=>by
   rcases u0 hu with h1 | ⟨rfl,rfl⟩
   ·
    exact h.bk z u h1
   exact⟨List.mem_of_getElem? t,List.mem_of_getElem? B,D⟩
  len:=fun z=>by have:=h.len z;grind [B6]}
theorem tB.new(h:tB l rev k bg L i q) (o:L[i]?=some y) (B:(aC l y).reads[q]?=some x) (G:bV l rev x=true) (hm:x∉L):tB l rev k (qq bg x y) (L++[x]) i (q+1):=by
 have N:i<L.length:=(List.getElem?_eq_some_iff.1 o).1;have C:Ld l rev y x:=⟨List.mem_of_getElem? B,G⟩
 have rA:∀{j z},j≤i→(L++[x])[j]?=some z→L[j]?=some z:=fun D O=>by grind
 refine⟨by grind [j3],by simp [h.mem],fun z m=>?_,fun j E D t A hl=>?_,fun E t A I J=>?_,fun z u hu=>?_,fun z=>?_⟩
 ·
  rcases List.mem_append.1 m with m | m
  ·
   exact h.sub z m
  rw [List.mem_singleton] at m;subst m
  rcases h.sub y (List.mem_of_getElem? o) with rfl | h1
  ·
   exact .inr (.one C)
  exact .inr (.step h1 C)
 ·
  have h1:=h.cl j E D (rA (by omega) t) A hl
  grind [qt]
 ·
  have F:=rA (Nat.le_refl _) t;rw [o] at F
  cases F
  rcases ny B I with h1 | rfl
  ·
   have:=h.cur y o A h1 J
   grind [qt]
  exact⟨by simp,x4⟩
 ·
  rcases u0 hu with h1 | ⟨rfl,rfl⟩
  ·
   have:=h.bk z u h1
   grind
  grind
 have:=h.len z
 grind [B6]
theorem tB.next(h:tB l rev k bg L i q) (o:L[i]?=some y) (u:(aC l y).reads.length≤q) (C:q≤4000):tB l rev k bg L (i+1) 0:=
 {h with
  cl:=fun j A D m t hl=>by
   rcases Nat.lt_or_ge j i with h1 | h1
   ·
    exact h.cl j A h1 m t hl
   have e:j=i:=by omega
   subst e;rw [o] at m
   cases m
   exact h.cur y o t (by rw [List.take_of_length_le u];exact hl.1) hl.2
  cur:=fun _ _ x B=>by simp at B
  len:=fun x=>by have:=h.len x;omega}
theorem tB.done(h:tB l rev k bg L i q) (hi:L.length≤i) (x:Key):x∈L↔x=k∨bT l rev k x:=by
 have m:∀y∈L,∀x,Ld l rev y x→x∈L∧y∈bg x:=fun y t x hl=>by
  obtain⟨j,o⟩:=List.mem_iff_getElem?.1 t
  have:=(List.getElem?_eq_some_iff.1 o).1
  exact h.cl j y (by omega) o x hl
 refine⟨h.sub x,?_⟩;rintro(rfl | h1)
 ·
  exact h.mem
 induction h1 with
 | one h1=>exact(m _ h.mem _ h1).1
 | step _ u A=>exact(m _ A _ u).1
theorem tB.acX(h:tB l rev k bg L i q) (hi:L.length≤i) (x y:Key):y∈bg x↔(y=k∨bT l rev k y)∧Ld l rev y x:=by
 rw [← h.done hi y];refine⟨h.bk x y,fun⟨h1,o⟩=>?_⟩;obtain⟨j,m⟩:=List.mem_iff_getElem?.1 h1
 have:=(List.getElem?_eq_some_iff.1 m).1
 exact(h.cl j y (by omega) m x o).2
structure x5 (l:List Rec) (rev:Int) (k:Key) (bg:Key→List Key) (L:List Key) (i q:Nat):Prop where
 j3:L.Nodup
 mem:k∈L
 sub:∀x∈L,x=k∨xX l rev k x
 cl:∀j y,j<i→L[j]?=some y→∀x∈bg y,x∈L
 cur:∀y,L[i]?=some y→∀x∈(bg y).take q,x∈L
theorem x5.start:x5 l rev k bg [k] 0 0:=⟨by simp,by simp,by simp,fun j y h=>by omega,fun y _ x m=>by simp at m⟩
theorem x5.le(h:x5 l rev k bg L i q) (j:bV l rev k=true):L.length≤l.length:=by
 have:=eP h.j3 fun x m=>nk (l:=l) (rev:=rev) (by
  rcases h.sub x m with rfl | h1
  ·
   exact j
  exact h1.gA)
 simpa using this
theorem x5.has(h:x5 l rev k bg L i q) (j:L[i]?=some y) (o:(bg y)[q]?=some x) (hm:x∈L):x5 l rev k bg L i (q+1):=
 {h with
  cur:=fun A m t u=>by
   rw [j] at m
   cases m
   rcases ny o u with h1 | rfl
   ·
    exact h.cur y j t h1
   exact hm}
theorem x5.add(h:x5 l rev k bg L i q) (I:∀x y,y∈bg x↔(y=k∨bT l rev k y)∧Ld l rev y x) (o:L[i]?=some y) (D:(bg y)[q]?=some x) (hm:x∉L):x5 l rev k bg (L++[x]) i (q+1):=by
 have O:i<L.length:=(List.getElem?_eq_some_iff.1 o).1;obtain⟨h1,t⟩:=(I y x).1 (List.mem_of_getElem? D)
 have J:bT l rev k x:=by grind [mem]
 have N:bT l rev x k:=by
  rcases h.sub y (List.mem_of_getElem? o) with rfl | u
  ·
   exact .one t
  exact(bT.one t).trans u.2
 have rA:∀{j z},j≤i→(L++[x])[j]?=some z→L[j]?=some z:=fun E t=>by grind
 refine⟨by grind [j3],by simp [h.mem],fun z m=>?_,fun j F E A B C=>by simp [h.cl j F E (rA (by omega) A) B C],fun F A B C=>?_⟩
 ·
  rcases List.mem_append.1 m with m | m
  ·
   exact h.sub z m
  rw [List.mem_singleton] at m;subst m;exact .inr ⟨J,N⟩
 have G:=rA (Nat.le_refl _) A;rw [o] at G
 cases G
 rcases ny D C with u | rfl
 ·
  simp [h.cur y o B u]
 simp
theorem x5.next(h:x5 l rev k bg L i q) (o:L[i]?=some y) (C:(bg y).length≤q):x5 l rev k bg L (i+1) 0:=
 {h with
  cl:=fun j u D m t A=>by
   rcases Nat.lt_or_ge j i with h1 | h1
   ·
    exact h.cl j u h1 m t A
   have e:j=i:=by omega
   subst e;rw [o] at m
   cases m
   exact h.cur y o t (by grind [List.take_of_length_le])
  cur:=fun _ _ x B=>by simp at B}
theorem x5.done(h:x5 l rev k bg L i q) (B:bV l rev k=true) (C:∀x y,y∈bg x↔(y=k∨bT l rev k y)∧Ld l rev y x) (hi:L.length≤i) (x:Key):x∈L↔x∈aA l rev k:=by
 have D:∀y∈L,∀x∈bg y,x∈L:=fun y m x o=>by
  obtain⟨j,A⟩:=List.mem_iff_getElem?.1 m
  have:=(List.getElem?_eq_some_iff.1 A).1
  exact h.cl j y (by omega) A x o
 rw [cE]
 constructor
 ·
  intro o
  exact(h.sub x o).imp id fun h1=>⟨B,h1⟩
 rintro(rfl | ⟨_,h1,t⟩)
 ·
  exact h.mem
 have key:∀{x y:Key},bT l rev x y→(x=k∨bT l rev k x)→y∈L→x∈L:=by
  intro x y t h1
  induction t with
  | one u=>grind
  | step u E F=>
   refine fun m=>F (D _ m _ ((C _ _).2 ⟨.inr ?_,E⟩))
   rcases h1 with rfl | h1
   ·
    exact u
   exact h1.trans u
 exact key t (.inr h1) h.mem
theorem x5.group(h:x5 l rev k bg L i q) (j:bV l rev k=true) (m:∀x y,y∈bg x↔(y=k∨bT l rev k y)∧Ld l rev y x) (hi:L.length≤i) {L':List Key}(o:y9 L') (t:L'.Perm L):L'=aA l rev k:=
 uQ o (lN _ _ _) fun x=>(t.mem_iff).trans (h.done j m hi x)
end
/-! ### what has changed, and why a key would be run -/
section
variable {val:Key→ByteArray}{x:cz}{k:Key}{r:Rec}
theorem Ri(hi:ay k=true):aR val x k=(bw x.ab k).changed:=by unfold aR;rw [if_pos hi]
theorem Rj(hi:ay k=false) (h:aB x.ah k=none):aR val x k=x.ad:=by grind [aR]
theorem Rk(hi:ay k=false) (h:aB x.ah k=some r) (j:r.av=x.ad):aR val x k=r.changed:=by grind [aR,aK]
theorem GM(hi:ay k=false) (h:aB x.ah k=some r) (j:¬r.av=x.ad):aR val x k=if val k=r.value then r.changed else x.ad:=by
 unfold aR
 rw [hi,aK h,h]
 grind
def AX(val:Key→ByteArray) (x:cz) (c:oq):Bool:=decide ((aC x.ah c.dE).av<aR val x c.read)
noncomputable def k8(val:Key→ByteArray) (x:cz) (k:Key):Int × Key:=
 if (ay k || az x k)=true then (0,dW)
 else match aB x.ah k with
  | none=>(1,dW)
  | some r=>if r.bp=true then (3,dW) else
   match (bB x.ah (aA x.ah x.ad k)).find? (AX val x) with
   | none=>(0,dW)
   | some c=>(if c.dE=k then 2 else 3,c.read)
theorem Rl(h:(ay k || az x k)=true):k8 val x k=(0,dW):=by unfold k8;rw [if_pos h]
theorem Rm(h:(ay k || az x k)=false) (j:aB x.ah k=none):k8 val x k=(1,dW):=by unfold k8;rw [if_neg (by rw [h];simp),j]
theorem HH(h:(ay k || az x k)=false) (j:aB x.ah k=some r) (m:r.bp=true):k8 val x k=(3,dW):=by
 unfold k8
 grind
theorem JV(h:(ay k || az x k)=false) (m:aB x.ah k=some r) (o:r.bp=false) (hn:∀j c,j<(bB x.ah (aA x.ah x.ad k)).length→(bB x.ah (aA x.ah x.ad k))[j]?=some c→AX val x c=false):k8 val x k=(0,dW):=by
 unfold k8
 rw [if_neg (by rw [h];simp),m]
 simp only
 rw [if_neg (by rw [o];simp),nc (Nat.le_refl _) hn]
def KR(aa:List aG) (l:List Rec):Prop:=∀r∈l,eA aa r.key∧ay r.key=false∧∀a∈r.reads,eA aa a
theorem KR.acY{aa:List aG}{l:List Rec}(h:KR aa l):∀r∈l,cY r.key:=fun r hr=>(h r hr).1.cY
theorem KR.aD{aa:List aG}{l:List Rec}(h:KR aa l) (hi:ay k=true):aB l k=none:=by
 cases j:aB l k with
 | none=>rfl
 | some r=>
  obtain⟨h1,m⟩:=aL j
  have:=(h r h1).2.1
  grind
theorem GN{l:List Rec}{rev:Int}(j:aB l k=some r):∀m∈aA l rev k,∃q,aB l m=some q:=fun m hm=>by
 rcases cE.1 hm with rfl | ⟨_,h⟩
 ·
  exact⟨r,j⟩
 obtain⟨q,o,_⟩:=bK.1 h.gA;exact⟨q,o⟩
theorem HI{l:List Rec}(hr:∀r∈l,r.reads.length≤4000) {group:List Key}(h:group.length≤4001) (i:Nat):((group.take i).flatMap fun m=>da group m (aC l m).reads).length≤100000000:=by
 have h1:∀s:List Key,(s.flatMap fun m=>da group m (aC l m).reads).length≤s.length*4000:=by
  intro s
  induction s with
  | nil=>simp
  | cons m s j=>
   simp only [List.flatMap_cons,List.length_append,List.length_cons];have o:=jR group m (aC l m).reads
   have t:(aC l m).reads.length≤4000:=by
    cases u:aB l m with
    | none=>grind [aC,nb]
    | some r=>grind [aK,aL]
   rw [Nat.add_mul]
   omega
 grind
end
end Go.Rc

namespace Go.Rc
open Go
theorem nA(n:cB):∀l:List cB,(fP n l false).find? (fun x=>x.key == n.key)=some n
 | []=>by simp [fP]
 | x::xs=>by
  by_cases h:0≤bD x.key n.key
  ·
   simp [fP,h]
  have h0:¬bD x.key n.key=0:=by omega
  have j:(x.key == n.key)=false:=by
   rw [beq_eq_false_iff_ne];intro e;rw [e,iw] at h0;exact h0 rfl
  have:=nA n xs
  simp [fP,h,h0,j,this]
theorem ks(n:cB) (l:List cB):bw (fP n l false) n.key=n:=by grind [bw,nA]
structure LX (x:cz) (l:List Change) (y:cz):Prop where
 same:∀k,(∀c∈l,c.key≠k)→bw y.ab k=bw x.ab k
 how:(y.ad=x.ad∧y.ab=x.ab)∨(y.ad=x.ad+1∧∀k,bw y.ab k=bw x.ab k∨(bw y.ab k).changed=x.ad+1)
theorem LX.refl(x:cz) (l:List Change):LX x l x:=⟨fun _ _=>rfl,.inl ⟨rfl,rfl⟩⟩
theorem MW{rev:Int}{l li:List cB}(h:∀k,bw li k=bw l k∨(bw li k).changed=rev) (n:cB) (hn:n.changed=rev) (k:Key):bw (fP n li false) k=bw l k∨(bw (fP n li false) k).changed=rev:=by
 by_cases e:n.key=k
 ·
  grind [ks]
 rw [ob e];exact h k
/-! ### tasks -/
section
variable {aa:List aG}{H:Int→List cB}{x b:cz}{bf:List Key}{k:Key}
theorem TI.begin(E:aq aa) (h:TI aa H x b [] bf) (hk:eA aa k) (hn:cH b [] k=true):TI aa H x b [⟨k,false,0,[],[]⟩] bf:=by
 have F:¬(ay k=true∨fZ [] k=true∨az b k=true):=fun h=>by grind [gQ]
 have h1:ay k=false:=by grind
 have t:az b k=false:=by grind
 obtain⟨m,hm,u,_⟩:=hk.gH h1;refine⟨h.bi.MR fun y A=>?_,h.wy,?_,fun f o=>?_⟩
 ·
  simp [fZ] at A
 ·
  have:=TI.snoc (aa:=aa) (H:=H) (b0:=x) (b:=b) (p:=[]) (f:=⟨k,false,0,[],[]⟩) (fun p1 g q B=>by cases p1 <;> cases B) ⟨⟨m,hm,u⟩,rfl,fun i j _ _ _ C=>(by simp [fZ] at C),fun hc=>(by cases hc),fun _=>⟨rfl,rfl,Int.le_refl _,fun _ j c D=>(by simp at D)⟩⟩
  exact this
 rw [List.mem_singleton] at o;subst o;refine⟨fun hr=>?_,h.wy.uR t⟩
 have:=h.wy.LV k hr
 grind
def TO(aa:List aG) (x:cz) (t:qm):Prop:=∃H:Int→List cB,TI aa H x t.base t.stack t.bf
theorem TO.start(h:Bh aa x) (goals:List Key):TO aa x ⟨aa,x,goals,[],[]⟩:=by
 obtain⟨H,h⟩:=h;exact⟨H,h.MR fun k hk=>(by cases hk),Wy.start x,fun p f q j=>(by cases p <;> cases j),fun f m=>(by cases m)⟩
theorem TO.of{t:qm}(h:Bh aa t.base) (j:t.stack=[]) (hr:t.bf=[]):TO aa t.base t:=by
 obtain⟨H,h⟩:=h;refine⟨H,?_⟩;rw [j,hr];exact⟨h.MR fun k hk=>(by cases hk),Wy.start _,fun p f q m=>(by cases p <;> cases m),fun f o=>(by cases o)⟩
theorem MX{aD:List cB}{rev:Int}(hb:BK aa aD rev b) (m:az b k=false) (j:(!(aB b.ah k).isSome || (aC b.ah k).bp)=false):Live b.ah b.ad k:=by
 cases h:aB b.ah k with
 | none=>rw [h] at j;cases j
 | some r=>
  rw [h,aK h] at j;have o:r.av≤b.ad:=(hb.tz.v r (aL h).1).2
  have t:r.av≠b.ad:=fun e=>by grind [aT]
  exact⟨r,h,by simpa using j,by omega⟩
theorem TO.begin{t:qm}(j:aq aa) (h:TO aa x t) (m:t.stack=[]) (hk:eA aa k) (hn:cH t.base [] k=true) (g:List Key):TO aa x {t with goals:=g,stack:=[⟨k,false,0,[],[]⟩]}:=by
 obtain⟨H,h⟩:=h;rw [m] at h;exact⟨H,h.begin j hk hn⟩
theorem TO.goals{t:qm}(h:TO aa x t) (g:List Key):TO aa x {t with goals:=g}:=h
theorem TO.JW{t:qm}{b':cz}{l':List bq}{rk:List Key}{er:Int}(m:aq aa) (h:TO aa x t) (o:Good aa x.ab ⟨t.base,[],[],0⟩) (j:∃p f,p++[f]=t.stack∧FS aa (valOf aa x.ab) t.base p f b' l' rk er):er=0∧TO aa x {t with base:=b',stack:=l',bf:=t.bf++rk}:=by
 obtain⟨H,h⟩:=h;obtain⟨p,f,u,j⟩:=j;rw [← u] at h;obtain⟨h1,A⟩:=l8 m h o j;exact⟨h1,H,A⟩
/-! ### cancelled tasks -/
def eM(l:List bq) (rs:List Rec):List Rec:=l.foldl (fun rs f=>if ax f.key then fo rs f.key else rs) rs
theorem qu(l:List bq) (f:bq) (rs:List Rec):eM (l++[f]) rs=if ax f.key then fo (eM l rs) f.key else eM l rs:=by grind [eM]
theorem EM(rs:List Rec) (k:Key):(fo rs k).Sublist rs:=by grind [fo,List.filter_sublist]
theorem nB:∀(l:List bq) (rs:List Rec),(eM l rs).Sublist rs∧∀r,r∈eM l rs↔r∈rs∧(fZ l r.key && ax r.key)=false
 | [],rs=>⟨List.Sublist.refl _,fun r=>by simp [eM,fZ]⟩
 | f::l,rs=>by
  have e:eM (f::l) rs=eM l (if ax f.key then fo rs f.key else rs):=rfl;obtain⟨h1,h⟩:=nB l (if ax f.key then fo rs f.key else rs);rw [e];refine⟨h1.trans ?_,fun r=>?_⟩
  ·
   grind [EM]
  rw [h r]
  have j:fZ (f::l) r.key=(decide (f.key=r.key) || fZ l r.key):=by simp [fZ]
  rw [j]
  by_cases hc:ax f.key=true
  ·
   rw [if_pos hc]
   unfold fo
   grind
  grind
theorem TO.cancel{t:qm}(h:TO aa x t):Bh aa ⟨t.base.ad,t.base.ab,eM t.stack t.base.ah⟩∧(∀y∈t.bf,az ⟨t.base.ad,t.base.ab,eM t.stack t.base.ah⟩ y=true)∧(∀y,az x y=true→az ⟨t.base.ad,t.base.ab,eM t.stack t.base.ah⟩ y=true)∧(∀y∈t.bf,ay y=false∧az x y=false)∧t.bf.Nodup:=by
 obtain⟨H,h⟩:=h;obtain⟨h1,u⟩:=nB t.stack t.base.ah
 have hb:=h.bi.drop h1 fun r hr=>((u r).1 hr).2
 have B:pQ (eM t.stack t.base.ah):=hb.st
 have jw:∀y,az t.base y=true→fZ t.stack y=false→az ⟨t.base.ad,t.base.ab,eM t.stack t.base.ah⟩ y=true:=fun y hu hn=>by
  obtain⟨r,hr,C⟩:=aT.1 hu;obtain⟨g1,g2⟩:=aL hr
  grind [aT,hW]
 have o:∀y,(∀f∈t.stack,f.key≠y)→fZ t.stack y=false:=fun y j=>by grind [fZ]
 refine⟨⟨H,hb⟩,fun y j=>jw y (h.wy.LV y j) (o y fun f m e=>?_),fun y j=>jw y ?_ (o y fun f m e=>?_),fun y j=>⟨(h.wy.bf y j).1,(h.wy.bf y j).2.1⟩,h.wy.j3⟩
 ·
  rw [← e] at j;exact(h.nr f m).1 j
 ·
  have:=h.wy.ev
  have A:t.base.ad=x.ad:=h.wy.rev;exact this.az A j
 have:=(h.nr f m).2
 rw [e,j] at this
 cases this
/-! ### bases of the mill -/
structure LC (aa:List aG) (x:cz):Prop where
 lb:LB aa x
 bh:Bh aa x
theorem LC.apply(h:LC aa x) {y:cz}{l:List Change}(j:LX x l y) (hr:y.ah=x.ah) (h0:x.ad≤y.ad) (h1:y.ad≤1073741824) (m:jg y.ad y.ab) (o:y.ab.length≤64):LC aa y:=by
 refine⟨h.lb.apply hr h0 h1 m o,?_⟩
 rcases j.how with⟨e1,e2⟩ | ⟨e1,e2⟩
 ·
  obtain⟨t,u,A⟩:=y;simp only at hr e1 e2;subst hr e1 e2;exact h.bh
 exact h.bh.apply hr e1 fun k=>by rw [e1];exact e2 k
theorem LC.sub(h:LC aa x) {rs:List Rec}(j:rs.Sublist x.ah):LC aa ⟨x.ad,x.ab,rs⟩:=⟨h.lb.sub j,h.bh.drop j⟩
theorem LC.task{t:qm}(h:LC aa x) (hb:BK aa x.ab x.ad t.base) (ht:TO aa x t):LC aa ⟨t.base.ad,t.base.ab,eM t.stack t.base.ah⟩:=⟨h.lb.task hb (nB _ _).1,ht.cancel.1⟩
theorem LC.req(j:aq aa) (h:LC aa x) {goals:List Key}(u:∀k∈goals,lU aa k) (A:goals.length≤32):∃(f:Nat) (s':ES),gE aa x goals=0∧Good aa x.ab ⟨x,[],[],0⟩∧(∀k∈goals,eA aa k)∧dM aa (valOf aa x.ab) f ⟨x,[],[],0⟩ goals=some s'∧s'.bf.length≤1000000∧LC aa (s'.base x)∧(s'.base x).ad=x.ad∧s'.e=0∧s'.base x=s'.b∧Wy aa x s'∧(∀k∈goals,ay k=false→az s'.b k=true)∧∀r∈s'.b.ah,r.av=s'.b.ad→r.value=valOf aa x.ab r.key:=by
 obtain⟨f,s',h1,m,o,t,B,C,D⟩:=h.lb.req j u A;obtain⟨g1,g2,g3,g4,g5,g6⟩:=h.bh.request j m o t
 have e:s'.base x=s'.b:=by unfold ES.base;rw [if_pos g1]
 exact⟨f,s',h1,m,o,t,B,⟨C,by rw [e];exact g2⟩,D,g1,e,g3,g5,g6⟩
theorem LC.nil(aa:List aG) (y:cz) (hr:y.ah=[]) (h0:0≤y.ad) (h1:y.ad≤1073741824) (h:jg y.ad y.ab) (j:y.ab.length≤64):LC aa y:=by
 refine⟨LB.nil y hr h0 h1 h j,?_⟩;obtain⟨m,o,t⟩:=y
 grind [Bh.new]
end
/-! ### reasons -/
section
variable {aa:List aG}{x y:cz}{k:Key}{s:ES}
theorem GO{val:Key→ByteArray}:(k8 val x k).1≠0↔B2 val x k:=by
 unfold B2
 cases o:ay k || az x k with
 | true=>
  rw [Rl o]
  grind
 | false=>
  have B:=o;rw [Bool.or_eq_false_iff] at o
  cases C:aB x.ah k with
  | none=>
   rw [Rm B C]
   grind
  | some r=>
   cases E:r.bp with
   | true=>grind [HH,aK]
   | false=>
    by_cases t:∀c∈bB x.ah (aA x.ah x.ad k),AX val x c=false
    ·
     rw [JV B C E fun j c _ hc=>t c (List.mem_of_getElem? hc)];refine⟨fun h=>absurd rfl h,?_⟩;rintro⟨_,_,h | h | ⟨m,a,h1,u,A,F⟩⟩
     ·
      cases h
     ·
      grind [aK]
     have:=t ⟨m,a⟩ (dj.2 ⟨h1,u,A⟩)
     grind [AX]
    have hex:∃c,c∈bB x.ah (aA x.ah x.ad k)∧AX val x c=true:=Classical.byContradiction fun hn=>t fun c hc=>by grind
    have hw:(k8 val x k).1≠0:=by
     unfold k8
     grind
    refine⟨fun _=>⟨o.1,o.2,.inr (.inr ?_)⟩,fun _=>hw⟩;obtain⟨c,hc,D⟩:=hex;obtain⟨h1,u,A⟩:=dj.1 hc;exact⟨c.dE,c.read,h1,u,A,by unfold AX at D;exact of_decide_eq_true D⟩
theorem Wy.runs(h:Wy aa x s) (hw:B2 (valOf aa x.ab) x k) (hu:az s.b k=true):k∈s.bf:=by
 obtain⟨_,hn,hc⟩:=hw
 rcases h.mrk k hn hu with h1 | h1
 ·
  exact h1
 have j:=h.ev.pt k
 have m:∀r,aB s.b.ah k=some r→r.av=x.ad:=fun r hr=>by grind [aT,rev]
 rcases j with e | ⟨_,r,e1,e2,e3,_⟩ | ⟨⟨e1,_⟩,_⟩
 ·
  grind [aT]
 ·
  grind [aK]
 exact e1
end
end Go.Rc

namespace Go.Rc
open Go
structure AO (x:cz) (l:List Change) (y:cz):Prop where
 one:∀c,l=[c]→(bw x.ab c.key).value≠c.value→x.ad+1≤1073741824→y=⟨x.ad+1,fP ⟨c.key,c.value,x.ad+1⟩ x.ab false,x.ah⟩
 O7:∀k,bw y.ab k=bw x.ab k∨(bw y.ab k).value≠(bw x.ab k).value
 src:∀k,bw y.ab k=bw x.ab k∨∃c∈l,(bw y.ab k).value=c.value
structure HJ (x:cz) (l:List Change) (i:Nat) (ch:Bool) (li:List cB):Prop where
 one:∀c,l=[c]→(i=0∧ch=false∧li=x.ab)∨(i=1∧((bw x.ab c.key).value=c.value∨(ch=true∧li=fP ⟨c.key,c.value,x.ad+1⟩ x.ab false)))
 O7:∀k,bw li k=bw x.ab k∨(bw li k).value≠(bw x.ab k).value
 src:∀k,bw li k=bw x.ab k∨∃c∈l,(bw li k).value=c.value
section
variable {x:cz}{l:List Change}{i:Nat}{ch:Bool}{li:List cB}
theorem HJ.start:HJ x l 0 false x.ab:=⟨fun _ _=>.inl ⟨rfl,rfl,rfl⟩,fun _=>.inl rfl,fun _=>.inl rfl⟩
theorem HJ.skip(h:HJ x l i ch li) (hi:i<l.length) {j:Bool}(h1:l.length=i+1→j=true) (g:(!j || decide ((bw x.ab l[i].key).value=l[i].value))=true):HJ x l (i+1) ch li:=by
 refine⟨fun c e=>?_,h.O7,h.src⟩;subst e
 have h0:i=0:=by simpa using hi
 subst h0;rw [h1 rfl] at g;exact .inr ⟨rfl,.inl (by simpa using g)⟩
theorem HJ.put(h:HJ x l i ch li) (hi:i<l.length) {m:Bool}(g:(!m || decide ((bw x.ab l[i].key).value=l[i].value))=false):HJ x l (i+1) true (fP ⟨l[i].key,l[i].value,x.ad+1⟩ li false):=by
 refine⟨fun c e=>?_,fun k=>?_,fun k=>?_⟩
 ·
  subst e
  have h0:i=0:=by simpa using hi
  subst h0
  rcases h.one c rfl with⟨_,_,e⟩ | ⟨e,_⟩
  ·
   subst e;exact .inr ⟨rfl,.inr ⟨rfl,rfl⟩⟩
  cases e
 ·
  by_cases e:l[i].key=k
  ·
   subst e;have j:=ks ⟨l[i].key,l[i].value,x.ad+1⟩ li;simp only at j;rw [j]
   simp at g
   exact .inr fun e=>g.2 e.symm
  rw [ob e];exact h.O7 k
 by_cases e:l[i].key=k
 ·
  subst e;have j:=ks ⟨l[i].key,l[i].value,x.ad+1⟩ li;simp only at j;rw [j];exact .inr ⟨l[i],List.getElem_mem hi,rfl⟩
 rw [ob e];exact h.src k
theorem HJ.same(h:HJ x l i ch li) (hi:l.length≤i) (hc:ch=false):AO x l x:=by
 refine⟨fun c e j _=>?_,fun _=>.inl rfl,fun _=>.inl rfl⟩;subst e
 rcases h.one c rfl with⟨e,_⟩ | ⟨_,e | ⟨e,_⟩⟩
 ·
  subst e;simp at hi
 ·
  exact absurd e j
 rw [hc] at e;cases e
theorem HJ.done(h:HJ x l i ch li) (hi:l.length≤i):AO x l ⟨x.ad+1,li,x.ah⟩:=by
 refine⟨fun c e j _=>?_,h.O7,h.src⟩;subst e
 rcases h.one c rfl with⟨e,_⟩ | ⟨_,e | ⟨_,e⟩⟩
 ·
  subst e;simp at hi
 ·
  exact absurd e j
 rw [e]
end
end Go.Rc

namespace Go.Rc
open Go
instance:Inhabited Key:=⟨dW⟩
theorem HK{w w':World}(h:aU [] w w'):∃q os,w'=Sort.grow (w.drewN q) os:=by
 refine⟨w'.drawn - w.drawn,w'.heap.extract w.heap.size w'.heap.size,?_⟩;obtain⟨o,ht,hu,t,u,hb⟩:=h
 have j:w'.heap=w.heap++w'.heap.extract w.heap.size w'.heap.size:=by grind
 have m:w'.drawn=w.drawn+(w'.drawn - w.drawn):=by omega
 generalize w'.heap.extract w.heap.size w'.heap.size=os at j
 generalize w'.drawn - w.drawn=q at m
 cases w'
 cases w
 simp only at o ht hu j m;subst o ht hu j m
 rfl
section
variable {α:Type} [Inhabited α] {row:α→List Value}{k:Nat}{key:α→Key}
theorem GP:Sort.SWO (Proofs.ltOf fun x y=>bD (key x) (key y)):=by
 refine⟨fun x=>?_,fun x y z h1 h=>?_,fun x y z h1 h=>?_⟩
 ·
  grind [Proofs.ltOf,iw]
 ·
  unfold Proofs.ltOf at *
  rw [decide_eq_true_eq] at *;exact im h1 h
 grind [Proofs.ltOf,jf,im,l6]
theorem zk(hk:∀x,(row x).length=k) (l:List α):(l.map row).flatten.length=l.length*k:=by
 induction l with
 | nil=>simp
 | cons x r h=>simp only [List.map_cons,List.flatten_cons,List.length_append,List.length_cons,Nat.add_mul,h,hk];omega
theorem B7(hk:∀x,(row x).length=k) (l:List α) (t:Nat) (ht:t<l.length*k):(l.map row).flatten[t]?=some ((row (l.toArray[t / k]!))[t % k]!):=by
 have h0:0<k:=by rcases Nat.eq_zero_or_pos k with h | h;subst h;omega;exact h
 have hi:t / k<l.length:=(Nat.div_lt_iff_lt_mul h0).2 ht
 have hr:(l.map row)[t / k]?=some (row l[t / k]):=by grind
 have e:t=t / k*k+t % k:=by rw [Nat.mul_comm];exact(Nat.div_add_mod t k).symm
 have h1:(l.toArray[t / k]!)=l[t / k]:=by simp [hi]
 rw [h1];have hm:t % k<k:=Nat.mod_lt _ h0
 have h:=mW (l.map row) k (t / k) _ (fun r hr=>by obtain⟨x,_,rfl⟩:=List.mem_map.1 hr;exact hk x) hr (t % k) ((row l[t / k])[t % k]!) (by
  rw [List.getElem?_eq_getElem (by rw [hk];exact hm),getElem!_pos])
 rw [← e] at h;exact h
theorem HL(hk:∀x,(row x).length=k) {w:World}{b E:Nat}{cur:Array Value}{l:List α}(hb:w.heap[b]?=some (.cells cur E (0,0))) (ht:cur.toList.take (l.length*k)=(l.map row).flatten):Sort.HoldsK row k w b 0 l.toArray:=by
 unfold Sort.HoldsK
 intro j h;rw [Sort.size_flatK,List.size_toArray] at h;have h1:=B7 hk l j h;rw [← ht,List.getElem?_take,if_pos h,Array.getElem?_toList] at h1;refine⟨?_,?_⟩
 ·
  unfold World.cell?
  simp only [hb,Nat.zero_add]
  grind [Sort.get_flatK]
 grind [World.frozen?]
theorem MY(hk:∀x,(row x).length=k) {w:World}{b E m:Nat}{os:Array Obj}{cur:Array Value}{l l':List α}(hb:w.heap[b]?=some (.cells cur E (0,0))) (ht:cur.toList.take (l.length*k)=(l.map row).flatten) (hl:l'.length=l.length):∃oZ:Array Value,(Proofs.sortWorldK row k w b 0 m l'.toArray os).heap[b]?=some (.cells oZ E (0,0))∧oZ.size=cur.size∧oZ.toList.take (l'.length*k)=(l'.map row).flatten:=by
 have j:b<w.heap.size:=(Array.getElem?_eq_some_iff.1 hb).1;refine⟨Sort.putCells id 0 (Sort.flatK row k l'.toArray) cur,?_,by unfold Sort.putCells;simp,?_⟩
 ·
  unfold Proofs.sortWorldK
  rw [Sort.heap_grow_old _ _ (by grind [Sort.putRowK,Sort.putRow,Sort.mapBlock,Sort.ahead])]
  unfold Sort.putRowK Sort.putRow Sort.mapBlock Sort.ahead
  simp only [Array.getElem?_modify,if_true,hb]
  rfl
 have hlen:l.length*k≤cur.size:=by
  have h1:=congrArg List.length ht;have o:=zk hk l
  grind
 apply List.ext_getElem?
 intro t
 by_cases h:t<l'.length*k
 ·
  rw [B7 hk l' t h,List.getElem?_take,if_pos h,Array.getElem?_toList]
  unfold Sort.putCells
  rw [hl] at h;rw [Array.getElem?_mapIdx,Array.getElem?_eq_getElem (by omega),Option.map_some];rw [if_pos ⟨Nat.zero_le _,by simp_all⟩,Nat.sub_zero,Sort.get_flatK _ _ _ _ (by rw [List.size_toArray,hl];exact h)]
  rfl
 rw [List.getElem?_eq_none (by rw [List.length_take];omega),List.getElem?_eq_none (by rw [zk hk];omega)]
theorem JX{w:World}{b m:Nat}{os:Array Obj}{d:Array α}:aU [b] w (Proofs.sortWorldK row k w b 0 m d os):=by
 refine⟨rfl,rfl,rfl,?_,?_,fun k hk hn=>?_⟩
 ·
  unfold Proofs.sortWorldK Sort.grow Sort.putRowK Sort.putRow Sort.mapBlock Sort.ahead
  simp
 ·
  exact Nat.le_add_right _ _
 unfold Proofs.sortWorldK
 rw [Sort.heap_grow_old _ _ (by grind [Sort.putRowK,Sort.putRow,Sort.mapBlock,Sort.ahead])]
 unfold Sort.putRowK Sort.putRow Sort.mapBlock Sort.ahead
 grind
theorem x7{P:Program}{F g E:Nat}(hk:∀x,(row x).length=k) (h1:∀x,∀v∈row x,v.oneCell'=true) (G:∀(blk cap:Nat) (d:Array α) (w:World),Proofs.CmpLays P g #[] row k (fun x y=>bD (key x) (key y)) blk 0 d.size w→Sort.HoldsK row k w blk 0 d→blk<w.heap.size→d.size<4611686018427387904→Calls P F #[.slice (some ⟨blk,0,none⟩) d.size cap,.func (.func g) #[] #[]] w fun e w'=>e=.returned (.tuple #[])∧∃d' n os,Sort.PermIn 0 d.size d d'∧Sort.SortedIn (Proofs.ltOf fun x y=>bD (key x) (key y)) 0 d.size d'∧w'=Proofs.sortWorldK row k w blk 0 n d' os)
  (hcmp:∀(x y:α) (w:World),Calls P g #[.agg (row x).toArray,.agg (row y).toArray] w fun e w'=>e=.returned (.int .i64 (bD (key x) (key y)))∧aU [] w w')
  {l:List α}{a:Option Addr}{n c:Nat}{w:World}{M Z:Nat→Prop}(A:St w M Z w [As.os (RR.flat row) E k a n c l]) (h0:l≠[]) (hn:l.length≤1000000):Calls P F #[.slice a n c,.func (.func g) #[] #[]] w fun e w'=>e=.returned (.tuple #[])∧∃l',l'.Perm l∧(l'.Pairwise fun x y=>¬bD (key y) (key x)<0)∧St w M Z w' [As.os (RR.flat row) E k a n c l']:=by
 have I:=As.gs A.g0;obtain⟨o,rows,Y,UW,J,N⟩:=id I
 have O:rows=l.map row:=by
  apply List.ext_getElem?
  intro i;rw [List.getElem?_map]
  by_cases hi:i<l.length
  ·
   rw [List.getElem?_eq_getElem (by omega),List.getElem?_eq_getElem hi]
   have:=N i l[i] rows[i] (List.getElem?_eq_getElem hi) (List.getElem?_eq_getElem (by omega))
   rw [RR.ba this]
   rfl
  grind
 rcases J.cases with⟨g1,g2,_⟩ | ⟨b,cur,rfl,Rn,hb,Q,R,S,ht⟩
 ·
  grind
 rw [O,o] at ht;have U:b<w.heap.size:=(Array.getElem?_eq_some_iff.1 hb).1
 have hc:Proofs.CmpLays P g #[] row k (fun x y=>bD (key x) (key y)) b 0 l.toArray.size w:=fun m os dk _ x y=>(hcmp x y _).mono fun e w' ⟨h1,V⟩=>⟨h1,HK V⟩
 have B:=G b c l.toArray w hc (HL hk hb ht) U (by rw [List.size_toArray];omega);rw [List.size_toArray,← o] at B;refine B.mono ?_;rintro e w' ⟨rfl,d',m,os,⟨t,_,W⟩,C,rfl⟩;rw [o] at W C
 have t:d'.size=l.length:=by rw [t,List.size_toArray]
 have D:d'.toList.Perm l:=by grind [Array.extract_size]
 obtain⟨l',rfl⟩:∃l':List α,d'=l'.toArray:=⟨d'.toList,by simp⟩
 have hl:l'.length=l.length:=by simpa using t
 simp only at D;obtain⟨oZ,g1,g2,g3⟩:=MY hk (m:=m) (os:=os) hb ht hl;refine⟨rfl,l',D,?_,?_⟩
 ·
  rw [List.pairwise_iff_getElem];intro i j hi hj X;have h1:=C i j (Nat.zero_le _) X (by omega)
  grind [Proofs.ltOf]
 refine A.eU (w':=Proofs.sortWorldK row k w b 0 m l'.toArray os) (JX.mono fun x h=>by simpa [aJ] using h) ?_ (fun x h=>.inl h);refine⟨by omega,l'.map row,by simp,fun r hr=>by obtain⟨x,_,rfl⟩:=List.mem_map.1 hr;exact hk x,?_,fun i x r h hr=>?_⟩
 ·
  refine⟨fun u hu=>?_,?_,.inr ⟨b,c,oZ,rfl,Nat.zero_le _,g1,Q,R,by rw [g2];exact S,by grind⟩⟩
  ·
   obtain⟨r,hr,hu⟩:=List.mem_flatten.1 hu;obtain⟨x,_,rfl⟩:=List.mem_map.1 hr;exact h1 x u hu
  rw [zk hk]
  grind
 rw [List.getElem?_map,h] at hr
 cases hr
 rfl
end
end Go.Rc

namespace Go.Rc
open Go
inductive gX (aa:List aG) (val:Key→ByteArray) (goals:List Key) (x:cz):cz→List bq→List Key→Prop where
 | start:gX aa val goals x x [] []
 | take {b:cz}{bf:List Key}{k:Key}:gX aa val goals x b [] bf→k∈goals→cH b [] k=true→gX aa val goals x b [⟨k,false,0,[],[]⟩] bf
 | step {b b':cz}{p l':List bq}{f:bq}{bf rk:List Key}:gX aa val goals x b (p++[f]) bf→FS aa val b p f b' l' rk 0→l'≠p++[f]→gX aa val goals x b' l' (bf++rk)
section
variable {aa:List aG}{H:Int→List cB}{x b b':cz}{p q l l':List bq}{f g:bq}{bf rk goals:List Key}{k y:Key}{val:Key→ByteArray}{er:Int}
theorem FS.ups(j:FS aa val b p f b' l' rk er) (hu:az b y=true):az b' y=true:=by
 have hm:∀G,az (cL b G false) y=true:=fun G=>by
  obtain⟨r,hr,h⟩:=aT.1 hu;refine aT.2 ⟨aY b.ad G false r,cv.trans (by rw [hr];rfl),?_⟩
  unfold aY
  grind [cL]
 cases j with
 | put=>
  obtain⟨r,hr,h⟩:=aT.1 hu;rw [aT];simp only [cU]
  by_cases e:y=(bL b f.key (aH aa f.key f.ae).value f.reads).key
  ·
   rw [if_pos e];exact⟨_,rfl,rfl⟩
  rw [if_neg e];exact⟨r,hr,h⟩
 | mark=>exact hm _
 | fail=>
  split
  ·
   rw [nz];exact hu
  exact hu
 | _=>exact hu
theorem FS.bot(j:FS aa val b p f b' l' rk er) (hb:az b k=true∨∃g q,p++[f]=g::q∧g.key=k):az b' k=true∨∃g q,l'=g::q∧g.key=k:=by
 rcases hb with hb | ⟨g,q,e,hk⟩
 ·
  exact .inl (j.ups hb)
 have key:∀{z:bq}{r:List bq},z.key=f.key→∃g q,p++z::r=g::q∧g.key=k:=fun {z r} o=>by
  cases p with
  | nil=>
   simp only [List.nil_append,List.cons.injEq] at e ⊢;exact⟨z,r,⟨rfl,rfl⟩,by rw [o,e.1,hk]⟩
  | cons a m=>
   simp only [List.cons_append,List.cons.injEq] at e ⊢;exact⟨a,_,⟨rfl,rfl⟩,by rw [e.1,hk]⟩
 have h:az b' f.key=true→az b' k=true∨∃g q,p=g::q∧g.key=k:=fun hu=>by
  cases p with
  | nil=>
   simp only [List.nil_append,List.cons.injEq] at e;exact .inl (by rw [← hk,← e.1];exact hu)
  | cons a m=>
   simp only [List.cons_append,List.cons.injEq] at e;exact .inr ⟨a,m,rfl,by rw [e.1,hk]⟩
 cases j with
 | put=>exact h (je (r:=bL b f.key (aH aa f.key f.ae).value f.reads) rfl)
 | up _ hu=>exact h hu
 | mark _ hl=>
  obtain⟨r,h1,_⟩:=hl;exact h (gW (by rw [h1];rfl) eQ)
 | push=>exact .inr (by rw [List.append_assoc];exact key rfl)
 | uW=>exact .inr (by rw [List.append_assoc];exact key rfl)
 | _=>exact .inr (key rfl)
theorem FS.keeps(m:aq aa) {aD:List cB}{rev:Int}(hb:BK aa aD rev b) (t:∀g∈p++[f],ft aa g) (D:FS aa val b p f b' l' rk 0) (hn:(!(aB b.ah f.key).isSome && decide (4000≤b.ah.length))=false):BK aa aD rev b'∧∀g∈l',ft aa g:=by
 have h:ft aa f:=t f (by simp);have u:∀g∈p,ft aa g:=fun g A=>t g (List.mem_append_left _ A)
 have o:∀{z:bq},ft aa z→∀g∈p++[z],ft aa g:=fun E g A=>by grind
 have B:∀{z:bq},ft aa z→∀g∈p++[f]++[z],ft aa g:=fun E g A=>by grind
 cases D with
 | stay=>exact⟨hb,t⟩
 | put hr j=>
  have hl:=h.len;have F:=h.gH.le m;exact⟨hb.put h.key ⟨by show f.reads.length≤4000;omega,h.AQ⟩ hn (po m hb.tz h.gH j h.len h.AQ) (Int.le_refl _),u⟩
 | push hr j hl=>
  obtain⟨C,h1⟩:=h.gH.next m j;exact⟨hb,B (ft.new h1 (l7 hl))⟩
 | read hr j h1 G=>
  obtain⟨C,h1⟩:=h.gH.next m j;exact⟨hb,o (h.read h1 C)⟩
 | up=>exact⟨hb,u⟩
 | start=>exact⟨hb,o h.runs⟩
 | mark=>exact⟨hb.BN _,u⟩
 | uW c hr hl hc hk=>exact⟨hb,B (ft.new (fO hb.fQ hc) (l7 hk))⟩
 | pass=>exact⟨hb,o h.step⟩
 | fail=>
  refine⟨?_,o h.runs⟩
  split
  ·
   rename_i hc
   exact hb.BO (pn hc)
  exact hb
/-! ### the end -/
theorem TI.nodup(h:TI aa H x b l bf):(l.map (·.key)).Nodup:=by
 refine List.pairwise_iff_getElem.2 fun i j hi m t=>?_;simp only [List.length_map] at hi m;simp only [List.getElem_map];intro e;have o:=h.fr (l.take j) l[j] (l.drop (j+1)) (by simp);have hn:=o.new
 unfold fZ at hn
 rw [List.any_eq_false] at hn;refine hn l[i] (List.mem_take_iff_getElem.2 ⟨i,by omega,rfl⟩) ?_
 simpa using e
theorem TI.eG(h:TI aa H x b l bf) (j:f∈l):∃i:Nat,i<aa.length∧f.key=aI aa (i:Int):=by
 obtain⟨p1,q1,m⟩:=List.append_of_mem j;exact(h.fr p1 f q1 m).key
theorem TI.EN(h:TI aa H x b l bf):l.length≤aa.length:=by
 have:=eP h.nodup (S:=(List.range aa.length).map fun i:Nat=>aI aa (i:Int)) fun k hk=>by
  obtain⟨f,j,rfl⟩:=List.mem_map.1 hk;obtain⟨i,hi,e⟩:=h.eG j;exact List.mem_map.2 ⟨i,List.mem_range.2 hi,e.symm⟩
 simpa using this
def AY(aa:List aG) (b:cz):Nat:=DL (fun i=>!az b (aI aa (i:Int))) aa.length
def x8(f:bq):Nat:=if f.running then 10000 - f.reads.length else 10001+(200000000 - f.at_.toNat)
def UX(aa:List aG) (b:cz) (l:List bq):Nat:=
 ((AY aa b*100+l.countP fun f=>az b f.key)*100+(50 - l.countP fun f=>!az b f.key))*1000000000+(l.getLast?.map x8).getD 0
theorem Ro(f:bq):x8 f≤200010001:=by
 unfold x8
 split <;> omega
theorem JY(h:bq→Bool) (l:List bq):l.countP h+l.countP (fun f=>!h f)=l.length:=by
 induction l with
 | nil=>rfl
 | cons a l j=>
  simp only [List.countP_cons,List.length_cons]
  cases h a <;> simp <;> omega
theorem JZ{n u v t m j v' o:Nat}(h1:u+v≤24) (A:j+v'≤24) (ht:o≤200010001) (h:m<n∨m=n∧(j<u∨j=u∧(v<v'∨v'=v∧o<t))):((m*100+j)*100+(50 - v'))*1000000000+o<((n*100+u)*100+(50 - v))*1000000000+t:=by omega
theorem Rp(h:∀y,az b y=true→az b' y=true):AY aa b'≤AY aa b:=rK fun i _ j=>by
 cases m:az b (aI aa (i:Int)) with
 | false=>rfl
 | true=>rw [h _ m] at j;cases j
theorem J0(h:∀y,az b y=true→az b' y=true) {i:Nat}(hi:i<aa.length) (h0:az b (aI aa (i:Int))=false) (h1:az b' (aI aa (i:Int))=true):AY aa b'<AY aa b:=
 rL (j:=i) (fun i _ m=>by
  cases o:az b (aI aa (i:Int)) with
  | false=>rfl
  | true=>rw [h _ o] at m;cases m) hi (by rw [h0];rfl) (by rw [h1];rfl)
theorem HM(D:aq aa) (h:TI aa H x b (p++[f]) bf) (E:TI aa H x b' l' (bf++rk)) (F:∀G:List Key,G.length≤4001→(bB b.ah G).length≤100000000) (hlen:b.ah.length≤4000) (S:f.reads.length<4000) (B:FS aa val b p f b' l' rk 0) (I:l'≠p++[f]):UX aa b' l'<UX aa b (p++[f]):=by
 have U:=D.1;have V:=h.EN;have W:=E.EN;have hc:=JY (fun f=>az b f.key) (p++[f]);have X:=JY (fun f=>az b' f.key) l'
 have J:(l'.getLast?.map x8).getD 0≤200010001:=by
  cases l'.getLast? with
  | none=>simp
  | some g=>exact Ro g
 have u:=fun y=>B.ups (y:=y);obtain⟨i,hi,t⟩:=h.top.key;have Y:AY aa b'≤AY aa b:=Rp u
 unfold UX
 refine JZ (by omega) (by omega) J ?_
 have N:((p++[f]).getLast?.map x8).getD 0=x8 f:=by simp
 rw [N]
 have O:∀z:bq,((p++[z]).getLast?.map x8).getD 0=x8 z:=fun z=>by simp
 have same:∀{z:bq},z.key=f.key→x8 z<x8 f→AY aa b<AY aa b∨AY aa b=AY aa b∧((p++[z]).countP (fun f=>az b f.key)<(p++[f]).countP (fun f=>az b f.key)∨(p++[z]).countP (fun f=>az b f.key)=(p++[f]).countP (fun f=>az b f.key)∧((p++[f]).countP (fun f=>!az b f.key)<(p++[z]).countP (fun f=>!az b f.key)∨(p++[z]).countP (fun f=>!az b f.key)=(p++[f]).countP (fun f=>!az b f.key)∧((p++[z]).getLast?.map x8).getD 0<x8 f)):=fun {z} j m=>by
  refine .inr ⟨rfl,.inr ⟨?_,.inr ⟨?_,?_⟩⟩⟩
  ·
   simp only [List.countP_append,List.countP_singleton,j]
  ·
   simp only [List.countP_append,List.countP_singleton,j]
  rw [O];exact m
 have push:∀{z:bq},az b z.key=false→AY aa b<AY aa b∨AY aa b=AY aa b∧((p++[f]++[z]).countP (fun f=>az b f.key)<(p++[f]).countP (fun f=>az b f.key)∨(p++[f]++[z]).countP (fun f=>az b f.key)=(p++[f]).countP (fun f=>az b f.key)∧((p++[f]).countP (fun f=>!az b f.key)<(p++[f]++[z]).countP (fun f=>!az b f.key)∨(p++[f]++[z]).countP (fun f=>!az b f.key)=(p++[f]).countP (fun f=>!az b f.key)∧((p++[f]++[z]).getLast?.map x8).getD 0<x8 f)):=fun {z} j=>by
  refine .inr ⟨rfl,.inr ⟨?_,.inl ?_⟩⟩
  ·
   rw [List.countP_append (l₁:=p++[f]),List.countP_singleton,j]
   rfl
  rw [List.countP_append (l₁:=p++[f]),List.countP_singleton,j]
  simp
 have LY:=ko b.ah b.ad f.key;have amP:=F (aA b.ah b.ad f.key) (by omega)
 cases B with
 | stay=>exact absurd rfl I
 | put hr C=>
  obtain⟨_,o,_⟩:=h.top.run hr;rw [t] at o;refine .inl (J0 u hi o ?_);rw [← t];exact je (r:=bL b f.key (aH aa f.key f.ae).value f.reads) rfl
 | push hr C hl=>exact push (uV hl).2.2
 | read hr C h1 h3=>
  refine same (z:={f with reads:=f.reads++[(aH aa f.key f.ae).ask],ae:=f.ae++[bP val b (aH aa f.key f.ae).ask]}) rfl ?_
  unfold x8
  simp only [hr,if_true,List.length_append,List.length_singleton]
  omega
 | up hr hu=>
  refine .inr ⟨rfl,.inl ?_⟩;rw [List.countP_append,List.countP_singleton,hu]
  simp
 | start hr hu hx=>
  refine same (z:={f with running:=true,at_:=0}) rfl ?_
  unfold x8
  simp only [hr,if_true]
  simp
  omega
 | mark hr hl hn=>
  obtain⟨r,g1,_,g3⟩:=hl;have o:=ji g1 g3;rw [t] at o;refine .inl (J0 u hi o ?_);rw [← t];exact gW (by rw [g1];rfl) eQ
 | uW c hr hl A hk=>exact push (uV hk).2.2
 | pass c hr hl A Q R hle=>
  have h5:=(h.top.DK hr).2.2.1;have h6:=(List.getElem?_eq_some_iff.1 A).1;refine same (z:={f with at_:=f.at_+1}) rfl ?_
  unfold x8
  simp only [hr]
  simp
  omega
 | fail c hr hl A Q R m=>
  have m:x8 {f with running:=true,at_:=0}<x8 f:=by
   unfold x8
   simp only [hr,if_true]
   simp
   omega
  split
  ·
   have he:∀y,az (cL b (aA b.ah b.ad f.key) true) y=az b y:=fun y=>nz
   have hn:AY aa (cL b (aA b.ah b.ad f.key) true)=AY aa b:=by unfold AY;simp only [he]
   simp only [he];rw [hn];exact same (z:={f with running:=true,at_:=0}) rfl m
  exact same (z:={f with running:=true,at_:=0}) rfl m
/-! ### what is known of what a request reaches -/
theorem gX.inv(j:aq aa) (A:LC aa x) (hk:∀k∈goals,eA aa k) (h:gX aa (valOf aa x.ab) goals x b l bf):(∃H,TI aa H x b l bf)∧BK aa x.ab x.ad b∧∀f∈l,ft aa f:=by
 induction h with
 | start=>exact⟨TO.start A.bh [],A.lb.ok,fun f m=>by cases m⟩
 | @take b bf k h1 B hn u=>
  obtain⟨⟨H,o⟩,t,C⟩:=u;refine⟨⟨H,o.begin j (hk _ B) hn⟩,t,fun f m=>?_⟩;rw [List.mem_singleton] at m;subst m
  have D:¬(ay k=true∨fZ [] k=true∨az b k=true):=fun h=>by have:=gQ.2 h;rw [hn] at this;cases this
  exact ft.new (hk _ B) (by
   cases hi:ay k with
   | false=>rfl
   | true=>exact absurd (.inl hi) D)
 | step h1 E D u=>
  obtain⟨⟨H,o⟩,t,C⟩:=u;have hl:=o.bi.len;have I:=j.1;obtain⟨F,G⟩:=FS.keeps j t C E (by simp;intro;omega);exact⟨⟨H,(l8 j o t.fQ E).2⟩,F,G⟩
theorem gX.less(j:aq aa) (A:LC aa x) (hk:∀k∈goals,eA aa k) (h:gX aa (valOf aa x.ab) goals x b (p++[f]) bf) (o:FS aa (valOf aa x.ab) b p f b' l' rk 0) (B:l'≠p++[f]):UX aa b' l'<UX aa b (p++[f]):=by
 obtain⟨⟨H,t⟩,m,C⟩:=h.inv j A hk;have u:=C f (by simp);have hl:=u.len;have E:=u.gH.le j;exact HM j t (l8 j t m.fQ o).2 (fun G D=>tT m.fQ D) m.fQ.len (by omega) o B
theorem gX.Wj(j:aq aa) (m:LC aa x) (hk:∀k∈goals,eA aa k) (h:gX aa (valOf aa x.ab) goals x b (p++[f]) bf) (o:FS aa (valOf aa x.ab) b p f b' l' rk er):er=0:=by
 obtain⟨⟨H,t⟩,u,A⟩:=h.inv j m hk;exact(l8 j t u.fQ o).1
theorem gX.idle(hu:∀k∈goals,ay k=true∨az x k=true) (h:gX aa val goals x b l bf):b=x∧l=[]∧bf=[]:=by
 induction h with
 | start=>exact⟨rfl,rfl,rfl⟩
 | @take b bf k _ m hn j=>
  obtain⟨rfl,_,_⟩:=j
  have:cH b [] k=false:=gQ.2 ((hu _ m).imp id .inr)
  rw [hn] at this
  cases this
 | step _ _ _ j=>simp at j
end
end Go.Rc

