/- Base of the proof: frames, memory, ownership, and the plain meaning of rule systems. Conditions: as each lemma says. -/
import Derived.Test.YtmpkegmkoclbhaaGreatDoorDBg
import Derived.Test.YtmpkegmkoclbhaaGreatDoorDBf
import Derived.Shelf.SlSortCmp.WholeK
set_option linter.all false
namespace Go.Rc
open Go
def fV(l:List bp) (b:bZ) (a:Key):Prop:=aw a=true∨(gj l a=true∧az a=true)∨ay b a=true
section
variable {x b b':bZ}{l l' p q:List bp}{f g:bp}{k a:Key}
theorem iq:cN x l k=false↔aw k=true∨gj l k=true∨ay x k=true:=by
 unfold cN ay
 grind
theorem iD:bJ x l [] k=if (!az k && gj l k)=true then 3 else if cN x l k=true then 1 else 0:=by grind [bJ,gj]
theorem pr(h1:bJ x l [] k≠1) (m:bJ x l [] k≠3):fV l x k:=by
 rw [iD] at h1 m
 by_cases j:(!az k && gj l k)=true
 ·
  grind
 rw [if_neg j] at h1
 by_cases hn:cN x l k=true
 ·
  grind
 rcases iq.1 (by simpa using hn) with h | h | h
 ·
  exact .inl h
 ·
  exact .inr (.inl ⟨h,by rw [h] at j;simpa using j⟩)
 exact .inr (.inr h)
theorem uL(h:bJ x l [] k=1):gj l k=false∧aw k=false∧ay x k=false:=by
 rw [iD] at h
 by_cases j:(!az k && gj l k)=true
 ·
  rw [if_pos j] at h;cases h
 rw [if_neg j] at h
 by_cases hn:cN x l k=true
 ·
  have m:¬(aw k=true∨gj l k=true∨ay x k=true):=fun h=>by grind [iq]
  grind
 rw [if_neg hn] at h;cases h
theorem Ex(h:bJ x l [] k=3):az k=false∧gj l k=true:=by
 rw [iD] at h
 grind
theorem fH:gj (p++q) k=(gj p k || gj q k):=by simp [gj]
theorem kL:gj [f] k=decide (f.key=k):=by simp [gj]
theorem Ey{z:bp}{p1:List bp}(h:p++[z]=p1++g::q):(q=[]∧p1=p∧g=z)∨∃j,q=j++[z]∧p=p1++g::j:=by
 rcases List.eq_nil_or_concat q with rfl | ⟨j,y,rfl⟩
 ·
  simp_all
 rw [List.concat_eq_append,← List.cons_append,← List.append_assoc] at h;obtain⟨h1,m⟩:=List.append_inj' h rfl
 grind
end
inductive FS (aa:List aH) (val:Key→ByteArray) (b:bZ) (p:List bp) (f:bp):bZ→List bp→List Key→Int→Prop where
 | stay:FS aa val b p f b (p++[f]) [] 0
 | full:f.running=true→(aG aa f.key f.ae).done=true→(!(aA b.ah f.key).isSome && decide (4000≤b.ah.length))=true→FS aa val b p f b (p++[f]) [] 45
 | put:f.running=true→(aG aa f.key f.ae).done=true→FS aa val b p f {b with ah:=dK b.ah (bs b f.key (aG aa f.key f.ae).value f.reads)} p [f.key] 0
 | push:f.running=true→(aG aa f.key f.ae).done=false→bJ b (p++[f]) [] (aG aa f.key f.ae).ask=1→FS aa val b p f b (p++[f]++[⟨(aG aa f.key f.ae).ask,false,0,[],[]⟩]) [] 0
 | QJ:f.running=true→(aG aa f.key f.ae).done=false→bJ b (p++[f]) [] (aG aa f.key f.ae).ask=3→FS aa val b p f b (p++[f]) [] 43
 | read:f.running=true→(aG aa f.key f.ae).done=false→bJ b (p++[f]) [] (aG aa f.key f.ae).ask≠1→bJ b (p++[f]) [] (aG aa f.key f.ae).ask≠3→
   FS aa val b p f b (p++[{f with reads:=f.reads++[(aG aa f.key f.ae).ask],ae:=f.ae++[bS val b (aG aa f.key f.ae).ask]}]) [] 0
 | up:f.running=false→ay b f.key=true→FS aa val b p f b p [] 0
 | start:f.running=false→ay b f.key=false→(aA b.ah f.key=none∨(aC b.ah f.key).bq=true)→FS aa val b p f b (p++[{f with running:=true,at_:=0}]) [] 0
 | mark:f.running=false→Live b.ah b.ad f.key→(bR b.ah (aB b.ah b.ad f.key)).length≤f.at_.toNat→FS aa val b p f (cI b (aB b.ah b.ad f.key) false) p [] 0
 | qi (c:oa):f.running=false→Live b.ah b.ad f.key→(bR b.ah (aB b.ah b.ad f.key))[f.at_.toNat]?=some c→bJ b (p++[f]) [] c.read=1→FS aa val b p f b (p++[f]++[⟨c.read,false,0,[],[]⟩]) [] 0
 | ME (c:oa):f.running=false→Live b.ah b.ad f.key→(bR b.ah (aB b.ah b.ad f.key))[f.at_.toNat]?=some c→bJ b (p++[f]) [] c.read=3→FS aa val b p f b (p++[f]) [] 43
 | pass (c:oa):f.running=false→Live b.ah b.ad f.key→(bR b.ah (aB b.ah b.ad f.key))[f.at_.toNat]?=some c→bJ b (p++[f]) [] c.read≠1→bJ b (p++[f]) [] c.read≠3→
   aV val b c.read≤(aC b.ah c.dC).av→FS aa val b p f b (p++[{f with at_:=f.at_+1}]) [] 0
 | fail (c:oa):f.running=false→Live b.ah b.ad f.key→(bR b.ah (aB b.ah b.ad f.key))[f.at_.toNat]?=some c→bJ b (p++[f]) [] c.read≠1→bJ b (p++[f]) [] c.read≠3→
   (aC b.ah c.dC).av<aV val b c.read→FS aa val b p f (if az f.key then cI b (aB b.ah b.ad f.key) true else b) (p++[{f with running:=true,at_:=0}]) [] 0
section
variable {aa:List aH}{H:Int→List ct}{b0 b b':bZ}{p q l l':List bp}{f g:bp}{a8:List Key}
structure FI (aa:List aH) (H:Int→List ct) (b0 b:bZ) (p:List bp) (f:bp):Prop where
 key:∃i:Nat,i<aa.length∧f.key=aM aa (i:Int)
 new:gj p f.key=false
 low:∀i j:Nat,i<aa.length→j<aa.length→f.key=aM aa (i:Int)→gj p (aM aa (j:Int))=true→Lw aa i (ny aa j)
 run:f.running=true→bT b.ah b.ad f.key=false∧ay b f.key=false∧DD (valOf aa b0.ab) b0 f.key∧(∀i:Nat,i<aa.length→f.key=aM aa (i:Int)→∃n,n≤cL aa i∧f.reads=(dW (cx aa f.key) (valOf aa b0.ab) n).1∧f.ae=(dW (cx aa f.key) (valOf aa b0.ab) n).2)∧∀a∈f.reads,fV (p++[f]) b a
 Bu:f.running=false→f.reads=[]∧f.ae=[]∧0≤f.at_∧(Live b.ah b.ad f.key→∀j c,j<f.at_.toNat→(bR b.ah (aB b.ah b.ad f.key))[j]?=some c→valOf aa (H (aC b.ah c.dC).av) c.read=valOf aa b0.ab c.read∧fV (p++[f]) b c.read∧aV (valOf aa b0.ab) b0 c.read≤(aC b.ah c.dC).av)
structure TI (aa:List aH) (H:Int→List ct) (b0 b:bZ) (l:List bp) (a8:List Key):Prop where
 bi:Bi aa H (fun y=>gj l y && az y) b
 wy:Wy aa b0 ⟨b,[],a8,0⟩
 fr:∀p f q,l=p++f::q→FI aa H b0 b p f
 nr:∀f∈l,f.key∉a8∧ay b0 f.key=false
theorem fV.jz{N:Key→Prop}{a:Key}(h:fV l b a) (j:iV (valOf aa b0.ab) N a8 b.ad b.ah b'.ah) (hr:b'.ad=b.ad):fV l b' a:=
 h.imp id (Or.imp id (j.ay hr))
theorem fV.mono{a:Key}(h:fV l b a) (j:∀k,gj l k=true→gj l' k=true):fV l' b a:=h.imp id (Or.imp (fun⟨x,y⟩=>⟨j _ x,y⟩) id)
theorem FI.jz{N:Key→Prop}(h:FI aa H b0 b p g) (m:iV (valOf aa b0.ab) N a8 b.ad b.ah b'.ah) (hr:b'.ad=b.ad) (C:¬N g.key):FI aa H b0 b' p g:=by
 refine⟨h.key,h.new,h.low,fun o=>?_,fun o=>?_⟩
 ·
  obtain⟨h1,B,t,u,D⟩:=h.run o
  have I:aA b'.ah g.key=aA b.ah g.key:=by
   rcases m.pt g.key with e | ⟨e0,r,e1,e2,e3,_⟩ | ⟨⟨_,e0⟩,_⟩
   ·
    exact e
   ·
    grind [bE]
   exact absurd e0 C
  refine⟨?_,?_,t,u,fun a F=>(D a F).jz m hr⟩
  ·
   grind [bT,aC]
  grind [ay,aC]
 obtain⟨h1,B,t,u⟩:=h.Bu o;refine⟨h1,B,t,fun hl j c G hc=>?_⟩;rw [hr] at hl hc;rw [m.JK hl] at hc;obtain⟨p1,p2,p3⟩:=u (m.OO hl) j c G hc;have hm:=(dr.1 (List.mem_of_getElem? hc)).1
 have e:aC b'.ah c.dC=aC b.ah c.dC:=by
  unfold aC
  rw [(m.group hl).2 _ hm]
 rw [e];exact⟨p1,p2.jz m hr,p3⟩
theorem TI.top(h:TI aa H b0 b (p++[f]) a8):FI aa H b0 b p f:=h.fr p f [] rfl
theorem TI.under(h:TI aa H b0 b (p++[f]) a8) {p1:List bp}(j:p=p1++g::q):FI aa H b0 b p1 g∧g.key≠f.key:=by
 refine⟨h.fr p1 g (q++[f]) (by rw [j];simp),fun e=>?_⟩;have h1:=h.top.new
 grind [gj]
theorem TI.snoc(h:∀p1 g q,p=p1++g::q→FI aa H b0 b p1 g) (j:FI aa H b0 b p f):∀p1 g q,p++[f]=p1++g::q→FI aa H b0 b p1 g:=fun p1 g q m=>by grind [Ey]
theorem l6(N:aq aa) {rk:List Key}{er:Int}(h:TI aa H b0 b (p++[f]) a8) (U:Good aa b0.ab ⟨b,[],[],0⟩) (hs:FS aa (valOf aa b0.ab) b p f b' l' rk er):er=0∧TI aa H b0 b' l' (a8++rk):=by
 have Ho:=N.len;have F:=h.bi;have o:=h.wy;have V0:b.ad=b0.ad:=o.rev;have eK:b.ab=b0.ab:=o.aD;have hT:=h.top;obtain⟨i,hi,B⟩:=hT.key
 have wv:aw f.key=false:=by grind [di]
 have hor:∀j:Nat,j<aa.length→gj (p++[f]) (aM aa (j:Int))=true→j=i∨Lw aa i (ny aa j):=fun j t O=>by
  rw [fH,kL] at O;simp only [Bool.or_eq_true,decide_eq_true_eq] at O
  rcases O with O | O
  ·
   exact .inr (hT.low i j hi t B O)
  grind [eb]
 have QV:∀{b2:bZ}{C:List Key},iV (valOf aa b0.ab) (fun y=>y=f.key) C b.ad b.ah b2.ah→(∀y∈a8,y∈C)→b2.ad=b.ad→b2.ab=b.ab→(∀y r,aA b2.ah y=some r→r.bq=true→(aC b0.ah y).bq=true∨MC (valOf aa b0.ab) b0 y)→(∀y∈C,DD (valOf aa b0.ab) b0 y)→(∀y∈C,y∈a8∨ay b2 y=true)→(∀y,ay b y=false→ay b2 y=true→y∈C∨¬MC (valOf aa b0.ab) b0 y)→C.Nodup→Wy aa b0 ⟨b2,[],C,0⟩:=fun G Ez h1 u Q I h5 h6 h7=>
  o.step h1 u (by rw [← V0];exact G.mono (fun _ h=>h) fun _ _=>trivial) Ez Q I h5 h6 h7
 -- a frame is acp
 have V2:∀a,ep aa a→bJ b (p++[f]) [] a=1→(∀m:Nat,m<aa.length→a=aM aa (m:Int)→∀j:Nat,j<aa.length→gj (p++[f]) (aM aa (j:Int))=true→Lw aa m (ny aa j))→TI aa H b0 b (p++[f]++[⟨a,false,0,[],[]⟩]) a8:=fun a IF hl B0=>by
  obtain⟨h1,u,Q⟩:=uL hl;obtain⟨m,hm,ham,_⟩:=IF.gM u;refine⟨F.MB fun y hy=>?_,o,TI.snoc h.fr ⟨⟨m,hm,ham⟩,h1,fun m' j hm' t e O=>B0 m' hm' e j t O,(fun hc=>by cases hc),fun _=>⟨rfl,rfl,Int.le_refl _,fun _ j c t=>by simp at t⟩⟩,fun g U=>?_⟩
  rotate_left
  ·
   rcases List.mem_append.1 U with U | U
   ·
    exact h.nr g U
   rw [List.mem_singleton] at U;subst U;refine⟨fun hr=>?_,o.uH Q⟩
   have:=o.JL a hr
   grind
  rw [Bool.and_eq_true] at hy ⊢;rw [fH,hy.1];exact⟨rfl,hy.2⟩
 -- the last frame is aaZ one of the same key
 have uK:∀{g:bp}{b2:bZ}{C:List Key},g.key=f.key→Bi aa H (fun y=>gj (p++[f]) y && az y) b2→Wy aa b0 ⟨b2,[],C,0⟩→iV (valOf aa b0.ab) (fun y=>y=f.key) C b.ad b.ah b2.ah→b2.ad=b.ad→(∀y∈C,y∈a8)→FI aa H b0 b2 p g→TI aa H b0 b2 (p++[g]) C:=fun {g b2 C} hk S V3 G hr Ez hF=>by
  refine⟨?_,V3,TI.snoc (fun p1 g q hp=>?_) hF,fun q V=>?_⟩
  ·
   have e:(fun y=>gj (p++[g]) y && az y)=fun y=>gj (p++[f]) y && az y:=by
    funext y
    grind [fH,kL]
   rw [e];exact S
  ·
   obtain⟨h1,u⟩:=h.under hp;exact h1.jz G hr u
  rcases List.mem_append.1 V with V | V
  ·
   have:=h.nr q (List.mem_append_left _ V)
   grind
  rw [List.mem_singleton] at V;subst V
  have:=h.nr f (by simp)
  grind
 have MF:∀{g:bp},g.key=f.key→∀k,gj (p++[f]) k=true→gj (p++[g]) k=true:=fun hk k GG=>by grind [fH,kL]
 -- the last frame is done
 have QW:∀{b2:bZ}{C:List Key},Bi aa H (fun y=>gj (p++[f]) y && az y) b2→ay b2 f.key=true→Wy aa b0 ⟨b2,[],C,0⟩→iV (valOf aa b0.ab) (fun y=>y=f.key) C b.ad b.ah b2.ah→b2.ad=b.ad→(∀y∈C,y∈a8∨y=f.key)→TI aa H b0 b2 p C:=fun {b2 C} S hu V3 G hr Ez=>by
  refine⟨S.off hu fun y hy=>?_,V3,fun p1 g q hp=>?_,fun g U=>?_⟩
  ·
   rw [Bool.and_eq_true,fH,kL] at hy
   grind
  ·
   obtain⟨h1,u⟩:=h.under hp;exact h1.jz G hr u
  have h1:=h.nr g (List.mem_append_left _ U);refine⟨fun Q=>?_,h1.2⟩
  rcases Ez _ Q with I | I
  ·
   exact h1.1 I
  obtain⟨p1,q1,hp⟩:=List.append_of_mem U;exact(h.under hp).2 I
 have JP:∀n,f.ae=(dW (cx aa f.key) (valOf aa b0.ab) n).2→aG aa f.key f.ae=cx aa (aM aa (i:Int)) (tr aa b0.ab i n):=fun n hn=>by
  rw [hn,B,dX hi (by omega)]
  rfl
 have acq:∀{y},gj (p++[f]) y=true→∃j:Nat,j<aa.length∧y=aM aa (j:Int):=fun {y} hy=>by
  rw [fH,kL] at hy;simp only [Bool.or_eq_true,decide_eq_true_eq] at hy
  rcases hy with hy | hy
  ·
   unfold gj at hy
   obtain⟨g,hgm,DE⟩:=List.any_eq_true.1 hy;obtain⟨p1,q1,hp⟩:=List.append_of_mem hgm;obtain⟨j,t,e⟩:=(h.under hp).1.key
   grind
  grind
 have amE:∀a,(∀m:Nat,m<aa.length→a=aM aa (m:Int)→∀j:Nat,j<aa.length→gj (p++[f]) (aM aa (j:Int))=true→Lw aa m (ny aa j))→bJ b (p++[f]) [] a≠3:=fun a B0 hl=>by
  obtain⟨h1,u⟩:=Ex hl;obtain⟨j,t,rfl⟩:=acq u;have Q:=B0 j t rfl j t u
  grind [bf,Lw,ny]
 have V4:∀n,n<cL aa i→∀m:Nat,m<aa.length→kq aa b0.ab i n=aM aa (m:Int)→∀j:Nat,j<aa.length→gj (p++[f]) (aM aa (j:Int))=true→Lw aa m (ny aa j):=fun n hn m hm e j t O=>by
  obtain⟨h1,u⟩:=(oh N hi (List.mem_of_getElem? (fG (aD:=b0.ab) hn))).2 m hm e
  grind
 have ajw:Live b.ah b.ad f.key→∀c∈bR b.ah (aB b.ah b.ad f.key),ep aa c.read∧∀m:Nat,m<aa.length→c.read=aM aa (m:Int)→∀j:Nat,j<aa.length→gj (p++[f]) (aM aa (j:Int))=true→Lw aa m (ny aa j):=fun hl c hc=>by
  obtain⟨hm,D,OT⟩:=dr.1 hc;obtain⟨j,t,ej⟩:=F.key (jZ hl hm);obtain⟨rm,g1,g2,g3⟩:=jZ hl hm;have h1:=(F.c.vr rm (aI g1).1).2;rw [(aI g1).2,ej,fF N t] at h1;rw [aN g1,h1] at D;have B0:=oh N t D;refine⟨B0.1.Jt N,fun m AK e q V O=>?_⟩;obtain⟨I,h5⟩:=B0.2 m AK e;rw [B] at hl hm;obtain⟨g4,g5⟩:=GC N F hi t hl (ej ▸ hm)
  grind
 have VZ:∀{a},fV (p++[f]) b a→aw a=true∨((gj (p++[f]) a && az a)=true∧az a=true)∨ay b a=true:=fun {a} h=>h.imp id (Or.imp (fun⟨x,y⟩=>⟨by rw [x,y];rfl,y⟩) id)
 have EB:∀{b2:bZ},f.running=false→Bi aa H (fun y=>gj (p++[f]) y && az y) b2→Wy aa b0 ⟨b2,[],a8,0⟩→iV (valOf aa b0.ab) (fun y=>y=f.key) a8 b.ad b.ah b2.ah→b2.ad=b.ad→bT b2.ah b2.ad f.key=false→ay b2 f.key=false→DD (valOf aa b0.ab) b0 f.key→TI aa H b0 b2 (p++[{f with running:=true,at_:=0}]) a8:=fun {b2} hr S V3 G acr O hu hw=>by
  obtain⟨c1,c2,_,_⟩:=hT.Bu hr;refine uK (g:={f with running:=true,at_:=0}) rfl S V3 G acr (fun _ h=>h) ⟨⟨i,hi,B⟩,hT.new,hT.low,fun _=>⟨O,hu,hw,fun j t e=>⟨0,Nat.zero_le _,c1,c2⟩,fun a D=>?_⟩,fun hc=>by cases hc⟩
  grind
 have B1:Live b.ah b.ad f.key→ay b f.key=false:=fun⟨r,h1,_,u⟩=>jj h1 u
 cases hs with
 | stay=>grind
 | full hr J hn=>
  have:=F.len
  simp at hn
  omega
 | put hr J=>
  obtain⟨h1,u,Q,I,h5⟩:=hT.run hr;obtain⟨n,hn,yW,QX⟩:=I i hi B;have ht:=JP n QX
  have hnq:n=cL aa i:=by grind [Gy]
  rw [hnq,Gz N hi] at ht
  have QY:f.reads=cH aa b0.ab i:=by
   rw [yW,hnq,B]
   rfl
  have hm:bs b f.key (aG aa f.key f.ae).value f.reads=bs b (aM aa (i:Int)) (valOf aa b0.ab (aM aa (i:Int))) (cH aa b0.ab i):=by rw [ht,QY,B]
  rw [hm];have S:=F.put N hi (fun hc=>by grind [fH,kL]) (by grind);rw [eK] at S
  have S:Bi aa H (fun y=>gj (p++[f]) y && az y) ⟨b.ad,b.ab,dK b.ah (bs b (aM aa (i:Int)) (valOf aa b0.ab (aM aa (i:Int))) (cH aa b0.ab i))⟩:=by rw [eK];exact S
  have G:iV (valOf aa b0.ab) (fun y=>y=f.key) (a8++[f.key]) b.ad b.ah (dK b.ah (bs b (aM aa (i:Int)) (valOf aa b0.ab (aM aa (i:Int))) (cH aa b0.ab i))):=by
   rw [B] at h1 u;refine iV.put h1 (fun r hr=>?_) ⟨by simp [bs,B],B.symm⟩ rfl rfl rfl (fun r hr=>?_) fun hn=>?_
   ·
    have h1:=(F.c.Er r (aI hr).1).1
    have h6:r.av≠b.ad:=fun e=>by
     have:ay b (aM aa (i:Int))=true:=aL.2 ⟨r,hr,e⟩
     grind
    omega
   ·
    have MD:aA b.ah (aM aa (i:Int))=some r:=hr
    unfold bs
    simp only [MD,aN MD]
    grind
   grind [bs]
  have rF:ay {b with ah:=dK b.ah (bs b (aM aa (i:Int)) (valOf aa b0.ab (aM aa (i:Int))) (cH aa b0.ab i))} f.key=true:=by
   rw [B];exact jh (r:=bs b (aM aa (i:Int)) (valOf aa b0.ab (aM aa (i:Int))) (cH aa b0.ab i)) rfl
  refine⟨rfl,QW S rF (QV G (fun y hy=>by simp [hy]) rfl rfl (fun y r W J=>?_) (fun y hy=>?_) (fun y hy=>?_) (fun y hu Eu=>?_) (xR o.jP fun hr=>by have:=o.JL _ hr;rw [u] at this;cases this)) G rfl fun y hy=>by simpa using hy⟩
  ·
   have Y:aA (dK b.ah (bs b (aM aa (i:Int)) (valOf aa b0.ab (aM aa (i:Int))) (cH aa b0.ab i))) y=some r:=W;rw [ck] at Y
   split at Y
   ·
    have:=Option.some.inj Y
    subst this
    cases J
   exact o.LI y r Y J
  ·
   rcases List.mem_append.1 hy with hy | hy
   ·
    exact o.a8 y hy
   grind
  ·
   grind
  refine .inl ?_
  by_cases e:y=f.key
  ·
   rw [e]
   simp
  obtain⟨r,hr,hv⟩:=aL.1 Eu;have MD:aA (dK b.ah (bs b (aM aa (i:Int)) (valOf aa b0.ab (aM aa (i:Int))) (cH aa b0.ab i))) y=some r:=hr;rw [ck,if_neg (show ¬y=(bs b (aM aa (i:Int)) (valOf aa b0.ab (aM aa (i:Int))) (cH aa b0.ab i)).key from fun h=>e (h.trans B.symm))] at MD
  grind [aL]
 | push hr J hl=>
  obtain⟨h1,u,Q,I,h5⟩:=hT.run hr;obtain⟨n,hn,yW,QX⟩:=I i hi B;have ht:=JP n QX
  have X:n<cL aa i:=by grind [Gz]
  rw [Gy N hi X] at ht;rw [ht] at hl ⊢;rw [List.append_nil];exact⟨rfl,V2 _ (BX N hi X) hl (V4 n X)⟩
 | QJ hr J hl=>
  obtain⟨h1,u,Q,I,h5⟩:=hT.run hr;obtain⟨n,hn,yW,QX⟩:=I i hi B
  grind [Gz,Gy]
 | read hr J DF uM=>
  obtain⟨h1,u,Q,I,h5⟩:=hT.run hr;obtain⟨n,hn,yW,QX⟩:=I i hi B;have ht:=JP n QX
  have X:n<cL aa i:=by grind [Gz]
  rw [Gy N hi X] at ht;rw [ht] at DF uM ⊢;rw [List.append_nil];have Mr:=pr DF uM
  have QU:bS (valOf aa b0.ab) b (kq aa b0.ab i n)=valOf aa b0.ab (kq aa b0.ab i n):=by
   rw [← eK];refine F.answer (by grind [BX]) ?_
   grind
  refine⟨rfl,uK (g:={f with reads:=f.reads++[kq aa b0.ab i n],ae:=f.ae++[bS (valOf aa b0.ab) b (kq aa b0.ab i n)]}) rfl F o (.refl _) rfl (fun _ h=>h) ⟨⟨i,hi,B⟩,hT.new,hT.low,fun _=>⟨h1,u,Q,fun j t e=>?_,fun a D=>?_⟩,fun hc=>?_⟩⟩
  ·
   have:=eb N t hi (e.symm.trans B)
   subst this;refine⟨n+1,X,?_,?_⟩
   ·
    show f.reads++[kq aa b0.ab j n]=_
    rw [yW,B]
    rfl
   show f.ae++[bS (valOf aa b0.ab) b (kq aa b0.ab j n)]=_
   rw [QU,QX,B]
   rfl
  ·
   rcases List.mem_append.1 D with D | D
   ·
    exact(h5 a D).mono (MF rfl)
   rw [List.mem_singleton] at D;rw [D];exact Mr.mono (MF rfl)
  grind
 | up hr hu=>
  rw [List.append_nil];exact⟨rfl,QW F hu o (.refl _) rfl fun _ h=>.inl h⟩
 | start hr hu hx=>
  rw [List.append_nil];refine⟨rfl,EB hr F o (.refl _) rfl ?_ hu ⟨wv,o.uH hu,?_⟩⟩
  ·
   rw [Bool.eq_false_iff]
   grind [bE,aN]
  cases W:aA b.ah f.key with
  | none=>exact .inl (o.none W)
  | some r=>
   refine .inr ?_
   rcases hx with hx | hx
   ·
    rw [W] at hx
    cases hx
   rw [aN W] at hx;exact o.LI _ r W hx
 | mark hr hl hn=>
  obtain⟨c1,c2,c3,c4⟩:=hT.Bu hr;have c4:=c4 hl;have G:iV (valOf aa b0.ab) (fun y=>y=f.key) a8 b.ad b.ah (cI b (aB b.ah b.ad f.key) false).ah:=iV.mark hl false (.inr rfl)
  have S:=F.mark N hl fun m hm a D OT=>by
   have rE:(⟨m,a⟩:oa)∈bR b.ah (aB b.ah b.ad f.key):=dr.2 ⟨hm,D,OT⟩;obtain⟨j,t⟩:=List.mem_iff_getElem?.1 rE;have h1:=(List.getElem?_eq_some_iff.1 t).1;obtain⟨u,Q,_⟩:=c4 j ⟨m,a⟩ (by omega) t
   grind
  have yD:=o.OP hl fun m hm a D OT=>by
   have rE:(⟨m,a⟩:oa)∈bR b.ah (aB b.ah b.ad f.key):=dr.2 ⟨hm,D,OT⟩;obtain⟨j,t⟩:=List.mem_iff_getElem?.1 rE
   grind
  rw [List.append_nil];refine⟨rfl,QW S ?_ (QV G (fun _ h=>h) rfl rfl (fun y r' W J=>?_) o.a8 (fun _ h=>.inl h) (fun y hu Eu=>.inr (yD y (GB hu Eu))) o.jP) G rfl fun _ h=>.inl h⟩
  ·
   obtain⟨r,h1,_⟩:=hl
   grind [gX,fx]
  have Y:(aA b.ah y).map (aX b.ad (aB b.ah b.ad f.key) false)=some r':=bV.symm.trans W;obtain⟨r,hr,rfl⟩:=Option.map_eq_some_iff.1 Y;rw [sF] at J;exact o.LI y r hr J
 | qi c hr hl hc hk=>grind
 | ME c hr hl hc hk=>grind
 | pass c hr hl hc B2 IH hle=>
  obtain⟨c1,c2,c3,c4⟩:=hT.Bu hr;have Mr:=pr B2 IH;rw [List.append_nil];refine⟨rfl,uK (g:={f with at_:=f.at_+1}) rfl F o (.refl _) rfl (fun _ h=>h) ⟨⟨i,hi,B⟩,hT.new,hT.low,fun hc=>?_,fun _=>⟨c1,c2,by show 0≤f.at_+1;omega,fun _ j c' t hcj=>?_⟩⟩⟩
  ·
   grind
  have hj':j<f.at_.toNat+1:=by grind
  rcases Nat.lt_or_ge j f.at_.toNat with X | ID
  ·
   obtain⟨p1,p2,p3⟩:=c4 hl j c' X hcj;exact⟨p1,p2.mono (MF rfl),p3⟩
  have e:j=f.at_.toNat:=by omega
  subst e;have V5:(bR b.ah (aB b.ah b.ad f.key))[f.at_.toNat]?=some c':=hcj;rw [hc] at V5
  have:=Option.some.inj V5
  subst this;refine⟨?_,Mr.mono (MF rfl),by rw [← o.changed F c.read];exact hle⟩;obtain⟨hm,D,OT⟩:=dr.1 (List.mem_of_getElem? hc);obtain⟨rm,g1,g2,g3⟩:=jZ hl hm;rw [aN g1] at hle D ⊢;have h1:=F.c.changed (aI g1).1 g3 D (by rw [eK];exact hle);rw [eK] at h1;exact h1
 | fail c hr hl hc B2 IH X=>
  obtain⟨hm,D,OT⟩:=dr.1 (List.mem_of_getElem? hc);have JN:=o.QR F hl hm D OT X;have Ew:DD (valOf aa b0.ab) b0 f.key:=⟨wv,o.uH (B1 hl),.inr (.inr (JN _ fx))⟩;rw [List.append_nil]
  cases JO:az f.key with
  | false=>
   simp only [Bool.false_eq_true,if_false];refine⟨trivial,EB hr F o (.refl _) rfl ?_ (B1 hl) Ew⟩;rw [Bool.eq_false_iff]
   grind [bE]
  | true=>
   simp only [if_true];have G:iV (valOf aa b0.ab) (fun y=>y=f.key) a8 b.ad b.ah (cI b (aB b.ah b.ad f.key) true).ah:=iV.mark hl true (.inl JO);obtain⟨r,f1,f2,f3⟩:=id hl
   have hfk:aA (cI b (aB b.ah b.ad f.key) true).ah f.key=some {r with bq:=true}:=by
    refine bV.trans ?_;rw [f1]
    show some (aX _ _ _ r)=_
    unfold aX
    rw [if_pos (by rw [(aI f1).2];exact fx)]
    rfl
   refine⟨trivial,EB hr (F.bq fun m hm=>jZ hl hm) (QV G (fun _ h=>h) rfl rfl (fun y r' W J=>?_) o.a8 (fun _ h=>.inl h) (fun y hu Eu=>by grind [lL]) o.jP) G rfl ?_ (jj hfk f3) Ew⟩
   ·
    have Y:(aA b.ah y).map (aX b.ad (aB b.ah b.ad f.key) true)=some r':=bV.symm.trans W;obtain⟨q,V,rfl⟩:=Option.map_eq_some_iff.1 Y
    by_cases hy:y∈aB b.ah b.ad f.key
    ·
     exact .inr (JN y hy)
    unfold aX at J
    rw [if_neg (by rw [(aI V).2];exact hy)] at J;exact o.LI y q V J
   rw [Bool.eq_false_iff]
   grind [bE]
end
end Go.Rc

namespace Go.Rc
open Go
theorem As.exc{A:As}{Z:Nat→Prop}{w w':World}(h:A.ok Z w) (c:aT [] w w'):A.ok Z w':=A.st c.size (fun x _ j=>c.block x j (by simp)) h
theorem B3{k:Key}(h:cY k):az k=decide (k.kind=32):=by
 have e:(decide (1≤k.kind) && decide (k.kind≤22))=false:=by
  rcases h with h | h
  ·
   grind
  grind
 unfold az
 grind
/-! ### records in blocks -/
structure RL where
 b:Nat
 a:Option Addr
 n:Nat
 c:Nat
def WD.wc(D:WD) (v:Nat) (rev:Int) (ra:Option Addr) (rn rc:Nat):List Value:=
 [.slice D.ar D.r D.cr,.int .i64 rev,.slice D.a1 D.n1 D.c1,.slice D.a2 D.n2 D.c2,.map (some D.m),.pointer (some ⟨v,0,none⟩),.slice ra rn rc]
def As.gA(RT:Nat) (lf:Key→RL) (l:List Rec):As where
 fp x:=∃k r,aA l k=some r∧x=(lf k).b
 ok Z w:=(∀k r,aA l k=some r→bU w (lf k).b RT (r.row (lf k).a (lf k).n (lf k).c)∧Rd RR.key 2 Z w (lf k).a (lf k).n (lf k).c r.reads∧r.reads.length≤4000)∧∀k k' r r',aA l k=some r→aA l k'=some r'→(lf k).b=(lf k').b→k=k'
 lt h x hx:=by
  obtain⟨k,r,hk,rfl⟩:=hx;exact(h.1 k r hk).1.lt
 mono hZ h:=⟨fun k r hk=>by
  obtain⟨hb,hr,h4⟩:=h.1 k r hk;exact⟨hb,hr.mono hZ,h4⟩,h.2⟩
 st hs hc h:=⟨fun k r hk=>by
  obtain⟨hb,hr,h4⟩:=h.1 k r hk;exact⟨(As.blk (lf k).b RT (r.row (lf k).a (lf k).n (lf k).c)).st (Z:=fun _=>False) hs (fun x hx hl=>hc x (.inl ⟨k,r,hk,by rcases hx with hx | hx;exact hx;exact hx.elim⟩) hl) hb,hr.st hs (fun x hx=>hc x (.inr hx)),h4⟩,h.2⟩
theorem As.sG{RT:Nat}{lf:Key→RL}{l:List Rec}{Z:Nat→Prop}{w:World}(h:(As.gA RT lf l).ok Z w):(As.gA RT lf l).ok Z w:=h
def dw(l:List Rec) (lf:Key→RL) (ml:List (Key × Value)):Prop:=∀k,bF ml k=(aA l k).map fun _=>Value.pointer (some ⟨(lf k).b,0,none⟩)
theorem dw.nil(lf:Key→RL):dw [] lf []:=fun _=>rfl
theorem dw.no{l:List Rec}{lf:Key→RL}{ml:List (Key × Value)}{k:Key}(h:dw l lf ml) (j:aA l k=none):(bF ml k).getD (.pointer none)=.pointer none:=by rw [h k,j];rfl
theorem dw.yes{l:List Rec}{lf:Key→RL}{ml:List (Key × Value)}{k:Key}{r:Rec}(h:dw l lf ml) (j:aA l k=some r):bF ml k=some (.pointer (some ⟨(lf k).b,0,none⟩)):=by rw [h k,j];rfl
def wH(lf:Key→RL) (k:Key) (q:RL):Key→RL:=fun y=>if y=k then q else lf y
theorem lM{lf:Key→RL}{k:Key}{q:RL}:wH lf k q k=q:=if_pos rfl
theorem l7{lf:Key→RL}{k y:Key}{q:RL}(h:¬y=k):wH lf k q y=lf y:=if_neg h
theorem dw.put{l l':List Rec}{lf:Key→RL}{ml:List (Key × Value)}{r:Rec}{q:RL}(h:dw l lf ml) (hl:∀y,aA l' y=if y=r.key then some r else aA l y):dw l' (wH lf r.key q) (cM ml r.key (.pointer (some ⟨q.b,0,none⟩))):=fun k=>by
 rw [ek,hl k]
 by_cases e:k=r.key
 ·
  subst e;rw [if_pos rfl,if_pos rfl,lM]
  rfl
 rw [if_neg fun h=>e h.symm,if_neg e,l7 e,h k]
section
variable {RT:Nat}{q:RL}{lf:Key→RL}{l l':List Rec}{r:Rec}{w0 w:World}{M Z:Nat→Prop}{L:List As}
theorem St.acu(h:St w0 M Z w L) (RT:Nat) (lf:Key→RL):St w0 M Z w (As.gA RT lf []::L):=h.fact (B:=As.gA RT lf []) ⟨fun k r hk=>(by cases hk),fun k k' r r' hk=>(by cases hk)⟩ fun x j=>by obtain⟨k,r,hk,_⟩:=j;cases hk
theorem St.yX(h:St w0 M Z w (As.blk q.b RT (r.row q.a q.n q.c)::As.gA RT lf l::L)) (hr:Rd RR.key 2 Z w q.a q.n q.c r.reads) (u:r.reads.length≤4000) (hl:∀y,aA l' y=if y=r.key then some r else aA l y):St w0 M Z w (As.gA RT (wH lf r.key q) l'::L):=by
 have B:bU w q.b RT (r.row q.a q.n q.c):=h.g0;have m:(As.gA RT lf l).ok Z w:=h.g1;have o:∀k r',aA l k=some r'→q.b≠(lf k).b:=fun k r' hk e=>(List.pairwise_cons.1 h.rh).1 (As.gA RT lf l) M0 q.b rfl ⟨k,r',hk,e⟩;refine h.join (C:=As.gA RT (wH lf r.key q) l') ⟨fun k r' hk=>?_,fun k k' r1 r2 h1 j e=>?_⟩ fun x t=>?_
 ·
  rw [hl k] at hk
  by_cases e:k=r.key
  ·
   rw [if_pos e] at hk
   grind [lM]
  rw [if_neg e] at hk;rw [l7 e];exact m.1 k r' hk
 ·
  rw [hl k] at h1;rw [hl k'] at j
  by_cases e1:k=r.key
  ·
   by_cases e2:k'=r.key
   ·
    rw [e1,e2]
   rw [if_neg e2] at j
   grind [lM,l7]
  rw [if_neg e1] at h1
  by_cases e2:k'=r.key
  ·
   rw [l7 e1,e2,lM] at e;exact absurd e.symm (o k _ h1)
  rw [if_neg e2] at j;rw [l7 e1,l7 e2] at e;exact m.2 k k' _ _ h1 j e
 obtain⟨k,r',hk,rfl⟩:=t;rw [hl k] at hk
 by_cases e:k=r.key
 ·
  rw [e,lM];exact .inl rfl
 rw [if_neg e] at hk;rw [l7 e];exact .inr ⟨k,r',hk,rfl⟩
theorem Ow.z{α:Type}{f:α→List Value}{E k n c:Nat}{a:Option Addr}{xs:List α}{Z':Nat→Prop}(h:Ow (RR.flat f) E k Z' w a n c xs):Ow (RR.flat f) E k Z w a n c xs:=by
 obtain⟨hn,rows,hl,hk,h1,j⟩:=h;exact⟨hn,rows,hl,hk,h1,j⟩
theorem St.unz{A:As}{Z':Nat→Prop}(h:St w0 M Z' w [A]) (m:∀x,Z x→Z' x) (u:A.ok Z w):St w0 M Z w [A]:=
 ⟨h.bX,fun x j=>h.jL x (m x j),fun B o x j t=>h.lV B o x j (m x t),h.mQ,h.rh,fun B o=>by grind⟩
end
theorem EC{l:List Rec}{r:Rec}(h:∀x∈l,x.key≠r.key) (y:Key):aA (l++[r]) y=if y=r.key then some r else aA l y:=by
 unfold aA
 grind
/-! ### entries of maps that are changed in place -/
section
variable {κ:Type} [DecidableEq κ] {enc:κ→Value}{P:Program}{kt:TypeId}{w w':World}{b:Nat}{l:List (κ × Value)}
def QZ{κ:Type}(enc:κ→Value) (w:World) (b:Nat) (l:List (κ × Value)) (k:κ) (z:Int):Prop:=
 ∃es clock,w.heap[b]?=some (.map es clock)∧(es.toList.map (fun e=>(e.key,e.val))=l.map (fun p=>(enc p.1,p.2))∧(l.map (·.1)).Nodup∧(∀e∈es.toList,e.born<clock)∧(es.toList.map (·.born)).Nodup)∧∃(j:Nat) (v:Value) (e:MapEntry),l[j]?=some (k,v)∧es[j]?=some e∧(e.born:Int)=z
def As.ED{κ:Type}(enc:κ→Value) (b:Nat) (l:List (κ × Value)) (k:κ) (z:Int):As where
 fp x:=x=b
 ok _ w:=QZ enc w b l k z
 lt h x hx:=by
  subst hx;obtain⟨es,c,h,_⟩:=h
  grind
 mono _ h:=h
 st hs hc h:=by
  obtain⟨es,c,h,r⟩:=h;exact⟨es,c,(hc b (.inl rfl) (Array.getElem?_eq_some_iff.1 h).1).trans h,r⟩
theorem As.gmb{κ:Type}{enc:κ→Value}{b:Nat}{l:List (κ × Value)}{k:κ}{z:Int}{Z:Nat→Prop}{w:World}(h:(As.ED enc b l k z).ok Z w):QZ enc w b l k z:=h
theorem yY{e T:TypeId}{h:Value}(t:KK P kt enc) (hT:P.underlying T=some (.map kt e)) (D:∀w,(zeroValue e).run P w=.ok h w) (hb:KM enc w b l) (k:κ) :
  ∃(z:Int) (w':World),(Instr.mapEntry T (.map (some b)) (enc k)).run P w=.ok (.tuple #[(bF l k).getD h,.int .i64 z]) w'∧aT [b] w w'∧QZ enc w' b (cM l k ((bF l k).getD h)) k z:=by
 obtain⟨es,clock,hm,he,hn,S,F⟩:=hb;have u:b<w.heap.size:=(Array.getElem?_eq_some_iff.1 hm).1
 have hlen:es.toList.length=l.length:=by simpa using congrArg List.length he
 cases o:oX l k 0 with
 | none=>
  obtain⟨h1,B⟩:=j8 o;refine⟨(clock:Int),_,?_,iM w b (.map (es.push {key:=enc k,val:=h,born:=clock}) (clock+1)),?_⟩
  ·
   rw [h1];simp only [Instr.mapEntry,Sem.run_bind,run_underlying hT,Result.andThen_ok,MapKept.run_getObj_map hm,t.check,t.find l es.toList k w he,o,D,MapKept.run_setObj_map _ hm,Option.getD_none]
   rfl
  rw [h1,B];refine⟨_,_,by first | (simp [u];done) | (simp [u];exact⟨rfl,rfl⟩),⟨by simp [he],by grind [gp],?_,?_⟩,l.length,h,{key:=enc k,val:=h,born:=clock},by simp,?_,rfl⟩
  ·
   grind
  ·
   grind
  grind
 | some p=>
  obtain⟨j,v0⟩:=p;obtain⟨m,h1,B,C,U,_⟩:=jb o
  have G:j=m:=by omega
  subst G
  have I:j<es.size:=by grind
  obtain⟨y,hy⟩:∃y,es[j]?=some y:=⟨_,Array.getElem?_eq_getElem I⟩
  have J:y.key=enc k∧y.val=v0:=by
   have:=congrArg (fun x=>x[j]?) he
   grind
  have N:(((es[j]?).map (·.key)).getD (enc k))=enc k:=by rw [hy];exact J.1
  have O:(((es[j]?).map fun x=>(x.born:Int)).getD 0)=(y.born:Int):=by rw [hy];rfl
  refine⟨(y.born:Int),_,?_,iM w b (.map (es.modify j fun e=>{e with key:=enc k}) clock),?_⟩
  ·
   rw [C];simp only [Instr.mapEntry,Sem.run_bind,run_underlying hT,Result.andThen_ok,MapKept.run_getObj_map hm,t.check,t.find l es.toList k w he,o,Instr.keyThatStays,N,t.same,if_true,Sem.run_pure,MapKept.run_setObj_map _ hm,Option.getD_some,O]
   rfl
  rw [C]
  have Q:(es.modify j fun e=>{e with key:=enc k}).toList.map (fun e=>(e.key,e.val))=(l.set j (k,v0)).map (fun p=>(enc p.1,p.2))∧(es.modify j fun e=>{e with key:=enc k}).toList.map (·.born)=es.toList.map (·.born):=by
   constructor
   ·
    apply List.ext_getElem?
    intro i;have hi:=congrArg (fun x=>x[i]?) he
    grind
   apply List.ext_getElem?
   grind
  refine⟨_,_,by first | (simp [u];done) | (simp [u];exact⟨rfl,rfl⟩),⟨by grind,gp hn k _,?_,by rw [Q.2];exact F⟩,j,v0,{y with key:=enc k},?_,?_,rfl⟩
  ·
   intro x o
   have:x.born∈(es.modify j fun e=>{e with key:=enc k}).toList.map (·.born):=List.mem_map.2 ⟨x,o,rfl⟩
   grind
  ·
   grind
  grind
theorem uN{α:Type}:∀{l:List α},l.Nodup→∀{i j:Nat}{x:α},l[i]?=some x→l[j]?=some x→i=j:=fun {l} h {i j x} h1 o=>by
 obtain⟨hi,e1⟩:=List.getElem?_eq_some_iff.1 h1;obtain⟨m,e2⟩:=List.getElem?_eq_some_iff.1 o
 rcases Nat.lt_trichotomy i j with g | g | g
 ·
  exact absurd (e1.trans e2.symm) (List.pairwise_iff_getElem.1 h i j hi m g)
 ·
  exact g
 exact absurd (e2.trans e1.symm) (List.pairwise_iff_getElem.1 h j i m hi g)
theorem uO{T:TypeId}{k:κ}{z:Int}(hb:QZ enc w b l k z) (v:Value) :
  ∃w':World,(Instr.entryStore T (.map (some b)) (.int .i64 z) v).run P w=.ok () w'∧aT [b] w w'∧KM enc w' b (cM l k v):=by
 obtain⟨es,clock,hm,⟨he,hn,V,G⟩,j,v0,y,B,hy,I⟩:=hb;have C:b<w.heap.size:=(Array.getElem?_eq_some_iff.1 hm).1;have J:j<es.size:=(Array.getElem?_eq_some_iff.1 hy).1
 have N:es.findIdx? (fun e=>(e.born:Int) == z)=some j:=by
  rw [Array.findIdx?_eq_some_iff_getElem]
  have O:es[j]=y:=by grind
  refine⟨J,by rw [O];simpa using I,fun i hi=>?_⟩
  have W:(es[i]'(by omega)).born≠y.born:=fun e=>by
   have h1:(es.toList.map (·.born))[i]?=some y.born:=by grind
   have t:(es.toList.map (·.born))[j]?=some y.born:=by simp [hy]
   grind [uN]
  grind
 have Q:∃(h:Nat),oX l k 0=some (h,v0)∧h=j:=by
  cases o:oX l k 0 with
  | none=>
   have h1:=(j8 o).1;exact absurd (List.mem_map.2 ⟨(k,v0),List.mem_of_getElem? B,rfl⟩) (lC.1 h1)
  | some p=>
   obtain⟨h,v1⟩:=p;obtain⟨m,h1,t,_⟩:=jb o
   have D:(l.map (·.1))[m]?=some k:=by rw [List.getElem?_map,t];rfl
   have u:(l.map (·.1))[j]?=some k:=by rw [List.getElem?_map,B];rfl
   have X:=uN hn D u
   grind
 obtain⟨h,o,S⟩:=Q;subst S;obtain⟨m,h1,t,D,u,_⟩:=jb o
 have U:h=m:=by omega
 subst U;refine⟨_,?_,iM w b (.map (es.modify h fun e=>{e with val:=v}) clock),?_⟩
 ·
  simp only [Instr.entryStore,Sem.run_bind,Result.andThen_ok,MapKept.run_getObj_map hm,asInt,asIntOf,Sem.run_pure,N,MapKept.run_setObj_map _ hm]
 have Y:y.key=enc k:=by
  have:=congrArg (fun x=>x[h]?) he
  grind
 have F:(es.modify h fun e=>{e with val:=v}).toList.map (fun e=>(e.key,e.val))=(l.set h (k,v)).map (fun p=>(enc p.1,p.2))∧(es.modify h fun e=>{e with val:=v}).toList.map (·.born)=es.toList.map (·.born):=by
  constructor
  ·
   apply List.ext_getElem?
   intro i;have hi:=congrArg (fun x=>x[i]?) he
   grind
  apply List.ext_getElem?
  grind
 refine⟨_,_,by first | (simp [C];done) | (simp [C];exact⟨rfl,rfl⟩),by rw [u];exact F.1,gp hn k v,?_,by rw [F.2];exact G⟩;intro x o
 have:x.born∈(es.modify h fun e=>{e with val:=v}).toList.map (·.born):=List.mem_map.2 ⟨x,o,rfl⟩
 grind
variable {n:Nat}{kv:KV}{K:KV→World→Prop}{d:Tmp}{ty:TypeId}{pos:String}{af:Array Edge}{g:Option (Nat × Bool)}{T e:TypeId}
theorem OX.mapEntry{j v:Value}{k:κ}(t:KK P kt enc) (hT:P.underlying T=some (.map kt e)) (u:∀w,(zeroValue e).run P w=.ok j w) (hb:KM enc w b l) (B:(bF l k).getD j=v) {x y:Operand}(m:ev kv x=some (.map (some b))) (hy:ev kv y=some (enc k)) (C:Nat.blt d n=true)
  (h:∀(z:Int) w',aT [b] w w'→QZ enc w' b (cM l k v) k z→K ((d,.tuple #[v,.int .i64 z])::kv) w'):OX P ⟨some d,.mapEntry T x y,ty,pos,af,g⟩ n kv w K:=by
 obtain⟨z,w',hr,h1,o⟩:=yY t hT u hb k;rw [B] at hr o;refine⟨rfl,C,by simp [known,opers,m,hy],?_⟩
 have D:(execOp (jI kv) ⟨some d,.mapEntry T x y,ty,pos,af,g⟩).run P w=.ok (.value (.tuple #[v,.int .i64 z])) w':=by
  simp only [execOp,aK m,aK hy,Sem.run_bind,hr,Result.andThen_ok];rfl
 rw [D];exact h z _ h1 o
theorem OX.entryStore{k:κ}{z:Int}{v:Value}(hb:QZ enc w b l k z) {x y u:Operand}(j:ev kv x=some (.map (some b))) (hy:ev kv y=some (.int .i64 z)) (hu:ev kv u=some v)
  (h:∀w',aT [b] w w'→KM enc w' b (cM l k v)→K kv w'):OX P ⟨none,.entryStore T x y u,ty,pos,af,g⟩ n kv w K:=by
 obtain⟨w',hr,h1,m⟩:=uO (P:=P) (T:=T) hb v;refine⟨rfl,rfl,by simp [known,opers,j,hy,hu],?_⟩
 have o:(execOp (jI kv) ⟨none,.entryStore T x y u,ty,pos,af,g⟩).run P w=.ok .skip w':=by
  simp only [execOp,aK j,aK hy,aK hu,Sem.run_bind,hr,Result.andThen_ok];rfl
 rw [o];exact h _ h1 m
end
section
variable {κ:Type}{enc:κ→Value}{w0 w w':World}{M Z:Nat→Prop}{L:List As}{b:Nat}{l l':List (κ × Value)}{k:κ}{z:Int}
theorem St.V6(h:St w0 M Z w (As.map enc b l::L)) (s:aT [b] w w') (hm:QZ enc w' b l' k z):St w0 M Z w' (As.ED enc b l' k z::L):=h.kB (s.p.mono fun x _ j=>by simpa [As.map] using j) hm fun x j=>.inl j
theorem St.V7(h:St w0 M Z w (As.ED enc b l k z::L)) (s:aT [b] w w') (hm:KM enc w' b l'):St w0 M Z w' (As.map enc b l'::L):=h.kB (s.p.mono fun x _ j=>by simpa [As.ED] using j) hm fun x j=>.inl j
end
/-! ### a map to owned slices -/
def jS(L:List RE) (k:Key):Option RE:=L.find? fun e=>decide (e.key=k)
def iP(L:List RE) (k:Key):List Key:=((jS L k).map (·.reads)).getD []
def ts(L:List RE) (ml:List (Key × Value)):Prop:=∀k,bF ml k=(jS L k).map fun e=>Value.slice e.a e.n e.c
def qj(bg:Key→List Key) (x y:Key):Key→List Key:=fun z=>if z=x then bg z++[y] else bg z
def rest(L:List RE) (x:Key):List RE:=L.filter fun e=>decide (e.key≠x)
section
variable {L:List RE}{ml:List (Key × Value)}{x y:Key}{e:RE}{a:Option Addr}{n c:Nat}{v:Value}
theorem xT(h:jS L x=some e):e∈L∧e.key=x:=by grind [jS]
theorem ts.nil:ts [] []:=fun _=>rfl
theorem rG(h:List Key) (z:Key):jS (⟨x,a,n,c,h⟩::rest L x) z=if z=x then some ⟨x,a,n,c,h⟩ else jS L z:=by
 unfold jS rest
 grind
theorem ts.put(h:ts L ml) (j:List Key):ts (⟨x,a,n,c,j⟩::rest L x) (cM (cM ml x v) x (.slice a n c)):=fun z=>by
 rw [ek,rG]
 by_cases e:x=z
 ·
  subst e
  simp
 rw [if_neg e,if_neg fun h=>e h.symm,ek,if_neg e];exact h z
theorem JQ(z:Key):iP (⟨x,a,n,c,iP L x++[y]⟩::rest L x) z=qj (iP L) x y z:=by
 unfold qj
 by_cases h:z=x
 ·
  subst h;rw [if_pos rfl]
  show((jS _ z).map _).getD []=_
  rw [rG,if_pos rfl]
  rfl
 rw [if_neg h]
 show((jS _ z).map _).getD []=((jS L z).map _).getD []
 rw [rG,if_neg h]
theorem MG:iP (⟨x,a,n,c,iP L x++[y]⟩::rest L x)=qj (iP L) x y:=funext JQ
theorem EE(h:(L.map (·.key)).Nodup) (j:List Key):(((⟨x,a,n,c,j⟩:RE)::rest L x).map (·.key)).Nodup:=by
 rw [List.map_cons,List.nodup_cons];refine⟨fun m=>?_,((List.filter_sublist (l:=L)).map (·.key)).nodup h⟩;obtain⟨e,he,o⟩:=List.mem_map.1 m
 have:=(List.mem_filter.1 he).2
 simp at this
 exact this o
theorem xU:∀{L:List RE},(L.map (·.key)).Nodup→jS L x=some e→L.Perm (e::rest L x)
 | [],_,h=>by cases h
 | q::L,hn,h=>by
  rw [List.map_cons,List.nodup_cons] at hn
  unfold jS at h
  by_cases j:q.key=x
  ·
   rw [List.find?_cons_of_pos (by simpa using j)] at h
   cases h
   have:rest (e::L) x=L:=by
    unfold rest
    simp_all
   rw [this]
  rw [List.find?_cons_of_neg (by simpa using j)] at h
  have m:rest (q::L) x=q::rest L x:=by
   unfold rest
   grind
  rw [m];exact((xU hn.2 h).cons q).trans (.swap _ _ _)
variable {w0 w:World}{M Z:Nat→Prop}{l:List As}{EK:Nat}
theorem St.V8(hn:(L.map (·.key)).Nodup) (hm:ts L ml) (x:Key) (h:St w0 M Z w (As.many (L.map (RE.as EK))::l)):∃(a:Option Addr) (n c:Nat),(bF ml x).getD (.slice none 0 0)=.slice a n c∧St w0 M Z w (As.os RR.key EK 2 a n c (iP L x)::As.many ((rest L x).map (RE.as EK))::l):=by
 cases j:jS L x with
 | none=>
  refine⟨none,0,0,by rw [hm x,j];rfl,?_⟩
  have e1:iP L x=[]:=by unfold iP;rw [j];rfl
  have e2:rest L x=L:=by
   unfold rest
   rw [List.filter_eq_self];intro e he
   have:=List.find?_eq_none.1 j e he
   simpa using this
  rw [e1,e2];exact h.dp _ _ _
 | some e=>
  refine⟨e.a,e.n,e.c,by rw [hm x,j];rfl,?_⟩
  have e1:iP L x=e.reads:=by unfold iP;rw [j];rfl
  rw [e1];exact(St.VT ((xU hn j).map (RE.as EK)) h).yP
theorem St.acw{j:List Key}(h:St w0 M Z w (As.os RR.key EK 2 a n c j::As.many ((rest L x).map (RE.as EK))::l)):St w0 M Z w (As.many (((⟨x,a,n,c,j⟩:RE)::rest L x).map (RE.as EK))::l):=h.En
def FBK(L:List RE):FZ where
 p Z w:=∀e∈L,Rd RR.key 2 Z w e.a e.n e.c e.reads
 mono hZ h:=fun e he=>(h e he).mono hZ
 st hs hc h:=fun e he=>(h e he).st hs hc
theorem St.bkF(hl:∀e∈L,e.reads.length≤140737488355328) (h:St w0 M Z w (As.many (L.map (RE.as EK))::l)):St w0 M (fun x=>Z x∨(As.many (L.map (RE.as EK))).fp x) w (As.fz (FBK L)::l):=by
 have hm:(As.many (L.map (RE.as EK))).ok Z w:=h.ok _ M0
 refine h.freeze (B:=As.fz (FBK L)) (fun e he=>?_) fun x j=>j
 have m:Ow RR.key EK 2 Z w e.a e.n e.c e.reads:=As.gs (hm.2 _ (List.mem_map_of_mem (f:=RE.as EK) he))
 exact(m.rd (hl e he)).mono fun x j=>j.imp id fun j=>⟨_,List.mem_map_of_mem (f:=RE.as EK) he,j⟩
theorem ts.read(hm:ts L ml) (j:(FBK L).p Z w) (x:Key):∃(a:Option Addr) (n c:Nat),(bF ml x).getD (.slice none 0 0)=.slice a n c∧Rd RR.key 2 Z w a n c (iP L x):=by
 cases h:jS L x with
 | none=>
  refine⟨none,0,0,by rw [hm x,h];rfl,?_⟩
  grind [iP,Rd.nil]
 | some e=>
  refine⟨e.a,e.n,e.c,by rw [hm x,h];rfl,?_⟩
  have e1:iP L x=e.reads:=by unfold iP;rw [h];rfl
  rw [e1];exact j e (xT h).1
theorem JR(hn:(L.map (·.key)).Nodup) (he:e∈L):iP L e.key=e.reads:=by
 have:jS L e.key=some e:=by
  cases h:jS L e.key with
  | none=>
   have:=List.find?_eq_none.1 h e he
   simp at this
  | some q=>
   obtain⟨h1,o⟩:=xT h;obtain⟨i,hi⟩:=List.mem_iff_getElem?.1 h1;obtain⟨j,m⟩:=List.mem_iff_getElem?.1 he
   have g1:(L.map (·.key))[i]?=some e.key:=by grind
   have g2:(L.map (·.key))[j]?=some e.key:=by rw [List.getElem?_map,m];rfl
   grind [uN]
 unfold iP
 rw [this]
 rfl
end
/-! ### a search there and back -/
section
variable {l:List Rec}{rev:Int}{k:Key}{bg:Key→List Key}{L:List Key}{i q:Nat}{x y:Key}
structure tt (l:List Rec) (rev:Int) (k:Key) (bg:Key→List Key) (L:List Key) (i q:Nat):Prop where
 jP:L.Nodup
 mem:k∈L
 sub:∀x∈L,x=k∨bM l rev k x
 cl:∀j y,j<i→L[j]?=some y→∀x,Ld l rev y x→x∈L∧y∈bg x
 cur:∀y,L[i]?=some y→∀x∈(aC l y).reads.take q,bT l rev x=true→x∈L∧y∈bg x
 bk:∀x y,y∈bg x→y∈L∧Ld l rev y x
 len:∀x,(bg x).length≤4000*i+q
theorem tt.start(h:∀x,bg x=[]):tt l rev k bg [k] 0 0:=
 ⟨by simp,by simp,by simp,fun j y h=>by omega,fun y _ x m=>by simp at m,fun x y hy=>(by rw [h] at hy;cases hy),fun x=>by rw [h];simp⟩
theorem tt.op(h:tt l rev k bg L i q) (j:bT l rev k=true) (m:x∈L):bT l rev x=true:=by
 rcases h.sub x m with rfl | h1
 ·
  exact j
 exact h1.gz
theorem tt.le(h:tt l rev k bg L i q) (j:bT l rev k=true):L.length≤l.length:=by
 have:=eL h.jP fun x m=>nq (h.op j m)
 simpa using this
theorem tt.skip(h:tt l rev k bg L i q) (hy:L[i]?=some y) (o:(aC l y).reads[q]?=some x) (t:bT l rev x=false):tt l rev k bg L i (q+1):=
 {h with
  cur:=fun C m u B j=>by
   rw [hy] at m
   cases m
   rcases nA o B with h1 | rfl
   ·
    exact h.cur y hy u h1 j
   rw [t] at j;cases j
  len:=fun x=>by have:=h.len x;omega}
theorem qk{z u:Key}(h:u∈bg z):u∈qj bg x y z:=by grind [qj]
theorem xV:y∈qj bg x y x:=by unfold qj;simp
theorem uP{z u:Key}(h:u∈qj bg x y z):u∈bg z∨(z=x∧u=y):=by grind [qj]
theorem B4(z:Key):(qj bg x y z).length≤(bg z).length+1:=by
 unfold qj
 split <;> simp
theorem tt.pL(h:tt l rev k bg L i q) (hy:L[i]?=some y) (B:(aC l y).reads[q]?=some x) (D:bT l rev x=true) (hm:x∈L):tt l rev k (qj bg x y) L i (q+1):=
 {h with
  cl:=fun j t C m o hl=>⟨(h.cl j t C m o hl).1,qk (h.cl j t C m o hl).2⟩
  cur:=fun t m o F G=>by
   rw [hy] at m
   cases m
   rcases nA B F with h1 | rfl
   ·
    have:=h.cur y hy o h1 G
    grind [qk]
   exact⟨hm,xV⟩
  bk:=fun z u hu=>by
   rcases uP hu with h1 | ⟨rfl,rfl⟩
   ·
    exact h.bk z u h1
   exact⟨List.mem_of_getElem? hy,List.mem_of_getElem? B,D⟩
  len:=fun z=>by have:=h.len z;grind [B4]}
theorem tt.new(h:tt l rev k bg L i q) (hy:L[i]?=some y) (B:(aC l y).reads[q]?=some x) (I:bT l rev x=true) (hm:x∉L):tt l rev k (qj bg x y) (L++[x]) i (q+1):=by
 have O:i<L.length:=(List.getElem?_eq_some_iff.1 hy).1;have C:Ld l rev y x:=⟨List.mem_of_getElem? B,I⟩
 have pL:∀{j z},j≤i→(L++[x])[j]?=some z→L[j]?=some z:=fun D Q=>by grind
 refine⟨by grind [jP],by simp [h.mem],fun z m=>?_,fun j F D o t hl=>?_,fun F o t J N=>?_,fun z u hu=>?_,fun z=>?_⟩
 ·
  rcases List.mem_append.1 m with m | m
  ·
   exact h.sub z m
  rw [List.mem_singleton] at m;subst m
  rcases h.sub y (List.mem_of_getElem? hy) with rfl | h1
  ·
   exact .inr (.one C)
  exact .inr (.step h1 C)
 ·
  have h1:=h.cl j F D (pL (by omega) o) t hl
  grind [qk]
 ·
  have G:=pL (Nat.le_refl _) o;rw [hy] at G
  cases G
  rcases nA B J with h1 | rfl
  ·
   have:=h.cur y hy t h1 N
   grind [qk]
  exact⟨by simp,xV⟩
 ·
  rcases uP hu with h1 | ⟨rfl,rfl⟩
  ·
   have:=h.bk z u h1
   grind
  grind
 have:=h.len z
 grind [B4]
theorem tt.next(h:tt l rev k bg L i q) (hy:L[i]?=some y) (t:(aC l y).reads.length≤q) (C:q≤4000):tt l rev k bg L (i+1) 0:=
 {h with
  cl:=fun j u D m o hl=>by
   rcases Nat.lt_or_ge j i with h1 | h1
   ·
    exact h.cl j u h1 m o hl
   have e:j=i:=by omega
   subst e;rw [hy] at m
   cases m
   exact h.cur y hy o (by rw [List.take_of_length_le t];exact hl.1) hl.2
  cur:=fun _ _ x B=>by simp at B
  len:=fun x=>by have:=h.len x;omega}
theorem tt.done(h:tt l rev k bg L i q) (hi:L.length≤i) (x:Key):x∈L↔x=k∨bM l rev k x:=by
 have m:∀y∈L,∀x,Ld l rev y x→x∈L∧y∈bg x:=fun y hy x hl=>by
  obtain⟨j,o⟩:=List.mem_iff_getElem?.1 hy
  have:=(List.getElem?_eq_some_iff.1 o).1
  exact h.cl j y (by omega) o x hl
 refine⟨h.sub x,?_⟩;rintro(rfl | h1)
 ·
  exact h.mem
 induction h1 with
 | one h1=>exact(m _ h.mem _ h1).1
 | step _ t u=>exact(m _ u _ t).1
theorem tt.acy(h:tt l rev k bg L i q) (hi:L.length≤i) (x y:Key):y∈bg x↔(y=k∨bM l rev k y)∧Ld l rev y x:=by
 rw [← h.done hi y];refine⟨h.bk x y,fun⟨h1,o⟩=>?_⟩;obtain⟨j,m⟩:=List.mem_iff_getElem?.1 h1
 have:=(List.getElem?_eq_some_iff.1 m).1
 exact(h.cl j y (by omega) m x o).2
structure xW (l:List Rec) (rev:Int) (k:Key) (bg:Key→List Key) (L:List Key) (i q:Nat):Prop where
 jP:L.Nodup
 mem:k∈L
 sub:∀x∈L,x=k∨xP l rev k x
 cl:∀j y,j<i→L[j]?=some y→∀x∈bg y,x∈L
 cur:∀y,L[i]?=some y→∀x∈(bg y).take q,x∈L
theorem xW.start:xW l rev k bg [k] 0 0:=⟨by simp,by simp,by simp,fun j y h=>by omega,fun y _ x m=>by simp at m⟩
theorem xW.le(h:xW l rev k bg L i q) (j:bT l rev k=true):L.length≤l.length:=by
 have:=eL h.jP fun x m=>nq (l:=l) (rev:=rev) (by
  rcases h.sub x m with rfl | h1
  ·
   exact j
  exact h1.gz)
 simpa using this
theorem xW.has(h:xW l rev k bg L i q) (hy:L[i]?=some y) (m:(bg y)[q]?=some x) (hm:x∈L):xW l rev k bg L i (q+1):=
 {h with
  cur:=fun u j o t=>by
   rw [hy] at j
   cases j
   rcases nA m t with h1 | rfl
   ·
    exact h.cur y hy o h1
   exact hm}
theorem xW.add(h:xW l rev k bg L i q) (J:∀x y,y∈bg x↔(y=k∨bM l rev k y)∧Ld l rev y x) (hy:L[i]?=some y) (D:(bg y)[q]?=some x) (hm:x∉L):xW l rev k bg (L++[x]) i (q+1):=by
 have Q:i<L.length:=(List.getElem?_eq_some_iff.1 hy).1;obtain⟨h1,o⟩:=(J y x).1 (List.mem_of_getElem? D)
 have N:bM l rev k x:=by grind [mem]
 have O:bM l rev x k:=by
  rcases h.sub y (List.mem_of_getElem? hy) with rfl | t
  ·
   exact .one o
  exact(bM.one o).trans t.2
 have pL:∀{j z},j≤i→(L++[x])[j]?=some z→L[j]?=some z:=fun F o=>by grind
 refine⟨by grind [jP],by simp [h.mem],fun z m=>?_,fun j G F u B C=>by simp [h.cl j G F (pL (by omega) u) B C],fun G u B C=>?_⟩
 ·
  rcases List.mem_append.1 m with m | m
  ·
   exact h.sub z m
  rw [List.mem_singleton] at m;subst m;exact .inr ⟨N,O⟩
 have I:=pL (Nat.le_refl _) u;rw [hy] at I
 cases I
 rcases nA D C with t | rfl
 ·
  simp [h.cur y hy B t]
 simp
theorem xW.next(h:xW l rev k bg L i q) (hy:L[i]?=some y) (C:(bg y).length≤q):xW l rev k bg L (i+1) 0:=
 {h with
  cl:=fun j t D m o u=>by
   rcases Nat.lt_or_ge j i with h1 | h1
   ·
    exact h.cl j t h1 m o u
   have e:j=i:=by omega
   subst e;rw [hy] at m
   cases m
   exact h.cur y hy o (by grind [List.take_of_length_le])
  cur:=fun _ _ x B=>by simp at B}
theorem xW.done(h:xW l rev k bg L i q) (B:bT l rev k=true) (C:∀x y,y∈bg x↔(y=k∨bM l rev k y)∧Ld l rev y x) (hi:L.length≤i) (x:Key):x∈L↔x∈aB l rev k:=by
 have D:∀y∈L,∀x∈bg y,x∈L:=fun y hy x m=>by
  obtain⟨j,u⟩:=List.mem_iff_getElem?.1 hy
  have:=(List.getElem?_eq_some_iff.1 u).1
  exact h.cl j y (by omega) u x m
 rw [cm]
 constructor
 ·
  intro m
  exact(h.sub x m).imp id fun h1=>⟨B,h1⟩
 rintro(rfl | ⟨_,h1,o⟩)
 ·
  exact h.mem
 have key:∀{x y:Key},bM l rev x y→(x=k∨bM l rev k x)→y∈L→x∈L:=by
  intro x y o h1
  induction o with
  | one t=>grind
  | step t F G=>
   refine fun hy=>G (D _ hy _ ((C _ _).2 ⟨.inr ?_,F⟩))
   rcases h1 with rfl | h1
   ·
    exact t
   exact h1.trans t
 exact key o (.inr h1) h.mem
theorem xW.group(h:xW l rev k bg L i q) (j:bT l rev k=true) (m:∀x y,y∈bg x↔(y=k∨bM l rev k y)∧Ld l rev y x) (hi:L.length≤i) {L':List Key}(o:wE L') (t:L'.Perm L):L'=aB l rev k:=
 rC o (rD _ _ _) fun x=>(t.mem_iff).trans (h.done j m hi x)
end
/-! ### what has changed, and why a key would be run -/
section
variable {val:Key→ByteArray}{x:bZ}{k:Key}{r:Rec}
theorem Q0(hi:aw k=true):aV val x k=(bA x.ab k).changed:=by unfold aV;rw [if_pos hi]
theorem Q1(hi:aw k=false) (h:aA x.ah k=none):aV val x k=x.ad:=by grind [aV]
theorem Q3(hi:aw k=false) (h:aA x.ah k=some r) (j:r.av=x.ad):aV val x k=r.changed:=by grind [aV,aN]
theorem GH(hi:aw k=false) (h:aA x.ah k=some r) (j:¬r.av=x.ad):aV val x k=if val k=r.value then r.changed else x.ad:=by
 unfold aV
 rw [hi,aN h,h]
 grind
def JS(val:Key→ByteArray) (x:bZ) (c:oa):Bool:=decide ((aC x.ah c.dC).av<aV val x c.read)
noncomputable def MH(val:Key→ByteArray) (x:bZ) (k:Key):Int × Key:=
 if (aw k || ay x k)=true then (0,eS)
 else match aA x.ah k with
  | none=>(1,eS)
  | some r=>if r.bq=true then (3,eS) else
   match (bR x.ah (aB x.ah x.ad k)).find? (JS val x) with
   | none=>(0,eS)
   | some c=>(if c.dC=k then 2 else 3,c.read)
def KR(aa:List aH) (l:List Rec):Prop:=∀r∈l,ep aa r.key∧aw r.key=false∧∀a∈r.reads,ep aa a
theorem KR.acz{aa:List aH}{l:List Rec}(h:KR aa l):∀r∈l,cY r.key:=fun r hr=>(h r hr).1.cY
theorem KR.aD{aa:List aH}{l:List Rec}(h:KR aa l) (hi:aw k=true):aA l k=none:=by
 cases j:aA l k with
 | none=>rfl
 | some r=>
  obtain⟨h1,m⟩:=aI j
  have:=(h r h1).2.1
  grind
theorem GI{l:List Rec}{rev:Int}(j:aA l k=some r):∀m∈aB l rev k,∃q,aA l m=some q:=fun m hm=>by
 rcases cm.1 hm with rfl | ⟨_,h⟩
 ·
  exact⟨r,j⟩
 obtain⟨q,o,_⟩:=bE.1 h.gz;exact⟨q,o⟩
theorem HE{l:List Rec}(hr:∀r∈l,r.reads.length≤4000) {group:List Key}(h:group.length≤4001) (i:Nat):((group.take i).flatMap fun m=>cT group m (aC l m).reads).length≤100000000:=by
 have h1:∀s:List Key,(s.flatMap fun m=>cT group m (aC l m).reads).length≤s.length*4000:=by
  intro s
  induction s with
  | nil=>simp
  | cons m s j=>
   simp only [List.flatMap_cons,List.length_append,List.length_cons];have o:=jX group m (aC l m).reads
   have t:(aC l m).reads.length≤4000:=by
    cases u:aA l m with
    | none=>grind [aC,nh]
    | some r=>grind [aN,aI]
   rw [Nat.add_mul]
   omega
 grind
end
end Go.Rc

namespace Go.Rc
open Go
theorem nC(n:ct):∀l:List ct,(fS n l false).find? (fun x=>x.key == n.key)=some n
 | []=>by simp [fS]
 | x::xs=>by
  by_cases h:0≤bC x.key n.key
  ·
   simp [fS,h]
  have h0:¬bC x.key n.key=0:=by omega
  have j:(x.key == n.key)=false:=by
   rw [beq_eq_false_iff_ne];intro e;rw [e,iy] at h0;exact h0 rfl
  have:=nC n xs
  simp [fS,h,h0,j,this]
theorem ks(n:ct) (l:List ct):bA (fS n l false) n.key=n:=by grind [bA,nC]
structure V9 (x:bZ) (l:List Change) (y:bZ):Prop where
 same:∀k,(∀c∈l,c.key≠k)→bA y.ab k=bA x.ab k
 how:(y.ad=x.ad∧y.ab=x.ab)∨(y.ad=x.ad+1∧∀k,bA y.ab k=bA x.ab k∨(bA y.ab k).changed=x.ad+1)
theorem V9.refl(x:bZ) (l:List Change):V9 x l x:=⟨fun _ _=>rfl,.inl ⟨rfl,rfl⟩⟩
theorem MI{rev:Int}{l li:List ct}(h:∀k,bA li k=bA l k∨(bA li k).changed=rev) (n:ct) (hn:n.changed=rev) (k:Key):bA (fS n li false) k=bA l k∨(bA (fS n li false) k).changed=rev:=by
 by_cases e:n.key=k
 ·
  grind [ks]
 rw [og e];exact h k
/-! ### tasks -/
section
variable {aa:List aH}{H:Int→List ct}{x b:bZ}{a8:List Key}{k:Key}
theorem TI.begin(F:aq aa) (h:TI aa H x b [] a8) (hk:ep aa k) (hn:cN b [] k=true):TI aa H x b [⟨k,false,0,[],[]⟩] a8:=by
 have G:¬(aw k=true∨gj [] k=true∨ay b k=true):=fun h=>by grind [iq]
 have h1:aw k=false:=by grind
 have t:ay b k=false:=by grind
 obtain⟨m,hm,u,_⟩:=hk.gM h1;refine⟨h.bi.MB fun y hy=>?_,h.wy,?_,fun f o=>?_⟩
 ·
  simp [gj] at hy
 ·
  have:=TI.snoc (aa:=aa) (H:=H) (b0:=x) (b:=b) (p:=[]) (f:=⟨k,false,0,[],[]⟩) (fun p1 g q B=>by cases p1 <;> cases B) ⟨⟨m,hm,u⟩,rfl,fun i j _ _ _ C=>(by simp [gj] at C),fun hc=>(by cases hc),fun _=>⟨rfl,rfl,Int.le_refl _,fun _ j c D=>(by simp at D)⟩⟩
  exact this
 rw [List.mem_singleton] at o;subst o;refine⟨fun hr=>?_,h.wy.uH t⟩
 have:=h.wy.JL k hr
 grind
def TO(aa:List aH) (x:bZ) (t:qg):Prop:=∃H:Int→List ct,TI aa H x t.base t.stack t.a8
theorem TO.start(h:Bh aa x) (goals:List Key):TO aa x ⟨aa,x,goals,[],[]⟩:=by
 obtain⟨H,h⟩:=h;exact⟨H,h.MB fun k hk=>(by cases hk),Wy.start x,fun p f q j=>(by cases p <;> cases j),fun f m=>(by cases m)⟩
theorem TO.of{t:qg}(h:Bh aa t.base) (j:t.stack=[]) (hr:t.a8=[]):TO aa t.base t:=by
 obtain⟨H,h⟩:=h;refine⟨H,?_⟩;rw [j,hr];exact⟨h.MB fun k hk=>(by cases hk),Wy.start _,fun p f q m=>(by cases p <;> cases m),fun f o=>(by cases o)⟩
theorem MJ{aD:List ct}{rev:Int}(hb:BK aa aD rev b) (m:ay b k=false) (j:(!(aA b.ah k).isSome || (aC b.ah k).bq)=false):Live b.ah b.ad k:=by
 cases h:aA b.ah k with
 | none=>rw [h] at j;cases j
 | some r=>
  rw [h,aN h] at j;have o:r.av≤b.ad:=(hb.tN.v r (aI h).1).2
  have t:r.av≠b.ad:=fun e=>by grind [aL]
  exact⟨r,h,by simpa using j,by omega⟩
theorem TO.begin{t:qg}(j:aq aa) (h:TO aa x t) (m:t.stack=[]) (hk:ep aa k) (hn:cN t.base [] k=true) (g:List Key):TO aa x {t with goals:=g,stack:=[⟨k,false,0,[],[]⟩]}:=by
 obtain⟨H,h⟩:=h;rw [m] at h;exact⟨H,h.begin j hk hn⟩
theorem TO.goals{t:qg}(h:TO aa x t) (g:List Key):TO aa x {t with goals:=g}:=h
theorem TO.JT{t:qg}{b':bZ}{l':List bp}{rk:List Key}{er:Int}(m:aq aa) (h:TO aa x t) (o:Good aa x.ab ⟨t.base,[],[],0⟩) (j:∃p f,p++[f]=t.stack∧FS aa (valOf aa x.ab) t.base p f b' l' rk er):er=0∧TO aa x {t with base:=b',stack:=l',a8:=t.a8++rk}:=by
 obtain⟨H,h⟩:=h;obtain⟨p,f,u,j⟩:=j;rw [← u] at h;obtain⟨h1,B⟩:=l6 m h o j;exact⟨h1,H,B⟩
/-! ### cancelled tasks -/
def eJ(l:List bp) (rs:List Rec):List Rec:=l.foldl (fun rs f=>if az f.key then fq rs f.key else rs) rs
theorem ql(l:List bp) (f:bp) (rs:List Rec):eJ (l++[f]) rs=if az f.key then fq (eJ l rs) f.key else eJ l rs:=by grind [eJ]
theorem EG(rs:List Rec) (k:Key):(fq rs k).Sublist rs:=by grind [fq,List.filter_sublist]
theorem nD:∀(l:List bp) (rs:List Rec),(eJ l rs).Sublist rs∧∀r,r∈eJ l rs↔r∈rs∧(gj l r.key && az r.key)=false
 | [],rs=>⟨List.Sublist.refl _,fun r=>by simp [eJ,gj]⟩
 | f::l,rs=>by
  have e:eJ (f::l) rs=eJ l (if az f.key then fq rs f.key else rs):=rfl;obtain⟨h1,h⟩:=nD l (if az f.key then fq rs f.key else rs);rw [e];refine⟨h1.trans ?_,fun r=>?_⟩
  ·
   grind [EG]
  rw [h r]
  have j:gj (f::l) r.key=(decide (f.key=r.key) || gj l r.key):=by simp [gj]
  rw [j]
  by_cases hc:az f.key=true
  ·
   rw [if_pos hc]
   unfold fq
   grind
  grind
theorem TO.cancel{t:qg}(h:TO aa x t):Bh aa ⟨t.base.ad,t.base.ab,eJ t.stack t.base.ah⟩∧(∀y∈t.a8,ay ⟨t.base.ad,t.base.ab,eJ t.stack t.base.ah⟩ y=true)∧(∀y,ay x y=true→ay ⟨t.base.ad,t.base.ab,eJ t.stack t.base.ah⟩ y=true)∧(∀y∈t.a8,aw y=false∧ay x y=false)∧t.a8.Nodup:=by
 obtain⟨H,h⟩:=h;obtain⟨h1,o⟩:=nD t.stack t.base.ah
 have hb:=h.bi.drop h1 fun r hr=>((o r).1 hr).2
 have B:pf (eJ t.stack t.base.ah):=hb.st
 have jz:∀y,ay t.base y=true→gj t.stack y=false→ay ⟨t.base.ad,t.base.ab,eJ t.stack t.base.ah⟩ y=true:=fun y hu hn=>by
  obtain⟨r,hr,C⟩:=aL.1 hu;obtain⟨g1,g2⟩:=aI hr
  grind [aL,fU]
 have m:∀y,(∀f∈t.stack,f.key≠y)→gj t.stack y=false:=fun y hy=>by grind [gj]
 refine⟨⟨H,hb⟩,fun y hy=>jz y (h.wy.JL y hy) (m y fun f j e=>?_),fun y hy=>jz y ?_ (m y fun f j e=>?_),fun y hy=>⟨(h.wy.a8 y hy).1,(h.wy.a8 y hy).2.1⟩,h.wy.jP⟩
 ·
  rw [← e] at hy;exact(h.nr f j).1 hy
 ·
  have:=h.wy.ev
  have u:t.base.ad=x.ad:=h.wy.rev;exact this.ay u hy
 have:=(h.nr f j).2
 rw [e,hy] at this
 cases this
/-! ### bases of the mill -/
structure LC (aa:List aH) (x:bZ):Prop where
 lb:LB aa x
 bh:Bh aa x
theorem LC.apply(h:LC aa x) {y:bZ}{l:List Change}(j:V9 x l y) (hr:y.ah=x.ah) (h0:x.ad≤y.ad) (h1:y.ad≤1073741824) (m:jC y.ad y.ab) (o:y.ab.length≤64):LC aa y:=by
 refine⟨h.lb.apply hr h0 h1 m o,?_⟩
 rcases j.how with⟨e1,e2⟩ | ⟨e1,e2⟩
 ·
  obtain⟨t,u,B⟩:=y;simp only at hr e1 e2;subst hr e1 e2;exact h.bh
 exact h.bh.apply hr e1 fun k=>by rw [e1];exact e2 k
theorem LC.sub(h:LC aa x) {rs:List Rec}(j:rs.Sublist x.ah):LC aa ⟨x.ad,x.ab,rs⟩:=⟨h.lb.sub j,h.bh.drop j⟩
theorem LC.task{t:qg}(h:LC aa x) (hb:BK aa x.ab x.ad t.base) (ht:TO aa x t):LC aa ⟨t.base.ad,t.base.ab,eJ t.stack t.base.ah⟩:=⟨h.lb.task hb (nD _ _).1,ht.cancel.1⟩
theorem LC.req(j:aq aa) (h:LC aa x) {goals:List Key}(u:∀k∈goals,lU aa k) (B:goals.length≤32):∃(f:Nat) (s':ES),gJ aa x goals=0∧Good aa x.ab ⟨x,[],[],0⟩∧(∀k∈goals,ep aa k)∧dM aa (valOf aa x.ab) f ⟨x,[],[],0⟩ goals=some s'∧s'.a8.length≤1000000∧LC aa (s'.base x)∧(s'.base x).ad=x.ad∧s'.e=0∧s'.base x=s'.b∧Wy aa x s'∧(∀k∈goals,aw k=false→ay s'.b k=true)∧∀r∈s'.b.ah,r.av=s'.b.ad→r.value=valOf aa x.ab r.key:=by
 obtain⟨f,s',h1,m,o,t,C,D,F⟩:=h.lb.req j u B;obtain⟨g1,g2,g3,g4,g5,g6⟩:=h.bh.request j m o t
 have e:s'.base x=s'.b:=by unfold ES.base;rw [if_pos g1]
 exact⟨f,s',h1,m,o,t,C,⟨D,by rw [e];exact g2⟩,F,g1,e,g3,g5,g6⟩
theorem LC.nil(aa:List aH) (y:bZ) (hr:y.ah=[]) (h0:0≤y.ad) (h1:y.ad≤1073741824) (h:jC y.ad y.ab) (j:y.ab.length≤64):LC aa y:=by
 refine⟨LB.nil y hr h0 h1 h j,?_⟩;obtain⟨m,o,t⟩:=y
 grind [Bh.new]
end
/-! ### reasons -/
section
variable {aa:List aH}{x y:bZ}{k:Key}{s:ES}
theorem Wy.runs(h:Wy aa x s) (hw:DD (valOf aa x.ab) x k) (hu:ay s.b k=true):k∈s.a8:=by
 obtain⟨_,hn,hc⟩:=hw
 rcases h.mrk k hn hu with h1 | h1
 ·
  exact h1
 have j:=h.ev.pt k
 have m:∀r,aA s.b.ah k=some r→r.av=x.ad:=fun r hr=>by grind [aL,rev]
 rcases j with e | ⟨_,r,e1,e2,e3,_⟩ | ⟨⟨e1,_⟩,_⟩
 ·
  grind [aL]
 ·
  grind [aN]
 exact e1
end
end Go.Rc

namespace Go.Rc
open Go
structure AO (x:bZ) (l:List Change) (y:bZ):Prop where
 one:∀c,l=[c]→(bA x.ab c.key).value≠c.value→x.ad+1≤1073741824→y=⟨x.ad+1,fS ⟨c.key,c.value,x.ad+1⟩ x.ab false,x.ah⟩
 QR:∀k,bA y.ab k=bA x.ab k∨(bA y.ab k).value≠(bA x.ab k).value
 src:∀k,bA y.ab k=bA x.ab k∨∃c∈l,(bA y.ab k).value=c.value
structure HF (x:bZ) (l:List Change) (i:Nat) (ch:Bool) (li:List ct):Prop where
 one:∀c,l=[c]→(i=0∧ch=false∧li=x.ab)∨(i=1∧((bA x.ab c.key).value=c.value∨(ch=true∧li=fS ⟨c.key,c.value,x.ad+1⟩ x.ab false)))
 QR:∀k,bA li k=bA x.ab k∨(bA li k).value≠(bA x.ab k).value
 src:∀k,bA li k=bA x.ab k∨∃c∈l,(bA li k).value=c.value
section
variable {x:bZ}{l:List Change}{i:Nat}{ch:Bool}{li:List ct}
theorem HF.start:HF x l 0 false x.ab:=⟨fun _ _=>.inl ⟨rfl,rfl,rfl⟩,fun _=>.inl rfl,fun _=>.inl rfl⟩
theorem HF.skip(h:HF x l i ch li) (hi:i<l.length) {j:Bool}(h1:l.length=i+1→j=true) (g:(!j || decide ((bA x.ab l[i].key).value=l[i].value))=true):HF x l (i+1) ch li:=by
 refine⟨fun c e=>?_,h.QR,h.src⟩;subst e
 have h0:i=0:=by simpa using hi
 subst h0;rw [h1 rfl] at g;exact .inr ⟨rfl,.inl (by simpa using g)⟩
theorem HF.put(h:HF x l i ch li) (hi:i<l.length) {m:Bool}(g:(!m || decide ((bA x.ab l[i].key).value=l[i].value))=false):HF x l (i+1) true (fS ⟨l[i].key,l[i].value,x.ad+1⟩ li false):=by
 refine⟨fun c e=>?_,fun k=>?_,fun k=>?_⟩
 ·
  subst e
  have h0:i=0:=by simpa using hi
  subst h0
  rcases h.one c rfl with⟨_,_,e⟩ | ⟨e,_⟩
  ·
   subst e;exact .inr ⟨rfl,.inr ⟨rfl,rfl⟩⟩
  cases e
 ·
  by_cases e:l[i].key=k
  ·
   subst e;have j:=ks ⟨l[i].key,l[i].value,x.ad+1⟩ li;simp only at j;rw [j]
   simp at g
   exact .inr fun e=>g.2 e.symm
  rw [og e];exact h.QR k
 by_cases e:l[i].key=k
 ·
  subst e;have j:=ks ⟨l[i].key,l[i].value,x.ad+1⟩ li;simp only at j;rw [j];exact .inr ⟨l[i],List.getElem_mem hi,rfl⟩
 rw [og e];exact h.src k
theorem HF.same(h:HF x l i ch li) (hi:l.length≤i) (hc:ch=false):AO x l x:=by
 refine⟨fun c e j _=>?_,fun _=>.inl rfl,fun _=>.inl rfl⟩;subst e
 rcases h.one c rfl with⟨e,_⟩ | ⟨_,e | ⟨e,_⟩⟩
 ·
  subst e;simp at hi
 ·
  exact absurd e j
 rw [hc] at e;cases e
theorem HF.done(h:HF x l i ch li) (hi:l.length≤i):AO x l ⟨x.ad+1,li,x.ah⟩:=by
 refine⟨fun c e j _=>?_,h.QR,h.src⟩;subst e
 rcases h.one c rfl with⟨e,_⟩ | ⟨_,e | ⟨_,e⟩⟩
 ·
  subst e;simp at hi
 ·
  exact absurd e j
 rw [e]
end
end Go.Rc

namespace Go.Rc
open Go
instance:Inhabited Key:=⟨eS⟩
theorem HG{w w':World}(h:aT [] w w'):∃q os,w'=Sort.grow (w.drewN q) os:=by
 refine⟨w'.drawn - w.drawn,w'.heap.extract w.heap.size w'.heap.size,?_⟩;obtain⟨o,ht,hu,t,u,hb⟩:=h
 have j:w'.heap=w.heap++w'.heap.extract w.heap.size w'.heap.size:=by grind
 have m:w'.drawn=w.drawn+(w'.drawn - w.drawn):=by omega
 generalize w'.heap.extract w.heap.size w'.heap.size=os at j
 generalize w'.drawn - w.drawn=q at m
 cases w'
 cases w
 simp only at o ht hu j m;subst o ht hu j m
 rfl
section
variable {α:Type} [Inhabited α] {row:α→List Value}{k:Nat}{key:α→Key}
theorem GJ:Sort.SWO (Proofs.ltOf fun x y=>bC (key x) (key y)):=by
 refine⟨fun x=>?_,fun x y z h1 h=>?_,fun x y z h1 h=>?_⟩
 ·
  grind [Proofs.ltOf,iy]
 ·
  unfold Proofs.ltOf at *
  rw [decide_eq_true_eq] at *;exact il h1 h
 grind [Proofs.ltOf,ji,il,l4]
theorem yZ(hk:∀x,(row x).length=k) (l:List α):(l.map row).flatten.length=l.length*k:=by
 induction l with
 | nil=>simp
 | cons x r h=>simp only [List.map_cons,List.flatten_cons,List.length_append,List.length_cons,Nat.add_mul,h,hk];omega
theorem B5(hk:∀x,(row x).length=k) (l:List α) (t:Nat) (ht:t<l.length*k):(l.map row).flatten[t]?=some ((row (l.toArray[t / k]!))[t % k]!):=by
 have h0:0<k:=by rcases Nat.eq_zero_or_pos k with h | h;subst h;omega;exact h
 have hi:t / k<l.length:=(Nat.div_lt_iff_lt_mul h0).2 ht
 have hr:(l.map row)[t / k]?=some (row l[t / k]):=by grind
 have e:t=t / k*k+t % k:=by rw [Nat.mul_comm];exact(Nat.div_add_mod t k).symm
 have h1:(l.toArray[t / k]!)=l[t / k]:=by simp [hi]
 rw [h1];have hm:t % k<k:=Nat.mod_lt _ h0
 have h:=mY (l.map row) k (t / k) _ (fun r hr=>by obtain⟨x,_,rfl⟩:=List.mem_map.1 hr;exact hk x) hr (t % k) ((row l[t / k])[t % k]!) (by
  rw [List.getElem?_eq_getElem (by rw [hk];exact hm),getElem!_pos])
 rw [← e] at h;exact h
theorem HH(hk:∀x,(row x).length=k) {w:World}{b E:Nat}{cur:Array Value}{l:List α}(hb:w.heap[b]?=some (.cells cur E (0,0))) (ht:cur.toList.take (l.length*k)=(l.map row).flatten):Sort.HoldsK row k w b 0 l.toArray:=by
 unfold Sort.HoldsK
 intro j h;rw [Sort.size_flatK,List.size_toArray] at h;have h1:=B5 hk l j h;rw [← ht,List.getElem?_take,if_pos h,Array.getElem?_toList] at h1;refine⟨?_,?_⟩
 ·
  unfold World.cell?
  simp only [hb,Nat.zero_add]
  grind [Sort.get_flatK]
 grind [World.frozen?]
theorem MK(hk:∀x,(row x).length=k) {w:World}{b E m:Nat}{os:Array Obj}{cur:Array Value}{l l':List α}(hb:w.heap[b]?=some (.cells cur E (0,0))) (ht:cur.toList.take (l.length*k)=(l.map row).flatten) (hl:l'.length=l.length):∃oW:Array Value,(Proofs.sortWorldK row k w b 0 m l'.toArray os).heap[b]?=some (.cells oW E (0,0))∧oW.size=cur.size∧oW.toList.take (l'.length*k)=(l'.map row).flatten:=by
 have j:b<w.heap.size:=(Array.getElem?_eq_some_iff.1 hb).1;refine⟨Sort.putCells id 0 (Sort.flatK row k l'.toArray) cur,?_,by unfold Sort.putCells;simp,?_⟩
 ·
  unfold Proofs.sortWorldK
  rw [Sort.heap_grow_old _ _ (by grind [Sort.putRowK,Sort.putRow,Sort.mapBlock,Sort.ahead])]
  unfold Sort.putRowK Sort.putRow Sort.mapBlock Sort.ahead
  simp only [Array.getElem?_modify,if_true,hb]
  rfl
 have hlen:l.length*k≤cur.size:=by
  have h1:=congrArg List.length ht;have o:=yZ hk l
  grind
 apply List.ext_getElem?
 intro t
 by_cases h:t<l'.length*k
 ·
  rw [B5 hk l' t h,List.getElem?_take,if_pos h,Array.getElem?_toList]
  unfold Sort.putCells
  rw [hl] at h;rw [Array.getElem?_mapIdx,Array.getElem?_eq_getElem (by omega),Option.map_some];rw [if_pos ⟨Nat.zero_le _,by simp_all⟩,Nat.sub_zero,Sort.get_flatK _ _ _ _ (by rw [List.size_toArray,hl];exact h)]
  rfl
 rw [List.getElem?_eq_none (by rw [List.length_take];omega),List.getElem?_eq_none (by rw [yZ hk];omega)]
theorem JU{w:World}{b m:Nat}{os:Array Obj}{d:Array α}:aT [b] w (Proofs.sortWorldK row k w b 0 m d os):=by
 refine⟨rfl,rfl,rfl,?_,?_,fun k hk hn=>?_⟩
 ·
  unfold Proofs.sortWorldK Sort.grow Sort.putRowK Sort.putRow Sort.mapBlock Sort.ahead
  simp
 ·
  exact Nat.le_add_right _ _
 unfold Proofs.sortWorldK
 rw [Sort.heap_grow_old _ _ (by grind [Sort.putRowK,Sort.putRow,Sort.mapBlock,Sort.ahead])]
 unfold Sort.putRowK Sort.putRow Sort.mapBlock Sort.ahead
 grind
theorem xX{P:Program}{F g E:Nat}(hk:∀x,(row x).length=k) (h1:∀x,∀v∈row x,v.oneCell'=true) (I:∀(blk cap:Nat) (d:Array α) (w:World),Proofs.CmpLays P g #[] row k (fun x y=>bC (key x) (key y)) blk 0 d.size w→Sort.HoldsK row k w blk 0 d→blk<w.heap.size→d.size<4611686018427387904→Calls P F #[.slice (some ⟨blk,0,none⟩) d.size cap,.func (.func g) #[] #[]] w fun e w'=>e=.returned (.tuple #[])∧∃d' n os,Sort.PermIn 0 d.size d d'∧Sort.SortedIn (Proofs.ltOf fun x y=>bC (key x) (key y)) 0 d.size d'∧w'=Proofs.sortWorldK row k w blk 0 n d' os)
  (hcmp:∀(x y:α) (w:World),Calls P g #[.agg (row x).toArray,.agg (row y).toArray] w fun e w'=>e=.returned (.int .i64 (bC (key x) (key y)))∧aT [] w w')
  {l:List α}{a:Option Addr}{n c:Nat}{w:World}{M Z:Nat→Prop}(B:St w M Z w [As.os (RR.flat row) E k a n c l]) (h0:l≠[]) (hn:l.length≤1000000):Calls P F #[.slice a n c,.func (.func g) #[] #[]] w fun e w'=>e=.returned (.tuple #[])∧∃l',l'.Perm l∧(l'.Pairwise fun x y=>¬bC (key y) (key x)<0)∧St w M Z w' [As.os (RR.flat row) E k a n c l']:=by
 have J:=As.gs B.g0;obtain⟨o,rows,OU,UR,N,O⟩:=id J
 have Q:rows=l.map row:=by
  apply List.ext_getElem?
  intro i;rw [List.getElem?_map]
  by_cases hi:i<l.length
  ·
   rw [List.getElem?_eq_getElem (by omega),List.getElem?_eq_getElem hi]
   have:=O i l[i] rows[i] (List.getElem?_eq_getElem hi) (List.getElem?_eq_getElem (by omega))
   rw [RR.bd this]
   rfl
  grind
 rcases N.cases with⟨g1,g2,_⟩ | ⟨b,cur,rfl,Q4,hb,S,U,V,ht⟩
 ·
  grind
 rw [Q,o] at ht;have W:b<w.heap.size:=(Array.getElem?_eq_some_iff.1 hb).1
 have hc:Proofs.CmpLays P g #[] row k (fun x y=>bC (key x) (key y)) b 0 l.toArray.size w:=fun m os dk _ x y=>(hcmp x y _).mono fun e w' ⟨h1,X⟩=>⟨h1,HG X⟩
 have C:=I b c l.toArray w hc (HH hk hb ht) W (by rw [List.size_toArray];omega);rw [List.size_toArray,← o] at C;refine C.mono ?_;rintro e w' ⟨rfl,d',m,os,⟨t,_,Y⟩,D,rfl⟩;rw [o] at Y D
 have t:d'.size=l.length:=by rw [t,List.size_toArray]
 have G:d'.toList.Perm l:=by grind [Array.extract_size]
 obtain⟨l',rfl⟩:∃l':List α,d'=l'.toArray:=⟨d'.toList,by simp⟩
 have hl:l'.length=l.length:=by simpa using t
 simp only at G;obtain⟨oW,g1,g2,g3⟩:=MK hk (m:=m) (os:=os) hb ht hl;refine⟨rfl,l',G,?_,?_⟩
 ·
  rw [List.pairwise_iff_getElem];intro i j hi hj hij;have h1:=D i j (Nat.zero_le _) hij (by omega)
  grind [Proofs.ltOf]
 refine B.eO (w':=Proofs.sortWorldK row k w b 0 m l'.toArray os) (JU.mono fun x h=>by simpa [aJ] using h) ?_ (fun x h=>.inl h);refine⟨by omega,l'.map row,by simp,fun r hr=>by obtain⟨x,_,rfl⟩:=List.mem_map.1 hr;exact hk x,?_,fun i x r h hr=>?_⟩
 ·
  refine⟨fun u hu=>?_,?_,.inr ⟨b,c,oW,rfl,Nat.zero_le _,g1,S,U,by rw [g2];exact V,by grind⟩⟩
  ·
   obtain⟨r,hr,hu⟩:=List.mem_flatten.1 hu;obtain⟨x,_,rfl⟩:=List.mem_map.1 hr;exact h1 x u hu
  rw [yZ hk]
  grind
 rw [List.getElem?_map,h] at hr
 cases hr
 rfl
end
end Go.Rc

namespace Go.Rc
open Go
inductive ed (aa:List aH) (val:Key→ByteArray) (goals:List Key) (x:bZ):bZ→List bp→List Key→Prop where
 | start:ed aa val goals x x [] []
 | take {b:bZ}{a8:List Key}{k:Key}:ed aa val goals x b [] a8→k∈goals→cN b [] k=true→ed aa val goals x b [⟨k,false,0,[],[]⟩] a8
 | step {b b':bZ}{p l':List bp}{f:bp}{a8 rk:List Key}:ed aa val goals x b (p++[f]) a8→FS aa val b p f b' l' rk 0→l'≠p++[f]→ed aa val goals x b' l' (a8++rk)
section
variable {aa:List aH}{H:Int→List ct}{x b b':bZ}{p q l l':List bp}{f g:bp}{a8 rk goals:List Key}{k y:Key}{val:Key→ByteArray}{er:Int}
theorem FS.ML(h:FS aa val b p f b' l' rk er) (hu:ay b y=true):ay b' y=true:=by
 have hm:∀G,ay (cI b G false) y=true:=fun G=>by grind [aL,aX,bV,cI]
 cases h with
 | put=>
  obtain⟨r,hr,j⟩:=aL.1 hu;rw [aL];simp only [ck]
  by_cases e:y=(bs b f.key (aG aa f.key f.ae).value f.reads).key
  ·
   rw [if_pos e];exact⟨_,rfl,rfl⟩
  grind
 | mark=>exact hm _
 | fail=>grind [lL]
 | _=>exact hu
theorem FS.bot(h:FS aa val b p f b' l' rk er) (hb:ay b k=true∨∃g q,p++[f]=g::q∧g.key=k):ay b' k=true∨∃g q,l'=g::q∧g.key=k:=by
 rcases hb with hb | ⟨g,q,e,hk⟩
 ·
  exact .inl (h.ML hb)
 have key:∀{z:bp}{r:List bp},z.key=f.key→∃g q,p++z::r=g::q∧g.key=k:=fun {z r} o=>by
  cases p with
  | nil=>grind
  | cons a m=>grind
 have j:ay b' f.key=true→ay b' k=true∨∃g q,p=g::q∧g.key=k:=fun hu=>by
  cases p with
  | nil=>grind
  | cons a m=>grind
 cases h with
 | put=>exact j (jh (r:=bs b f.key (aG aa f.key f.ae).value f.reads) rfl)
 | up _ hu=>exact j hu
 | mark _ hl=>
  obtain⟨r,h1,_⟩:=hl
  grind [gX,fx]
 | push=>grind
 | qi=>grind
 | _=>exact .inr (key rfl)
theorem FS.keeps(m:aq aa) {aD:List ct}{rev:Int}(hb:BK aa aD rev b) (t:∀g∈p++[f],fw aa g) (D:FS aa val b p f b' l' rk 0) (hn:(!(aA b.ah f.key).isSome && decide (4000≤b.ah.length))=false):BK aa aD rev b'∧∀g∈l',fw aa g:=by
 have h:fw aa f:=t f (by simp);have u:∀g∈p,fw aa g:=fun g B=>t g (List.mem_append_left _ B)
 have o:∀{z:bp},fw aa z→∀g∈p++[z],fw aa g:=fun F g B=>by grind
 have G:∀{z:bp},fw aa z→∀g∈p++[f]++[z],fw aa g:=fun F g B=>by grind
 cases D with
 | stay=>exact⟨hb,t⟩
 | put hr j=>
  have hl:=h.len;have I:=h.gM.le m;exact⟨hb.put h.key ⟨by show f.reads.length≤4000;omega,h.AG⟩ hn (pn m hb.tN h.gM j h.len h.AG) (Int.le_refl _),u⟩
 | push hr j hl=>
  obtain⟨C,h1⟩:=h.gM.next m j
  grind [fw.new,l5]
 | read hr j h1 J=>
  obtain⟨C,h1⟩:=h.gM.next m j;exact⟨hb,o (h.read h1 C)⟩
 | up=>exact⟨hb,u⟩
 | start=>exact⟨hb,o h.runs⟩
 | mark=>exact⟨hb.BI _,u⟩
 | qi c hr hl hc hk=>exact⟨hb,G (fw.new (fR hb.fT hc) (l5 hk))⟩
 | pass=>exact⟨hb,o h.step⟩
 | fail=>
  refine⟨?_,o h.runs⟩
  split
  ·
   rename_i hc
   exact hb.BJ (pj hc)
  exact hb
/-! ### the end -/
theorem TI.nodup(h:TI aa H x b l a8):(l.map (·.key)).Nodup:=by
 refine List.pairwise_iff_getElem.2 fun i j hi m t=>?_;simp only [List.length_map] at hi m;simp only [List.getElem_map];intro e;have o:=h.fr (l.take j) l[j] (l.drop (j+1)) (by simp);have hn:=o.new
 unfold gj at hn
 rw [List.any_eq_false] at hn;refine hn l[i] (List.mem_take_iff_getElem.2 ⟨i,by omega,rfl⟩) ?_
 simpa using e
theorem TI.fb(h:TI aa H x b l a8) (j:f∈l):∃i:Nat,i<aa.length∧f.key=aM aa (i:Int):=by
 obtain⟨p1,q1,m⟩:=List.append_of_mem j;exact(h.fr p1 f q1 m).key
theorem TI.EH(h:TI aa H x b l a8):l.length≤aa.length:=by
 have:=eL h.nodup (S:=(List.range aa.length).map fun i:Nat=>aM aa (i:Int)) fun k hk=>by
  obtain⟨f,j,rfl⟩:=List.mem_map.1 hk;obtain⟨i,hi,e⟩:=h.fb j
  grind
 simpa using this
def AL(aa:List aH) (b:bZ):Nat:=DC (fun i=>!ay b (aM aa (i:Int))) aa.length
def xY(f:bp):Nat:=if f.running then 10000 - f.reads.length else 10001+(200000000 - f.at_.toNat)
def US(aa:List aH) (b:bZ) (l:List bp):Nat:=
 ((AL aa b*100+l.countP fun f=>ay b f.key)*100+(50 - l.countP fun f=>!ay b f.key))*1000000000+(l.getLast?.map xY).getD 0
theorem Q5(f:bp):xY f≤200010001:=by
 unfold xY
 split <;> omega
theorem JV(h:bp→Bool) (l:List bp):l.countP h+l.countP (fun f=>!h f)=l.length:=by
 induction l with
 | nil=>rfl
 | cons a l j=>grind
theorem JW{n u v t m j v' o:Nat}(h1:u+v≤24) (B:j+v'≤24) (ht:o≤200010001) (h:m<n∨m=n∧(j<u∨j=u∧(v<v'∨v'=v∧o<t))):((m*100+j)*100+(50 - v'))*1000000000+o<((n*100+u)*100+(50 - v))*1000000000+t:=by omega
theorem Q6(h:∀y,ay b y=true→ay b' y=true):AL aa b'≤AL aa b:=ru fun i _ j=>by grind
theorem JX(h:∀y,ay b y=true→ay b' y=true) {i:Nat}(hi:i<aa.length) (h0:ay b (aM aa (i:Int))=false) (h1:ay b' (aM aa (i:Int))=true):AL aa b'<AL aa b:=
 ry (j:=i) (fun i _ m=>by grind) hi (by rw [h0];rfl) (by rw [h1];rfl)
theorem HI(D:aq aa) (h:TI aa H x b (p++[f]) a8) (F:TI aa H x b' l' (a8++rk)) (I:∀G:List Key,G.length≤4001→(bR b.ah G).length≤100000000) (hlen:b.ah.length≤4000) (V:f.reads.length<4000) (u:FS aa val b p f b' l' rk 0) (J:l'≠p++[f]):US aa b' l'<US aa b (p++[f]):=by
 have W:=D.1;have X:=h.EH;have Y:=F.EH;have hc:=JV (fun f=>ay b f.key) (p++[f]);have hc':=JV (fun f=>ay b' f.key) l'
 have N:(l'.getLast?.map xY).getD 0≤200010001:=by grind [Q5]
 have m:=fun y=>u.ML (y:=y);obtain⟨i,hi,o⟩:=h.top.key;have amI:AL aa b'≤AL aa b:=Q6 m
 unfold US
 refine JW (by omega) (by omega) N ?_
 have O:((p++[f]).getLast?.map xY).getD 0=xY f:=by simp
 rw [O]
 have acA:∀z:bp,((p++[z]).getLast?.map xY).getD 0=xY z:=fun z=>by simp
 have same:∀{z:bp},z.key=f.key→xY z<xY f→AL aa b<AL aa b∨AL aa b=AL aa b∧((p++[z]).countP (fun f=>ay b f.key)<(p++[f]).countP (fun f=>ay b f.key)∨(p++[z]).countP (fun f=>ay b f.key)=(p++[f]).countP (fun f=>ay b f.key)∧((p++[f]).countP (fun f=>!ay b f.key)<(p++[z]).countP (fun f=>!ay b f.key)∨(p++[z]).countP (fun f=>!ay b f.key)=(p++[f]).countP (fun f=>!ay b f.key)∧((p++[z]).getLast?.map xY).getD 0<xY f)):=fun {z} Q B=>by grind
 have push:∀{z:bp},ay b z.key=false→AL aa b<AL aa b∨AL aa b=AL aa b∧((p++[f]++[z]).countP (fun f=>ay b f.key)<(p++[f]).countP (fun f=>ay b f.key)∨(p++[f]++[z]).countP (fun f=>ay b f.key)=(p++[f]).countP (fun f=>ay b f.key)∧((p++[f]).countP (fun f=>!ay b f.key)<(p++[f]++[z]).countP (fun f=>!ay b f.key)∨(p++[f]++[z]).countP (fun f=>!ay b f.key)=(p++[f]).countP (fun f=>!ay b f.key)∧((p++[f]++[z]).getLast?.map xY).getD 0<xY f)):=fun {z} Q=>by grind
 have LJ:=kn b.ah b.ad f.key;have amJ:=I (aB b.ah b.ad f.key) (by omega)
 cases u with
 | stay=>exact absurd rfl J
 | put hr C=>
  obtain⟨_,j,_⟩:=h.top.run hr;rw [o] at j;refine .inl (JX m hi j ?_);rw [← o];exact jh (r:=bs b f.key (aG aa f.key f.ae).value f.reads) rfl
 | push hr C hl=>exact push (uL hl).2.2
 | read hr C h1 h3=>
  refine same (z:={f with reads:=f.reads++[(aG aa f.key f.ae).ask],ae:=f.ae++[bS val b (aG aa f.key f.ae).ask]}) rfl ?_
  unfold xY
  simp only [hr,if_true,List.length_append,List.length_singleton]
  omega
 | up hr hu=>grind
 | start hr hu hx=>
  refine same (z:={f with running:=true,at_:=0}) rfl ?_
  unfold xY
  grind
 | mark hr hl hn=>
  obtain⟨r,g1,_,g3⟩:=hl;have j:=jj g1 g3;rw [o] at j;refine .inl (JX m hi j ?_)
  grind [gX,fx]
 | qi c hr hl t hk=>exact push (uL hk).2.2
 | pass c hr hl t S U hle=>
  have h5:=(h.top.Bu hr).2.2.1;have h6:=(List.getElem?_eq_some_iff.1 t).1;refine same (z:={f with at_:=f.at_+1}) rfl ?_
  unfold xY
  simp only [hr]
  simp
  omega
 | fail c hr hl t S U B=>
  have B:xY {f with running:=true,at_:=0}<xY f:=by
   unfold xY
   grind
  split
  ·
   have he:∀y,ay (cI b (aB b.ah b.ad f.key) true) y=ay b y:=fun y=>lL
   have hn:AL aa (cI b (aB b.ah b.ad f.key) true)=AL aa b:=by unfold AL;simp only [he]
   simp_all
  grind
/-! ### what is known of what a request reaches -/
theorem ed.inv(j:aq aa) (B:LC aa x) (hk:∀k∈goals,ep aa k) (h:ed aa (valOf aa x.ab) goals x b l a8):(∃H,TI aa H x b l a8)∧BK aa x.ab x.ad b∧∀f∈l,fw aa f:=by
 induction h with
 | start=>exact⟨TO.start B.bh [],B.lb.ok,fun f m=>by cases m⟩
 | @take b a8 k h1 F hn u=>
  obtain⟨⟨H,o⟩,t,C⟩:=u;refine⟨⟨H,o.begin j (hk _ F) hn⟩,t,fun f m=>?_⟩;rw [List.mem_singleton] at m;subst m
  have G:¬(aw k=true∨gj [] k=true∨ay b k=true):=fun h=>by grind [iq]
  grind [fw.new]
 | step h1 D G u=>
  obtain⟨⟨H,o⟩,t,C⟩:=u;have hl:=o.bi.len;have N:=j.1;obtain⟨I,J⟩:=FS.keeps j t C D (by simp;intro;omega);exact⟨⟨H,(l6 j o t.fT D).2⟩,I,J⟩
theorem ed.less(j:aq aa) (B:LC aa x) (hk:∀k∈goals,ep aa k) (h:ed aa (valOf aa x.ab) goals x b (p++[f]) a8) (o:FS aa (valOf aa x.ab) b p f b' l' rk 0) (C:l'≠p++[f]):US aa b' l'<US aa b (p++[f]):=by
 obtain⟨⟨H,t⟩,m,D⟩:=h.inv j B hk;have u:=D f (by simp);have hl:=u.len;have I:=u.gM.le j;exact HI j t (l6 j t m.fT o).2 (fun G F=>tM m.fT F) m.fT.len (by omega) o C
theorem ed.Wa(j:aq aa) (m:LC aa x) (hk:∀k∈goals,ep aa k) (h:ed aa (valOf aa x.ab) goals x b (p++[f]) a8) (o:FS aa (valOf aa x.ab) b p f b' l' rk er):er=0:=by
 obtain⟨⟨H,t⟩,u,B⟩:=h.inv j m hk;exact(l6 j t u.fT o).1
theorem ed.ML(h:ed aa val goals x b l a8) (hu:ay x y=true):ay b y=true:=by
 induction h with
 | start=>exact hu
 | take _ _ _ j=>exact j
 | step _ m _ j=>exact m.ML j
end
end Go.Rc

namespace Go.Rc
open Go
theorem uQ(l:List Rec) (k y:Key):aA (fq l k) y=if y=k then none else aA l y:=by
 unfold aA fq
 grind
section
variable {RT:Nat}{q:RL}{lf:Key→RL}{l l':List Rec}{r r':Rec}{k:Key}{ml:List (Key × Value)}{w0 w:World}{M Z:Nat→Prop}{L:List As}
theorem fl{y:Key}(h:aA (fq l k) y=some r):y≠k∧aA l y=some r:=by grind [uQ]
theorem As.y5{w:World}{Z:Nat→Prop}(h:(As.gA RT lf l).ok Z w) (k:Key):(As.gA RT lf (Rc.fq l k)).ok Z w:=⟨fun y r hy=>h.1 y r (fl hy).2,fun y j r r' h1 m=>h.2 y j r r' (fl h1).2 (fl m).2⟩
theorem St.y5(h:St w0 M Z w (As.gA RT lf l::L)) (k:Key):St w0 M Z w (As.gA RT lf (Rc.fq l k)::L):=
 h.conv (As.y5 h.g0 k) fun x ⟨y,r,hy,e⟩=>⟨y,r,(fl hy).2,e⟩
theorem St.JY(h:St w0 M Z w (As.gA RT lf l::L)) (hk:aA l k=some r):St w0 M Z w (As.blk (lf k).b RT (r.row (lf k).a (lf k).n (lf k).c)::As.gA RT lf (Rc.fq l k)::L):=by
 have j:(As.gA RT lf l).ok Z w:=h.g0;refine h.split (j.1 k r hk).1 (As.y5 j k) (fun x m=>⟨k,r,hk,m⟩) (fun x ⟨y,r,hy,e⟩=>⟨y,r,(fl hy).2,e⟩) fun x m ⟨y,r2,hy,e⟩=>?_;obtain⟨h1,o⟩:=fl hy;exact h1 (j.2 y k _ _ o hk (e.symm.trans m))
theorem MM:wH lf k (lf k)=lf:=by
 funext y
 unfold wH
 grind
theorem St.GK(h:St w0 M Z w (As.blk (lf k).b RT (r'.row (lf k).a (lf k).n (lf k).c)::As.gA RT lf (Rc.fq l k)::L)) (hk:r'.key=k) (hr:Rd RR.key 2 Z w (lf k).a (lf k).n (lf k).c r'.reads) (j:r'.reads.length≤4000) (hl:∀y,aA l' y=if y=k then some r' else aA l y):St w0 M Z w (As.gA RT lf l'::L):=by
 subst hk
 have:=St.yX (q:=lf r'.key) (l':=l') h hr j fun y=>by grind [uQ]
 rwa [MM] at this
theorem dw.mark(h:dw l lf ml) (rev:Int) (G:List Key) (d:Bool):dw (l.map (aX rev G d)) lf ml:=fun y=>by
 rw [h y,bV]
 cases aA l y <;> rfl
theorem dw.len(h:dw l lf ml) (hn:(ml.map (·.1)).Nodup):ml.length≤l.length:=by
 have h1:=eL hn (S:=l.map (·.key)) fun x m=>by
  cases j:aA l x with
  | none=>
   have o:bF ml x=none:=by rw [h x,j];rfl
   grind [lC]
  | some r=>
   obtain⟨g1,g2⟩:=aI j
   grind
 simpa using h1
theorem sH{rev:Int}{G:List Key}{i:Nat}(hi:i<G.length) (d:Bool) (h:aA (l.map (aX rev (G.take i) d)) G[i]=some r) (y:Key):aA (l.map (aX rev (G.take (i+1)) d)) y=if y=G[i] then some (if d then {r with bq:=true} else {r with av:=rev}) else aA (l.map (aX rev (G.take i) d)) y:=by
 have hT:G.take (i+1)=G.take i++[G[i]]:=List.take_succ_eq_append_getElem hi;rw [bV,bV,hT];rw [bV] at h
 by_cases e:y=G[i]
 ·
  rw [if_pos e,e]
  cases hr:aA l G[i] with
  | none=>rw [hr] at h;cases h
  | some q=>
   rw [hr] at h;simp only [Option.map_some,Option.some.injEq] at h ⊢;have j:=(aI hr).2;subst h
   unfold aX
   grind
 rw [if_neg e]
 cases hr:aA l y with
 | none=>rfl
 | some q=>
  have j:=(aI hr).2
  grind [aX]
theorem uR{rev:Int}{G:List Key}{d:Bool}:l.map (aX rev (G.take 0) d)=l:=by
 simp only [List.take_zero]
 unfold aX
 simp
theorem uS{rev:Int}{g:List Key}{d:Bool}(h:∃r,aA l k=some r):∃r,aA (l.map (aX rev g d)) k=some r∧r.key=k:=by grind [aA,bV]
end
/-! ### own slices that lose their last -/
section
variable {α:Type}{R:RR α}{E k n c:Nat}{a:Option Addr}{xs:List α}{x:α}{w0 w:World}{M Z:Nat→Prop}{L:List As}
theorem Ow.pop(h:Ow R E k Z w a n c (xs++[x])):Ow R E k Z w a xs.length c xs:=by
 obtain⟨hn,rows,hl,hk,j,m⟩:=h
 rcases List.eq_nil_or_concat rows with rfl | ⟨rs,r,rfl⟩
 ·
  simp at hl
 rw [List.concat_eq_append] at hl hk j m
 have t:rs.length=xs.length:=by simpa using hl
 have hr:r.length=k:=hk r (by simp)
 have B:rs.flatten.length=xs.length*k:=by
  have:∀(q:List (List Value)),(∀r∈q,r.length=k)→q.flatten.length=q.length*k:=by
   intro q G
   induction q with
   | nil=>simp
   | cons a q I=>grind
  grind
 refine⟨rfl,rs,t,fun r hr=>hk r (by simp [hr]),?_,fun i y s h1 C=>m i y s (by grind) (by grind)⟩;have h1:=j.1
 rcases j.cases with⟨rfl,rfl,rfl,J⟩ | ⟨g,cur,rfl,hb,D,N,F,hsz,o⟩
 ·
  simp at hn
 simp only [List.flatten_append,List.flatten_cons,List.flatten_nil,List.append_nil] at o h1;simp only [List.length_append,List.length_singleton] at hn
 have ht:cur.toList.take (xs.length*k)=rs.flatten:=by
  have C:=congrArg (List.take (xs.length*k)) o
  grind
 refine⟨fun u hu=>h1 u (List.mem_append_left _ hu),B,.inr ⟨g,c,cur,rfl,hb,D,by omega,F,hsz,ht⟩⟩
theorem St.Q7(h:St w0 M Z w (As.os R E k a n c (xs++[x])::L)):St w0 M Z w (As.os R E k a xs.length c xs::L):=h.conv (Ow.pop h.g0) fun _ h=>h
end
/-! ### what the frames of a stack own -/
def xZ(EK ES:Nat) (L:List (bp × eD)):List As:=L.reverse.flatMap fun e=>[As.os RR.key EK 2 e.2.a e.2.n e.2.c e.1.reads,As.os RR.str ES 1 e.2.a2 e.2.n2 e.2.c2 e.1.ae]
theorem uT(EK ES:Nat) (L:List (bp × eD)) (f:bp) (A:eD):xZ EK ES (L++[(f,A)])=As.os RR.key EK 2 A.a A.n A.c f.reads::As.os RR.str ES 1 A.a2 A.n2 A.c2 f.ae::xZ EK ES L:=by simp [xZ]
section
variable {EK ES:Nat}{L:List (bp × eD)}{f g:bp}{A:eD}{w0 w:World}{M Z:Nat→Prop}{l:List As}
theorem St.OV(h:St w0 M Z w (As.many (xZ EK ES (L++[(f,A)]))::l)):St w0 M Z w (As.os RR.key EK 2 A.a A.n A.c f.reads::As.os RR.str ES 1 A.a2 A.n2 A.c2 f.ae::As.many (xZ EK ES L)::l):=by
 rw [uT] at h;exact h.yP.p1.yP.p2
theorem St.MN(h:St w0 M Z w (As.os RR.key EK 2 A.a A.n A.c f.reads::As.os RR.str ES 1 A.a2 A.n2 A.c2 f.ae::As.many (xZ EK ES L)::l)):St w0 M Z w (As.many (xZ EK ES (L++[(f,A)]))::l):=by
 rw [uT];exact h.p2.p2.En.p1.En
theorem St.JZ(h:St w0 M Z w (As.many (xZ EK ES L)::l)) (hr:g.reads=[]) (j:g.ae=[]):St w0 M Z w (As.many (xZ EK ES (L++[(g,⟨none,0,0,none,0,0⟩)]))::l):=by
 refine St.MN ?_;rw [hr,j];exact(h.dp RR.str ES 1).dp RR.key EK 2
theorem J0(h1:g.reads=f.reads) (h:g.ae=f.ae):xZ EK ES (L++[(g,A)])=xZ EK ES (L++[(f,A)]):=by grind [uT]
end
/-! ### what a stack finds -/
section
variable {x:bZ}{l:List bp}{k:Key}{val:Key→ByteArray}{r:Rec}
theorem MO(L:List (bp × eD)) (k:Key):(L.any fun x=>decide (x.1.key=k))=gj (L.map Prod.fst) k:=by grind [gj]
theorem J1(h:(gj l k && !az k)=true):bJ x l [] k=3:=by
 rw [iD,if_pos (by rw [Bool.and_comm];exact h)]
theorem J2(h:(gj l k && !az k)=false) (j:(gj l k || (aw k || ay x k))=true):bJ x l [] k=0:=by
 have hn:cN x l k=false:=iq.2 (by grind);rw [iD,if_neg (by rw [Bool.and_comm,h];simp),hn]
 rfl
theorem J3(h:(gj l k && !az k)=false) (j:(gj l k || (aw k || ay x k))=false):bJ x l [] k=1:=by
 have hn:cN x l k=true:=by grind [iq]
 rw [iD,if_neg (by rw [Bool.and_comm,h];simp),hn]
 rfl
theorem HJ:bJ x [] [] k=if cN x [] k=true then 1 else 0:=by rw [iD];simp [gj]
theorem Q8(hi:aw k=true):bS val x k=(bA x.ab k).value:=by grind [az,aw,kI,bS,i6]
theorem MP(hc:az k=true):bS val x k=val k:=if_pos hc
theorem MQ(hi:aw k=false) (hc:az k=false) (h:aA x.ah k=some r) (j:r.av=x.ad):bS val x k=r.value:=by grind [bS,i6,gu,aN]
theorem J4{v:ByteArray}{rd:List Key}(h:aA x.ah k=none):bs x k v rd=⟨k,v,rd,x.ad,x.ad,1+(rd.length:Int),false⟩:=by
 unfold bs
 rw [h]
 rfl
theorem J5{v:ByteArray}{rd:List Key}(h:aA x.ah k=some r):bs x k v rd=⟨k,v,rd,if r.value=v then r.changed else x.ad,x.ad,1+(rd.length:Int),false⟩:=by grind [bs,aN]
end
/-! ### a step of the work -/
section
variable {aa:List aH}{val:Key→ByteArray}{b b':bZ}{L L':List (bp × eD)}{f g:bp}{A:eD}{rk:List Key}{er:Int}{k:Key}
def FT(aa:List aH) (val:Key→ByteArray) (b:bZ) (L:List (bp × eD)) (f:bp) (A:eD) (b':bZ) (L':List (bp × eD)) (rk:List Key) (er:Int):Prop:=
 FS aa val b (L.map Prod.fst) f b' (L'.map Prod.fst) rk er∧(er=0→L'.map Prod.fst≠L.map Prod.fst++[f])∧(L'=L∨(∃g,L'=L++[(g,A)]∧g.reads=f.reads∧g.ae=f.ae)∨∃k,L'=L++[(f,A)]++[(⟨k,false,0,[],[]⟩,⟨none,0,0,none,0,0⟩)])
theorem FT.pop(h:FS aa val b (L.map Prod.fst) f b' (L.map Prod.fst) rk er):FT aa val b L f A b' L rk er:=⟨h,fun _ e=>by simpa using congrArg List.length e,.inl rfl⟩
theorem FT.same(h:FS aa val b (L.map Prod.fst) f b' (L.map Prod.fst++[g]) rk er) (j:g≠f) (h1:g.reads=f.reads) (m:g.ae=f.ae):FT aa val b L f A b' (L++[(g,A)]) rk er:=
 ⟨by simpa using h,fun _ e=>by simp at e;exact j e,.inr (.inl ⟨g,rfl,h1,m⟩)⟩
theorem FT.push(h:FS aa val b (L.map Prod.fst) f b' (L.map Prod.fst++[f]++[⟨k,false,0,[],[]⟩]) rk er):FT aa val b L f A b' (L++[(f,A)]++[(⟨k,false,0,[],[]⟩,⟨none,0,0,none,0,0⟩)]) rk er:=
 ⟨by simpa using h,fun _ e=>by simp at e,.inr (.inr ⟨k,rfl⟩)⟩
theorem FT.err(h:FS aa val b (L.map Prod.fst) f b' (L.map Prod.fst++[f]) rk er) (he:er≠0):FT aa val b L f A b' (L++[(f,A)]) rk er:=
 ⟨by simpa using h,fun e=>absurd e he,.inr (.inl ⟨f,rfl,rfl,rfl⟩)⟩
theorem x2{x:bZ}{l:List bp}:bJ x l [] k≠2:=by grind [iD]
theorem HK{x:bZ}{c:oa}(h:JS val x c=false):aV val x c.read≤(aC x.ah c.dC).av:=by grind [JS]
theorem J6{x:bZ}{c:oa}(h:JS val x c=true):(aC x.ah c.dC).av<aV val x c.read:=by grind [JS]
end
section
variable {EK ES:Nat}{L L':List (bp × eD)}{f:bp}{A:eD}{w0 w:World}{M Z:Nat→Prop}{l:List As}
theorem St.acB(h:St w0 M Z w (As.many (xZ EK ES (L++[(f,A)]))::l)) (j:L'=L∨(∃g,L'=L++[(g,A)]∧g.reads=f.reads∧g.ae=f.ae)∨∃k,L'=L++[(f,A)]++[(⟨k,false,0,[],[]⟩,⟨none,0,0,none,0,0⟩)]):St w0 M Z w (As.many (xZ EK ES L')::l):=by
 rcases j with rfl | ⟨g,rfl,h1,m⟩ | ⟨k,rfl⟩
 ·
  exact h.OV.drop.drop
 ·
  grind [J0]
 exact h.JZ rfl rfl
end
end Go.Rc

