/- Base of the proof: frames, memory, ownership, and the plain meaning of rule systems. Conditions: as each lemma says. -/
import Derived.Test.YtcongbofepbmeaaGreatDoorFBg
import Derived.Test.YtcongbofepbmeaaGreatDoorFBf
import Derived.Shelf.SlSortCmp.WholeK
import Derived.Test.YtcongbofepbmeaaGreatDoorFBe
import Derived.Deep.Slices
import Derived.SizedLaws
import Derived.Lib.LaidU8
import Derived.Lib.LaidTab
import Derived.LaidLaws
import GoSem.ClaimFn
import Derived.JoinedOf
set_option linter.all false
namespace Go.Rc
open Go
def Bh(aa:List aA) (b:cA):Prop:=∃H:Int→List bU,Bi aa H (fun _=>false) b
section
variable {aa:List aA}{H:Int→List bU}{on:Key→Bool}{x y b:cA}{k:Key}
theorem Bh.new(aa:List aA) (rev:Int) (az:List bU):Bh aa ⟨rev,az,[]⟩:=
 ⟨fun _=>az,⟨⟨rfl,fun _ _ _ _ _=>rfl,fun r hr=>(by cases hr),fun r hr=>(by cases hr),fun r hr=>(by cases hr),fun r hr=>(by cases hr)⟩,List.Pairwise.nil,fun r hr=>(by cases hr),fun r hr=>(by cases hr)⟩⟩
theorem Bi.drop(h:Bi aa H on b) {rs:List Rec}(d:rs.Sublist b.ah) (t:∀r∈rs,on r.key=false):Bi aa H (fun _=>false) {b with ah:=rs}:=by
 have o:sA rs:=h.st.sublist d
 have m:∀a ra,aH rs a=some ra→aH b.ah a=some ra:=fun a ra e=>by
  obtain⟨h1,n⟩:=aW e
  grind [iS,st]
 refine⟨⟨h.c.now,h.c.hP,fun r hr=>h.c.Et r (d.subset hr),fun r hr=>h.c.vr r (d.subset hr),fun r hr a j hi ra e=>?_,fun r hr hc a j hi ra e=>?_⟩,o,fun r hr=>h.kr r (d.subset hr),fun r hr=>h.dv r (d.subset hr)⟩
 ·
  rcases h.c.rr r (d.subset hr) a j hi ra (m a ra e) with⟨_,h1⟩ | h1
  ·
   obtain⟨n,s⟩:=aW e
   grind
  exact .inr h1
 rcases h.c.rs r (d.subset hr) hc a j hi ra (m a ra e) with⟨_,h1⟩ | h1
 ·
  obtain⟨n,s⟩:=aW e
  grind
 exact .inr h1
theorem Bh.drop(h:Bh aa b) {rs:List Rec}(c:rs.Sublist b.ah):Bh aa {b with ah:=rs}:=by
 obtain⟨H,h⟩:=h;exact⟨H,h.drop c fun _ _=>rfl⟩
theorem Bh.apply(h:Bh aa x) (hr:y.ah=x.ah) (s:y.ab=x.ab+1) (hk:∀k,bE y.ad k=bE x.ad k∨(bE y.ad k).changed=y.ab):Bh aa y:=by
 obtain⟨H,h⟩:=h;have hH:∀t,t≤x.ab→(if t≤x.ab then H t else y.ad)=H t:=fun t ht=>if_pos ht;refine⟨fun t=>if t≤x.ab then H t else y.ad,⟨⟨?_,fun k t hi h1 j=>?_,fun r d=>?_,fun r d=>?_,fun r d a n hi ra m=>?_,fun r d hc a n hi ra m=>?_⟩,by rw [hr];exact h.st,by rw [hr];exact h.kr,fun r d o=>?_⟩⟩
 ·
  grind
 ·
  by_cases ht:t≤x.ab
  ·
   show cellOf (if t≤x.ab then H t else y.ad) k=_
   rw [if_pos ht]
   rcases hk k with e | e
   ·
    rw [e] at h1;rw [h.c.hP k t hi h1 ht]
    unfold cellOf
    rw [e]
   omega
  grind
 ·
  rw [hr] at d
  have:=h.c.Et r d
  omega
 ·
  rw [hr] at d;have h1:=h.c.Et r d;rw [hH _ h1.1];exact h.c.vr r d
 ·
  rw [hr] at d m;have h1:=h.c.Et r d;rw [hH _ h1.1]
  rcases h.c.rr r d a n hi ra m with⟨_,j⟩ | j
  ·
   cases j
  exact .inr j
 ·
  rw [hr] at d m
  rcases h.c.rs r d hc a n hi ra m with⟨_,j⟩ | j
  ·
   cases j
  exact .inr j
 rw [hr] at d
 have:=h.dv r d o
 omega
theorem Wy.start(b:cA):Wy aa b ⟨b,[],[],0⟩:=⟨rfl,rfl,.refl _,fun y r d e=>.inl (by rw [cq d];exact e),fun y hy=>(by cases hy),fun y hy=>(by cases hy),fun y h1 c=>(by rw [h1] at c;cases c),List.nodup_nil⟩
theorem Bh.request(j:aq aa) (h:Bh aa b) {f:Nat}{l:List Key}{s':ES}(m:Good aa b.ad ⟨b,[],[],0⟩) (hk:∀k∈l,eu aa k) (n:dC aa (valOf aa b.ad) f ⟨b,[],[],0⟩ l=some s') :
  s'.e=0∧Bh aa s'.b∧Wy aa b s'∧(∀k,aM b k=true→aM s'.b k=true)∧(∀k∈l,aB k=false→aM s'.b k=true)∧∀r∈s'.b.ah,r.av=s'.b.ab→r.value=valOf aa b.ad r.key:=by
 obtain⟨H,h⟩:=h;have o:Wy aa b ⟨b,[],[],0⟩:=Wy.start b
 obtain⟨h1,v,s,t⟩:=xl (H:=H) (b0:=b) j n m rfl (h.Ma fun k hk=>by cases hk) o hk fun k=>rfl
 have d:Bi aa H (fun _=>false) s'.b:=h1.bi.Ma fun k hk=>by grind [ES.y0,ES.on,bq]
 refine⟨h1.e,⟨H,d⟩,h1.wy,s,t,fun r hr u=>?_⟩;rw [(d.c.vr r hr).1,u,d.c.now,h1.wy.az]
end
end Go.Rc

namespace Go.Rc
open Go
def kG(l:List cY) (b:cA) (a:Key):Prop:=aB a=true∨(hK l a=true∧ax a=true)∨aM b a=true
section
variable {x b b':cA}{l l' p q:List cY}{f g:cY}{k a:Key}
theorem oC:eF x l k=false↔aB k=true∨hK l k=true∨aM x k=true:=by
 unfold eF aM
 grind
theorem qg:cV x l [] k=if (!ax k && hK l k)=true then 3 else if eF x l k=true then 1 else 0:=by grind [cV,hK]
theorem tU(h1:cV x l [] k≠1) (d:cV x l [] k≠3):kG l x k:=by
 rw [qg] at h1 d
 by_cases c:(!ax k && hK l k)=true
 ·
  grind
 rw [if_neg c] at h1
 by_cases hn:eF x l k=true
 ·
  grind
 rcases oC.1 (by simpa using hn) with h | h | h
 ·
  exact .inl h
 ·
  exact .inr (.inl ⟨h,by rw [h] at c;simpa using c⟩)
 exact .inr (.inr h)
theorem HO(h:cV x l [] k=1):hK l k=false∧aB k=false∧aM x k=false:=by
 rw [qg] at h
 by_cases c:(!ax k && hK l k)=true
 ·
  rw [if_pos c] at h;cases h
 rw [if_neg c] at h
 by_cases hn:eF x l k=true
 ·
  have d:¬(aB k=true∨hK l k=true∨aM x k=true):=fun h=>by grind [oC]
  grind
 rw [if_neg hn] at h;cases h
theorem CV(h:cV x l [] k=3):ax k=false∧hK l k=true:=by
 rw [qg] at h
 grind
theorem gI:hK (p++q) k=(hK p k || hK q k):=by simp [hK]
theorem nF:hK [f] k=decide (f.key=k):=by simp [hK]
theorem CW{z:cY}{p1:List cY}(h:p++[z]=p1++g::q):(q=[]∧p1=p∧g=z)∨∃c,q=c++[z]∧p=p1++g::c:=by
 rcases List.eq_nil_or_concat q with rfl | ⟨c,y,rfl⟩
 ·
  simp_all
 rw [List.concat_eq_append,← List.cons_append,← List.append_assoc] at h;obtain⟨h1,d⟩:=List.append_inj' h rfl
 grind
end
inductive FS (aa:List aA) (val:Key→ByteArray) (b:cA) (p:List cY) (f:cY):cA→List cY→List Key→Int→Prop where
 | stay:FS aa val b p f b (p++[f]) [] 0
 | full:f.running=true→(aL aa f.key f.ae).done=true→(!(aH b.ah f.key).isSome && decide (4000≤b.ah.length))=true→FS aa val b p f b (p++[f]) [] 45
 | put:f.running=true→(aL aa f.key f.ae).done=true→FS aa val b p f {b with ah:=fb b.ah (cP b f.key (aL aa f.key f.ae).value f.reads)} p [f.key] 0
 | push:f.running=true→(aL aa f.key f.ae).done=false→cV b (p++[f]) [] (aL aa f.key f.ae).ask=1→FS aa val b p f b (p++[f]++[⟨(aL aa f.key f.ae).ask,false,0,[],[]⟩]) [] 0
 | Sl:f.running=true→(aL aa f.key f.ae).done=false→cV b (p++[f]) [] (aL aa f.key f.ae).ask=3→FS aa val b p f b (p++[f]) [] 43
 | read:f.running=true→(aL aa f.key f.ae).done=false→cV b (p++[f]) [] (aL aa f.key f.ae).ask≠1→cV b (p++[f]) [] (aL aa f.key f.ae).ask≠3→
   FS aa val b p f b (p++[{f with reads:=f.reads++[(aL aa f.key f.ae).ask],ae:=f.ae++[da val b (aL aa f.key f.ae).ask]}]) [] 0
 | up:f.running=false→aM b f.key=true→FS aa val b p f b p [] 0
 | start:f.running=false→aM b f.key=false→(aH b.ah f.key=none∨(aF b.ah f.key).bJ=true)→FS aa val b p f b (p++[{f with running:=true,at_:=0}]) [] 0
 | mark:f.running=false→Live b.ah b.ab f.key→(ct b.ah (aC b.ah b.ab f.key)).length≤f.at_.toNat→FS aa val b p f (cE b (aC b.ah b.ab f.key) false) p [] 0
 | Mf (c:vx):f.running=false→Live b.ah b.ab f.key→(ct b.ah (aC b.ah b.ab f.key))[f.at_.toNat]?=some c→cV b (p++[f]) [] c.read=1→FS aa val b p f b (p++[f]++[⟨c.read,false,0,[],[]⟩]) [] 0
 | SB (c:vx):f.running=false→Live b.ah b.ab f.key→(ct b.ah (aC b.ah b.ab f.key))[f.at_.toNat]?=some c→cV b (p++[f]) [] c.read=3→FS aa val b p f b (p++[f]) [] 43
 | pass (c:vx):f.running=false→Live b.ah b.ab f.key→(ct b.ah (aC b.ah b.ab f.key))[f.at_.toNat]?=some c→cV b (p++[f]) [] c.read≠1→cV b (p++[f]) [] c.read≠3→
   bR val b c.read≤(aF b.ah c.eO).av→FS aa val b p f b (p++[{f with at_:=f.at_+1}]) [] 0
 | fail (c:vx):f.running=false→Live b.ah b.ab f.key→(ct b.ah (aC b.ah b.ab f.key))[f.at_.toNat]?=some c→cV b (p++[f]) [] c.read≠1→cV b (p++[f]) [] c.read≠3→
   (aF b.ah c.eO).av<bR val b c.read→FS aa val b p f (if ax f.key then cE b (aC b.ah b.ab f.key) true else b) (p++[{f with running:=true,at_:=0}]) [] 0
section
variable {aa:List aA}{H:Int→List bU}{b0 b b':cA}{p q l l':List cY}{f g:cY}{bM:List Key}
structure FI (aa:List aA) (H:Int→List bU) (b0 b:cA) (p:List cY) (f:cY):Prop where
 key:∃i:Nat,i<aa.length∧f.key=aD aa (i:Int)
 new:hK p f.key=false
 low:∀i j:Nat,i<aa.length→j<aa.length→f.key=aD aa (i:Int)→hK p (aD aa (j:Int))=true→Lw aa i (mF aa j)
 run:f.running=true→cW b.ah b.ab f.key=false∧aM b f.key=false∧Kj (valOf aa b0.ad) b0 f.key∧(∀i:Nat,i<aa.length→f.key=aD aa (i:Int)→∃n,n≤bZ aa i∧f.reads=(dR (bQ aa f.key) (valOf aa b0.ad) n).1∧f.ae=(dR (bQ aa f.key) (valOf aa b0.ad) n).2)∧∀a∈f.reads,kG (p++[f]) b a
 JY:f.running=false→f.reads=[]∧f.ae=[]∧0≤f.at_∧(Live b.ah b.ab f.key→∀j c,j<f.at_.toNat→(ct b.ah (aC b.ah b.ab f.key))[j]?=some c→valOf aa (H (aF b.ah c.eO).av) c.read=valOf aa b0.ad c.read∧kG (p++[f]) b c.read∧bR (valOf aa b0.ad) b0 c.read≤(aF b.ah c.eO).av)
structure TI (aa:List aA) (H:Int→List bU) (b0 b:cA) (l:List cY) (bM:List Key):Prop where
 bi:Bi aa H (fun y=>hK l y && ax y) b
 wy:Wy aa b0 ⟨b,[],bM,0⟩
 fr:∀p f q,l=p++f::q→FI aa H b0 b p f
 nr:∀f∈l,f.key∉bM∧aM b0 f.key=false
theorem kG.iK{N:Key→Prop}{a:Key}(h:kG l b a) (c:hM (valOf aa b0.ad) N bM b.ab b.ah b'.ah) (hr:b'.ab=b.ab):kG l b' a:=
 h.imp id (Or.imp id (c.aM hr))
theorem kG.mono{a:Key}(h:kG l b a) (c:∀k,hK l k=true→hK l' k=true):kG l' b a:=h.imp id (Or.imp (fun⟨x,y⟩=>⟨c _ x,y⟩) id)
theorem FI.iK{N:Key→Prop}(h:FI aa H b0 b p g) (d:hM (valOf aa b0.ad) N bM b.ab b.ah b'.ah) (hr:b'.ab=b.ab) (t:¬N g.key):FI aa H b0 b' p g:=by
 refine⟨h.key,h.new,h.low,fun m=>?_,fun m=>?_⟩
 ·
  obtain⟨h1,s,n,o,u⟩:=h.run m
  have A:aH b'.ah g.key=aH b.ah g.key:=by
   rcases d.pt g.key with e | ⟨e0,r,e1,e2,e3,_⟩ | ⟨⟨_,e0⟩,_⟩
   ·
    exact e
   ·
    grind [bG]
   exact absurd e0 t
  refine⟨?_,?_,n,o,fun a v=>(u a v).iK d hr⟩
  ·
   grind [cW,aF]
  grind [aM,aF]
 obtain⟨h1,s,n,o⟩:=h.JY m;refine⟨h1,s,n,fun hl j c z hc=>?_⟩;rw [hr] at hl hc;rw [d.HL hl] at hc;obtain⟨p1,p2,p3⟩:=o (d.L9 hl) j c z hc;have hm:=(ep.1 (List.mem_of_getElem? hc)).1
 have e:aF b'.ah c.eO=aF b.ah c.eO:=by
  unfold aF
  rw [(d.group hl).2 _ hm]
 rw [e];exact⟨p1,p2.iK d hr,p3⟩
theorem TI.top(h:TI aa H b0 b (p++[f]) bM):FI aa H b0 b p f:=h.fr p f [] rfl
theorem TI.under(h:TI aa H b0 b (p++[f]) bM) {p1:List cY}(c:p=p1++g::q):FI aa H b0 b p1 g∧g.key≠f.key:=by
 refine⟨h.fr p1 g (q++[f]) (by rw [c];simp),fun e=>?_⟩;have h1:=h.top.new
 grind [hK]
theorem TI.snoc(h:∀p1 g q,p=p1++g::q→FI aa H b0 b p1 g) (c:FI aa H b0 b p f):∀p1 g q,p++[f]=p1++g::q→FI aa H b0 b p1 g:=fun p1 g q d=>by grind [CW]
theorem CX(D:aq aa) {rk:List Key}{er:Int}(h:TI aa H b0 b (p++[f]) bM) (I:Good aa b0.ad ⟨b,[],[],0⟩) (hs:FS aa (valOf aa b0.ad) b p f b' l' rk er):er=0∧TI aa H b0 b' l' (bM++rk):=by
 have GN:=D.len;have z:=h.bi;have d:=h.wy;have SC:b.ab=b0.ab:=d.rev;have hP:b.ad=b0.ad:=d.az;have hT:=h.top;obtain⟨i,hi,t⟩:=hT.key
 have vC:aB f.key=false:=by grind [cM]
 have hor:∀j:Nat,j<aa.length→hK (p++[f]) (aD aa (j:Int))=true→j=i∨Lw aa i (mF aa j):=fun j o E=>by
  rw [gI,nF] at E;simp only [Bool.or_eq_true,decide_eq_true_eq] at E
  rcases E with E | E
  ·
   exact .inr (hT.low i j hi o t E)
  grind [dD]
 have N5:∀{b2:cA}{u:List Key},hM (valOf aa b0.ad) (fun y=>y=f.key) u b.ab b.ah b2.ah→(∀y∈bM,y∈u)→b2.ab=b.ab→b2.ad=b.ad→(∀y r,aH b2.ah y=some r→r.bJ=true→(aF b0.ah y).bJ=true∨Ki (valOf aa b0.ad) b0 y)→(∀y∈u,Kj (valOf aa b0.ad) b0 y)→(∀y∈u,y∈bM∨aM b2 y=true)→(∀y,aM b y=false→aM b2 y=true→y∈u∨¬Ki (valOf aa b0.ad) b0 y)→u.Nodup→Wy aa b0 ⟨b2,[],u,0⟩:=fun A X h1 s F B N h6 h7=>
  d.step h1 s (by rw [← SC];exact A.mono (fun _ h=>h) fun _ _=>trivial) X F B N h6 h7
 -- a frame is Yn
 have SE:∀a,eu aa a→cV b (p++[f]) [] a=1→(∀m:Nat,m<aa.length→a=aD aa (m:Int)→∀j:Nat,j<aa.length→hK (p++[f]) (aD aa (j:Int))=true→Lw aa m (mF aa j))→TI aa H b0 b (p++[f]++[⟨a,false,0,[],[]⟩]) bM:=fun a GQ hl U=>by
  obtain⟨h1,s,F⟩:=HO hl;obtain⟨m,hm,Ym,_⟩:=GQ.gy s;refine⟨z.Ma fun y hy=>?_,d,TI.snoc h.fr ⟨⟨m,hm,Ym⟩,h1,fun m' j Yk o e E=>U m' Yk e j o E,(fun hc=>by cases hc),fun _=>⟨rfl,rfl,Int.le_refl _,fun _ j c o=>by simp at o⟩⟩,fun g I=>?_⟩
  rotate_left
  ·
   rcases List.mem_append.1 I with I | I
   ·
    exact h.nr g I
   rw [List.mem_singleton] at I;subst I;refine⟨fun hr=>?_,d.tQ F⟩
   have:=d.Mb a hr
   grind
  rw [Bool.and_eq_true] at hy ⊢;rw [gI,hy.1];exact⟨rfl,hy.2⟩
 -- the last frame is WZ one of the same key
 have tT:∀{g:cY}{b2:cA}{u:List Key},g.key=f.key→Bi aa H (fun y=>hK (p++[f]) y && ax y) b2→Wy aa b0 ⟨b2,[],u,0⟩→hM (valOf aa b0.ad) (fun y=>y=f.key) u b.ab b.ah b2.ah→b2.ab=b.ab→(∀y∈u,y∈bM)→FI aa H b0 b2 p g→TI aa H b0 b2 (p++[g]) u:=fun {g b2 u} hk G V A hr X hF=>by
  refine⟨?_,V,TI.snoc (fun p1 g q O=>?_) hF,fun q J=>?_⟩
  ·
   have e:(fun y=>hK (p++[g]) y && ax y)=fun y=>hK (p++[f]) y && ax y:=by
    funext y
    grind [gI,nF]
   rw [e];exact G
  ·
   obtain⟨h1,s⟩:=h.under O;exact h1.iK A hr s
  rcases List.mem_append.1 J with J | J
  ·
   have:=h.nr q (List.mem_append_left _ J)
   grind
  rw [List.mem_singleton] at J;subst J
  have:=h.nr f (by simp)
  grind
 have Y:∀{g:cY},g.key=f.key→∀k,hK (p++[f]) k=true→hK (p++[g]) k=true:=fun hk k Mg=>by grind [gI,nF]
 -- the last frame is done
 have N6:∀{b2:cA}{u:List Key},Bi aa H (fun y=>hK (p++[f]) y && ax y) b2→aM b2 f.key=true→Wy aa b0 ⟨b2,[],u,0⟩→hM (valOf aa b0.ad) (fun y=>y=f.key) u b.ab b.ah b2.ah→b2.ab=b.ab→(∀y∈u,y∈bM∨y=f.key)→TI aa H b0 b2 p u:=fun {b2 u} G hu V A hr X=>by
  refine⟨G.off hu fun y hy=>?_,V,fun p1 g q O=>?_,fun g I=>?_⟩
  ·
   rw [Bool.and_eq_true,gI,nF] at hy
   grind
  ·
   obtain⟨h1,s⟩:=h.under O;exact h1.iK A hr s
  have h1:=h.nr g (List.mem_append_left _ I);refine⟨fun F=>?_,h1.2⟩
  rcases X _ F with B | B
  ·
   exact h1.1 B
  obtain⟨p1,q1,O⟩:=List.append_of_mem I;exact(h.under O).2 B
 have HP:∀n,f.ae=(dR (bQ aa f.key) (valOf aa b0.ad) n).2→aL aa f.key f.ae=bQ aa (aD aa (i:Int)) (FN aa b0.ad i n):=fun n hn=>by
  rw [hn,t,eB hi (by omega)]
  rfl
 have Yo:∀{y},hK (p++[f]) y=true→∃j:Nat,j<aa.length∧y=aD aa (j:Int):=fun {y} hy=>by
  rw [gI,nF] at hy;simp only [Bool.or_eq_true,decide_eq_true_eq] at hy
  rcases hy with hy | hy
  ·
   unfold hK at hy
   obtain⟨g,XW,B7⟩:=List.any_eq_true.1 hy;obtain⟨p1,q1,O⟩:=List.append_of_mem XW;obtain⟨j,o,e⟩:=(h.under O).1.key
   grind
  grind
 have ag4:∀a,(∀m:Nat,m<aa.length→a=aD aa (m:Int)→∀j:Nat,j<aa.length→hK (p++[f]) (aD aa (j:Int))=true→Lw aa m (mF aa j))→cV b (p++[f]) [] a≠3:=fun a U hl=>by
  obtain⟨h1,s⟩:=CV hl;obtain⟨j,o,rfl⟩:=Yo s;have F:=U j o rfl j o s
  grind [bj,Lw,mF]
 have SF:∀n,n<bZ aa i→∀m:Nat,m<aa.length→oA aa b0.ad i n=aD aa (m:Int)→∀j:Nat,j<aa.length→hK (p++[f]) (aD aa (j:Int))=true→Lw aa m (mF aa j):=fun n hn m hm e j o E=>by
  obtain⟨h1,s⟩:=(qe D hi (List.mem_of_getElem? (iv (az:=b0.ad) hn))).2 m hm e
  grind
 have aen:Live b.ah b.ab f.key→∀c∈ct b.ah (aC b.ah b.ab f.key),eu aa c.read∧∀m:Nat,m<aa.length→c.read=aD aa (m:Int)→∀j:Nat,j<aa.length→hK (p++[f]) (aD aa (j:Int))=true→Lw aa m (mF aa j):=fun hl c hc=>by
  obtain⟨hm,v,Q⟩:=ep.1 hc;obtain⟨j,o,ej⟩:=z.key (jo hl hm);obtain⟨rm,g1,g2,g3⟩:=jo hl hm;have h1:=(z.c.vr rm (aW g1).1).2;rw [(aW g1).2,ej,dT D o] at h1;rw [cq g1,h1] at v;have U:=qe D o v;refine⟨U.1.tm D,fun m vI e q J E=>?_⟩;obtain⟨B,N⟩:=U.2 m vI e;rw [t] at hl hm;obtain⟨g4,g5⟩:=Ex D z hi o hl (ej ▸ hm)
  grind
 have Sy:∀{a},kG (p++[f]) b a→aB a=true∨((hK (p++[f]) a && ax a)=true∧ax a=true)∨aM b a=true:=fun {a} h=>h.imp id (Or.imp (fun⟨x,y⟩=>⟨by rw [x,y];rfl,y⟩) id)
 have CY:∀{b2:cA},f.running=false→Bi aa H (fun y=>hK (p++[f]) y && ax y) b2→Wy aa b0 ⟨b2,[],bM,0⟩→hM (valOf aa b0.ad) (fun y=>y=f.key) bM b.ab b.ah b2.ah→b2.ab=b.ab→cW b2.ah b2.ab f.key=false→aM b2 f.key=false→Kj (valOf aa b0.ad) b0 f.key→TI aa H b0 b2 (p++[{f with running:=true,at_:=0}]) bM:=fun {b2} hr G V A Yp E hu hw=>by
  obtain⟨c1,c2,_,_⟩:=hT.JY hr;refine tT (g:={f with running:=true,at_:=0}) rfl G V A Yp (fun _ h=>h) ⟨⟨i,hi,t⟩,hT.new,hT.low,fun _=>⟨E,hu,hw,fun j o e=>⟨0,Nat.zero_le _,c1,c2⟩,fun a v=>?_⟩,fun hc=>by cases hc⟩
  grind
 have Au:Live b.ah b.ab f.key→aM b f.key=false:=fun⟨r,h1,_,s⟩=>jz h1 s
 cases hs with
 | stay=>grind
 | full hr C hn=>
  have:=z.len
  simp at hn
  omega
 | put hr C=>
  obtain⟨h1,s,F,B,N⟩:=hT.run hr;obtain⟨n,hn,W,R⟩:=B i hi t;have ht:=HP n R
  have hnq:n=bZ aa i:=by grind [Er]
  rw [hnq,Es D hi] at ht
  have Yq:f.reads=cm aa b0.ad i:=by
   rw [W,hnq,t]
   rfl
  have hm:cP b f.key (aL aa f.key f.ae).value f.reads=cP b (aD aa (i:Int)) (valOf aa b0.ad (aD aa (i:Int))) (cm aa b0.ad i):=by rw [ht,Yq,t]
  rw [hm];have G:=z.put D hi (fun hc=>by grind [gI,nF]) (by grind);rw [hP] at G
  have G:Bi aa H (fun y=>hK (p++[f]) y && ax y) ⟨b.ab,b.ad,fb b.ah (cP b (aD aa (i:Int)) (valOf aa b0.ad (aD aa (i:Int))) (cm aa b0.ad i))⟩:=by rw [hP];exact G
  have A:hM (valOf aa b0.ad) (fun y=>y=f.key) (bM++[f.key]) b.ab b.ah (fb b.ah (cP b (aD aa (i:Int)) (valOf aa b0.ad (aD aa (i:Int))) (cm aa b0.ad i))):=by
   rw [t] at h1 s;refine hM.put h1 (fun r hr=>?_) ⟨by simp [cP,t],t.symm⟩ rfl rfl rfl (fun r hr=>?_) fun hn=>?_
   ·
    have h1:=(z.c.Et r (aW hr).1).1
    have h6:r.av≠b.ab:=fun e=>by
     have:aM b (aD aa (i:Int))=true:=bF.2 ⟨r,hr,e⟩
     grind
    omega
   ·
    have Z:aH b.ah (aD aa (i:Int))=some r:=hr
    unfold cP
    simp only [Z,cq Z]
    grind
   grind [cP]
  have ya:aM {b with ah:=fb b.ah (cP b (aD aa (i:Int)) (valOf aa b0.ad (aD aa (i:Int))) (cm aa b0.ad i))} f.key=true:=by
   rw [t];exact ov (r:=cP b (aD aa (i:Int)) (valOf aa b0.ad (aD aa (i:Int))) (cm aa b0.ad i)) rfl
  refine⟨rfl,N6 G ya (N5 A (fun y hy=>by simp [hy]) rfl rfl (fun y r K C=>?_) (fun y hy=>?_) (fun y hy=>?_) (fun y hu Ey=>?_) (xk d.j6 fun hr=>by have:=d.Mb _ hr;rw [s] at this;cases this)) A rfl fun y hy=>by simpa using hy⟩
  ·
   have M:aH (fb b.ah (cP b (aD aa (i:Int)) (valOf aa b0.ad (aD aa (i:Int))) (cm aa b0.ad i))) y=some r:=K;rw [eC] at M
   split at M
   ·
    have:=Option.some.inj M
    subst this
    cases C
   exact d.Jo y r M C
  ·
   rcases List.mem_append.1 hy with hy | hy
   ·
    exact d.bM y hy
   grind
  ·
   grind
  refine .inl ?_
  by_cases e:y=f.key
  ·
   rw [e]
   simp
  obtain⟨r,hr,hv⟩:=bF.1 Ey;have Z:aH (fb b.ah (cP b (aD aa (i:Int)) (valOf aa b0.ad (aD aa (i:Int))) (cm aa b0.ad i))) y=some r:=hr;rw [eC,if_neg (show ¬y=(cP b (aD aa (i:Int)) (valOf aa b0.ad (aD aa (i:Int))) (cm aa b0.ad i)).key from fun h=>e (h.trans t.symm))] at Z
  grind [bF]
 | push hr C hl=>
  obtain⟨h1,s,F,B,N⟩:=hT.run hr;obtain⟨n,hn,W,R⟩:=B i hi t;have ht:=HP n R
  have L:n<bZ aa i:=by grind [Es]
  rw [Er D hi L] at ht;rw [ht] at hl ⊢;rw [List.append_nil];exact⟨rfl,SE _ (Ap D hi L) hl (SF n L)⟩
 | Sl hr C hl=>
  obtain⟨h1,s,F,B,N⟩:=hT.run hr;obtain⟨n,hn,W,R⟩:=B i hi t
  grind [Es,Er]
 | read hr C HQ FT=>
  obtain⟨h1,s,F,B,N⟩:=hT.run hr;obtain⟨n,hn,W,R⟩:=B i hi t;have ht:=HP n R
  have L:n<bZ aa i:=by grind [Es]
  rw [Er D hi L] at ht;rw [ht] at HQ FT ⊢;rw [List.append_nil];have Md:=tU HQ FT
  have N4:da (valOf aa b0.ad) b (oA aa b0.ad i n)=valOf aa b0.ad (oA aa b0.ad i n):=by
   rw [← hP];refine z.answer (by grind [Ap]) ?_
   grind
  refine⟨rfl,tT (g:={f with reads:=f.reads++[oA aa b0.ad i n],ae:=f.ae++[da (valOf aa b0.ad) b (oA aa b0.ad i n)]}) rfl z d (.refl _) rfl (fun _ h=>h) ⟨⟨i,hi,t⟩,hT.new,hT.low,fun _=>⟨h1,s,F,fun j o e=>?_,fun a v=>?_⟩,fun hc=>?_⟩⟩
  ·
   have:=dD D o hi (e.symm.trans t)
   subst this;refine⟨n+1,L,?_,?_⟩
   ·
    show f.reads++[oA aa b0.ad j n]=_
    rw [W,t]
    rfl
   show f.ae++[da (valOf aa b0.ad) b (oA aa b0.ad j n)]=_
   rw [N4,R,t]
   rfl
  ·
   rcases List.mem_append.1 v with v | v
   ·
    exact(N a v).mono (Y rfl)
   rw [List.mem_singleton] at v;rw [v];exact Md.mono (Y rfl)
  grind
 | up hr hu=>
  rw [List.append_nil];exact⟨rfl,N6 z hu d (.refl _) rfl fun _ h=>.inl h⟩
 | start hr hu S=>
  rw [List.append_nil];refine⟨rfl,CY hr z d (.refl _) rfl ?_ hu ⟨vC,d.tQ hu,?_⟩⟩
  ·
   rw [Bool.eq_false_iff]
   grind [bG,cq]
  cases K:aH b.ah f.key with
  | none=>exact .inl (d.none K)
  | some r=>
   refine .inr ?_
   rcases S with S | S
   ·
    rw [K] at S
    cases S
   rw [cq K] at S;exact d.Jo _ r K S
 | mark hr hl hn=>
  obtain⟨c1,c2,c3,c4⟩:=hT.JY hr;have c4:=c4 hl;have A:hM (valOf aa b0.ad) (fun y=>y=f.key) bM b.ab b.ah (cE b (aC b.ah b.ab f.key) false).ah:=hM.mark hl false (.inr rfl)
  have G:=z.mark D hl fun m hm a v Q=>by
   have qf:(⟨m,a⟩:vx)∈ct b.ah (aC b.ah b.ab f.key):=ep.2 ⟨hm,v,Q⟩;obtain⟨j,o⟩:=List.mem_iff_getElem?.1 qf;have h1:=(List.getElem?_eq_some_iff.1 o).1;obtain⟨s,F,_⟩:=c4 j ⟨m,a⟩ (by omega) o
   grind
  have Fp:=d.Mc hl fun m hm a v Q=>by
   have qf:(⟨m,a⟩:vx)∈ct b.ah (aC b.ah b.ab f.key):=ep.2 ⟨hm,v,Q⟩;obtain⟨j,o⟩:=List.mem_iff_getElem?.1 qf
   grind
  rw [List.append_nil];refine⟨rfl,N6 G ?_ (N5 A (fun _ h=>h) rfl rfl (fun y r' K C=>?_) d.bM (fun _ h=>.inl h) (fun y hu Ey=>.inr (Fp y (Ew hu Ey))) d.j6) A rfl fun _ h=>.inl h⟩
  ·
   obtain⟨r,h1,_⟩:=hl
   grind [pa,iR]
  have M:(aH b.ah y).map (bC b.ab (aC b.ah b.ab f.key) false)=some r':=dr.symm.trans K;obtain⟨r,hr,rfl⟩:=Option.map_eq_some_iff.1 M;rw [rp] at C;exact d.Jo y r hr C
 | Mf c hr hl hc hk=>grind
 | SB c hr hl hc hk=>grind
 | pass c hr hl hc FU GR hle=>
  obtain⟨c1,c2,c3,c4⟩:=hT.JY hr;have Md:=tU FU GR;rw [List.append_nil];refine⟨rfl,tT (g:={f with at_:=f.at_+1}) rfl z d (.refl _) rfl (fun _ h=>h) ⟨⟨i,hi,t⟩,hT.new,hT.low,fun hc=>?_,fun _=>⟨c1,c2,by show 0≤f.at_+1;omega,fun _ j c' o hcj=>?_⟩⟩⟩
  ·
   grind
  have hj':j<f.at_.toNat+1:=by grind
  rcases Nat.lt_or_ge j f.at_.toNat with L | Me
  ·
   obtain⟨p1,p2,p3⟩:=c4 hl j c' L hcj;exact⟨p1,p2.mono (Y rfl),p3⟩
  have e:j=f.at_.toNat:=by omega
  subst e;have SG:(ct b.ah (aC b.ah b.ab f.key))[f.at_.toNat]?=some c':=hcj;rw [hc] at SG
  have:=Option.some.inj SG
  subst this;refine⟨?_,Md.mono (Y rfl),by rw [← d.changed z c.read];exact hle⟩;obtain⟨hm,v,Q⟩:=ep.1 (List.mem_of_getElem? hc);obtain⟨rm,g1,g2,g3⟩:=jo hl hm;rw [cq g1] at hle v ⊢;have h1:=z.c.changed (aW g1).1 g3 v (by rw [hP];exact hle);rw [hP] at h1;exact h1
 | fail c hr hl hc FU GR L=>
  obtain⟨hm,v,Q⟩:=ep.1 (List.mem_of_getElem? hc);have HN:=d.N1 z hl hm v Q L;have CT:Kj (valOf aa b0.ad) b0 f.key:=⟨vC,d.tQ (Au hl),.inr (.inr (HN _ iR))⟩;rw [List.append_nil]
  cases Jp:ax f.key with
  | false=>
   simp only [Bool.false_eq_true,if_false];refine⟨trivial,CY hr z d (.refl _) rfl ?_ (Au hl) CT⟩;rw [Bool.eq_false_iff]
   grind [bG]
  | true=>
   simp only [if_true];have A:hM (valOf aa b0.ad) (fun y=>y=f.key) bM b.ab b.ah (cE b (aC b.ah b.ab f.key) true).ah:=hM.mark hl true (.inl Jp);obtain⟨r,f1,f2,f3⟩:=id hl
   have Yl:aH (cE b (aC b.ah b.ab f.key) true).ah f.key=some {r with bJ:=true}:=by
    refine dr.trans ?_;rw [f1]
    show some (bC _ _ _ r)=_
    unfold bC
    rw [if_pos (by rw [(aW f1).2];exact iR)]
    rfl
   refine⟨trivial,CY hr (z.bJ fun m hm=>jo hl hm) (N5 A (fun _ h=>h) rfl rfl (fun y r' K C=>?_) d.bM (fun _ h=>.inl h) (fun y hu Ey=>by grind [Ar]) d.j6) A rfl ?_ (jz Yl f3) CT⟩
   ·
    have M:(aH b.ah y).map (bC b.ab (aC b.ah b.ab f.key) true)=some r':=dr.symm.trans K;obtain⟨q,J,rfl⟩:=Option.map_eq_some_iff.1 M
    by_cases hy:y∈aC b.ah b.ab f.key
    ·
     exact .inr (HN y hy)
    unfold bC at C
    rw [if_neg (by rw [(aW J).2];exact hy)] at C;exact d.Jo y q J C
   rw [Bool.eq_false_iff]
   grind [bG]
end
end Go.Rc

namespace Go.Rc
open Go
/-! ### records in blocks -/
structure RL where
 b:Nat
 a:Option Addr
 n:Nat
 c:Nat
/-! ### entries of maps that are changed in place -/
/-! ### a map to owned slices -/
def rest(L:List RE) (x:Key):List RE:=L.filter fun e=>decide (e.key≠x)
/-! ### a search there and back -/
/-! ### what has changed, and why a key would be run -/
end Go.Rc

namespace Go.Rc
open Go
theorem mK(n:bU):∀l:List bU,(fk n l false).find? (fun x=>x.key == n.key)=some n
 | []=>by simp [fk]
 | x::xs=>by
  by_cases h:0≤bp x.key n.key
  ·
   simp [fk,h]
  have h0:¬bp x.key n.key=0:=by omega
  have c:(x.key == n.key)=false:=by
   rw [beq_eq_false_iff_ne];intro e;rw [e,gL] at h0;exact h0 rfl
  have:=mK n xs
  simp [fk,h,h0,c,this]
theorem jR(n:bU) (l:List bU):bE (fk n l false) n.key=n:=by grind [bE,mK]
structure SH (x:cA) (l:List Change) (y:cA):Prop where
 same:∀k,(∀c∈l,c.key≠k)→bE y.ad k=bE x.ad k
 how:(y.ab=x.ab∧y.ad=x.ad)∨(y.ab=x.ab+1∧∀k,bE y.ad k=bE x.ad k∨(bE y.ad k).changed=x.ab+1)
theorem SH.refl(x:cA) (l:List Change):SH x l x:=⟨fun _ _=>rfl,.inl ⟨rfl,rfl⟩⟩
theorem Kk{rev:Int}{l li:List bU}(h:∀k,bE li k=bE l k∨(bE li k).changed=rev) (n:bU) (hn:n.changed=rev) (k:Key):bE (fk n li false) k=bE l k∨(bE (fk n li false) k).changed=rev:=by
 by_cases e:n.key=k
 ·
  grind [jR]
 rw [nD e];exact h k
/-! ### tasks -/
section
variable {aa:List aA}{H:Int→List bU}{x b:cA}{bM:List Key}{k:Key}
theorem TI.begin(t:aq aa) (h:TI aa H x b [] bM) (hk:eu aa k) (hn:eF b [] k=true):TI aa H x b [⟨k,false,0,[],[]⟩] bM:=by
 have u:¬(aB k=true∨hK [] k=true∨aM b k=true):=fun h=>by grind [oC]
 have h1:aB k=false:=by grind
 have e:aM b k=false:=by grind
 obtain⟨m,hm,n,_⟩:=hk.gy h1;refine⟨h.bi.Ma fun y hy=>?_,h.wy,?_,fun f d=>?_⟩
 ·
  simp [hK] at hy
 ·
  have:=TI.snoc (aa:=aa) (H:=H) (b0:=x) (b:=b) (p:=[]) (f:=⟨k,false,0,[],[]⟩) (fun p1 g q o=>by cases p1 <;> cases o) ⟨⟨m,hm,n⟩,rfl,fun i j _ _ _ r=>(by simp [hK] at r),fun hc=>(by cases hc),fun _=>⟨rfl,rfl,Int.le_refl _,fun _ j c s=>(by simp at s)⟩⟩
  exact this
 rw [List.mem_singleton] at d;subst d;refine⟨fun hr=>?_,h.wy.tQ e⟩
 have:=h.wy.Mb k hr
 grind
def TO(aa:List aA) (x:cA) (t:qb):Prop:=∃H:Int→List bU,TI aa H x t.base t.stack t.bM
theorem TO.of{t:qb}(h:Bh aa t.base) (c:t.stack=[]) (hr:t.bM=[]):TO aa t.base t:=by
 obtain⟨H,h⟩:=h;refine⟨H,?_⟩;rw [c,hr];exact⟨h.Ma fun k hk=>(by cases hk),Wy.start _,fun p f q d=>(by cases p <;> cases d),fun f e=>(by cases e)⟩
theorem Kl{az:List bU}{rev:Int}(hb:BK aa az rev b) (h:aM b k=false) (d:(!(aH b.ah k).isSome || (aF b.ah k).bJ)=false):Live b.ah b.ab k:=by
 cases c:aH b.ah k with
 | none=>rw [c] at d;cases d
 | some r=>
  rw [c,cq c] at d;have j:r.av≤b.ab:=(hb.tI.v r (aW c).1).2
  have m:r.av≠b.ab:=fun e=>by grind [bF]
  exact⟨r,c,by simpa using d,by omega⟩
theorem TO.begin{t:qb}(c:aq aa) (h:TO aa x t) (d:t.stack=[]) (hk:eu aa k) (hn:eF t.base [] k=true) (g:List Key):TO aa x {t with goals:=g,stack:=[⟨k,false,0,[],[]⟩]}:=by
 obtain⟨H,h⟩:=h;rw [d] at h;exact⟨H,h.begin c hk hn⟩
theorem TO.goals{t:qb}(h:TO aa x t) (g:List Key):TO aa x {t with goals:=g}:=h
theorem TO.HR{t:qb}{b':cA}{l':List cY}{d:List Key}{e:Int}(j:aq aa) (h:TO aa x t) (m:Good aa x.ad ⟨t.base,[],[],0⟩) (c:∃p f,p++[f]=t.stack∧FS aa (valOf aa x.ad) t.base p f b' l' d e):e=0∧TO aa x {t with base:=b',stack:=l',bM:=t.bM++d}:=by
 obtain⟨H,h⟩:=h;obtain⟨p,f,n,c⟩:=c;rw [← n] at h;obtain⟨h1,o⟩:=CX j h m c;exact⟨h1,H,o⟩
/-! ### cancelled tasks -/
def eX(l:List cY) (rs:List Rec):List Rec:=l.foldl (fun rs f=>if ax f.key then gh rs f.key else rs) rs
theorem pf(l:List cY) (f:cY) (rs:List Rec):eX (l++[f]) rs=if ax f.key then gh (eX l rs) f.key else eX l rs:=by grind [eX]
theorem CZ(rs:List Rec) (k:Key):(gh rs k).Sublist rs:=by grind [gh,List.filter_sublist]
theorem mL:∀(l:List cY) (rs:List Rec),(eX l rs).Sublist rs∧∀r,r∈eX l rs↔r∈rs∧(hK l r.key && ax r.key)=false
 | [],rs=>⟨List.Sublist.refl _,fun r=>by simp [eX,hK]⟩
 | f::l,rs=>by
  have e:eX (f::l) rs=eX l (if ax f.key then gh rs f.key else rs):=rfl;obtain⟨h1,c⟩:=mL l (if ax f.key then gh rs f.key else rs);rw [e];refine⟨h1.trans ?_,fun r=>?_⟩
  ·
   grind [CZ]
  rw [c r]
  have d:hK (f::l) r.key=(decide (f.key=r.key) || hK l r.key):=by simp [hK]
  rw [d]
  by_cases hc:ax f.key=true
  ·
   rw [if_pos hc]
   unfold gh
   grind
  grind
theorem TO.cancel{t:qb}(h:TO aa x t):Bh aa ⟨t.base.ab,t.base.ad,eX t.stack t.base.ah⟩∧(∀y∈t.bM,aM ⟨t.base.ab,t.base.ad,eX t.stack t.base.ah⟩ y=true)∧(∀y,aM x y=true→aM ⟨t.base.ab,t.base.ad,eX t.stack t.base.ah⟩ y=true)∧(∀y∈t.bM,aB y=false∧aM x y=false)∧t.bM.Nodup:=by
 obtain⟨H,h⟩:=h;obtain⟨h1,j⟩:=mL t.stack t.base.ah
 have hb:=h.bi.drop h1 fun r hr=>((j r).1 hr).2
 have n:sA (eX t.stack t.base.ah):=hb.st
 have iK:∀y,aM t.base y=true→hK t.stack y=false→aM ⟨t.base.ab,t.base.ad,eX t.stack t.base.ah⟩ y=true:=fun y hu hn=>by
  obtain⟨r,hr,o⟩:=bF.1 hu;obtain⟨g1,g2⟩:=aW hr
  grind [bF,iS]
 have d:∀y,(∀f∈t.stack,f.key≠y)→hK t.stack y=false:=fun y hy=>by grind [hK]
 refine⟨⟨H,hb⟩,fun y hy=>iK y (h.wy.Mb y hy) (d y fun f c e=>?_),fun y hy=>iK y ?_ (d y fun f c e=>?_),fun y hy=>⟨(h.wy.bM y hy).1,(h.wy.bM y hy).2.1⟩,h.wy.j6⟩
 ·
  rw [← e] at hy;exact(h.nr f c).1 hy
 ·
  have:=h.wy.ev
  have m:t.base.ab=x.ab:=h.wy.rev;exact this.aM m hy
 have:=(h.nr f c).2
 rw [e,hy] at this
 cases this
/-! ### bases of the mill -/
structure LC (aa:List aA) (x:cA):Prop where
 lb:LB aa x
 bh:Bh aa x
theorem LC.apply(h:LC aa x) {y:cA}{l:List Change}(c:SH x l y) (hr:y.ah=x.ah) (h0:x.ab≤y.ab) (h1:y.ab≤1073741824) (d:iO y.ab y.ad) (e:y.ad.length≤64):LC aa y:=by
 refine⟨h.lb.apply hr h0 h1 d e,?_⟩
 rcases c.how with⟨e1,e2⟩ | ⟨e1,e2⟩
 ·
  obtain⟨j,m,n⟩:=y;simp only at hr e1 e2;subst hr e1 e2;exact h.bh
 exact h.bh.apply hr e1 fun k=>by rw [e1];exact e2 k
theorem LC.sub(h:LC aa x) {rs:List Rec}(c:rs.Sublist x.ah):LC aa ⟨x.ab,x.ad,rs⟩:=⟨h.lb.sub c,h.bh.drop c⟩
theorem LC.task{t:qb}(h:LC aa x) (hb:BK aa x.ad x.ab t.base) (ht:TO aa x t):LC aa ⟨t.base.ab,t.base.ad,eX t.stack t.base.ah⟩:=⟨h.lb.task hb (mL _ _).1,ht.cancel.1⟩
theorem LC.WR(c:aq aa) (h:LC aa x) {goals:List Key}(n:∀k∈goals,lC aa k) (o:goals.length≤32):∃(f:Nat) (s':ES),fF aa x goals=0∧Good aa x.ad ⟨x,[],[],0⟩∧(∀k∈goals,eu aa k)∧dC aa (valOf aa x.ad) f ⟨x,[],[],0⟩ goals=some s'∧s'.bM.length≤1000000∧LC aa (s'.base x)∧(s'.base x).ab=x.ab∧s'.e=0∧s'.base x=s'.b∧Wy aa x s'∧(∀k∈goals,aB k=false→aM s'.b k=true)∧∀r∈s'.b.ah,r.av=s'.b.ab→r.value=valOf aa x.ad r.key:=by
 obtain⟨f,s',h1,d,j,m,s,t,u⟩:=h.lb.WR c n o;obtain⟨g1,g2,g3,g4,g5,g6⟩:=h.bh.request c d j m
 have e:s'.base x=s'.b:=by unfold ES.base;rw [if_pos g1]
 exact⟨f,s',h1,d,j,m,s,⟨t,by rw [e];exact g2⟩,u,g1,e,g3,g5,g6⟩
theorem LC.nil(aa:List aA) (y:cA) (hr:y.ah=[]) (h0:0≤y.ab) (h1:y.ab≤1073741824) (c:iO y.ab y.ad) (d:y.ad.length≤64):LC aa y:=by
 refine⟨LB.nil y hr h0 h1 c d,?_⟩;obtain⟨e,h,j⟩:=y
 grind [Bh.new]
end
/-! ### reasons -/
end Go.Rc

namespace Go.Rc
open Go
end Go.Rc

namespace Go.Rc
open Go
/-! ### own slices that lose their last -/
/-! ### what the frames of a stack own -/
/-! ### what a stack finds -/
/-! ### a step of the work -/
end Go.Rc

namespace Go.Rc
open Go
end Go.Rc

namespace Go.Rc
open Go
end Go.Rc

namespace Go.Rc
open Go
end Go.Rc

namespace Go.Rc
open Go
end Go.Rc

namespace Go.Rc
open Go
end Go.Rc

namespace Go.Rc
open Go
def r3:aA:=⟨false,[],1,3⟩
abbrev K0:Key:=⟨31,itoa ((0:Nat):Int)⟩
abbrev v3:ByteArray:=itoa 3
theorem N7:∀y∈[r3],J4 y:=fun y hy=>by simp at hy;subst hy;exact⟨rfl,rfl,rfl,by decide,by decide⟩
theorem SI:aD [r3] ((0:Nat):Int)=K0:=J4.key (by simp) (by omega) (N7 _ (by simp))
abbrev s1:ES:=⟨⟨0,[],[NW 0 v3]⟩,[],[K0],0⟩
end Go.Rc
namespace Go.Rc
open Go
abbrev v4:ByteArray:=⟨#[52]⟩
end Go.Rc

namespace Go.Rc
open Go
theorem FT{v:ByteArray}:∀k∈[K0],∃i:Nat,i < [r3].length∧k=aD [r3] (i:Int)∧(aH (⟨0,[],[NW 0 v]⟩:cA).ah k).isSome=true:=fun k hk=>⟨0,by simp,by rw [List.mem_singleton.1 hk];exact SI.symm,by grind [aH,NW]⟩
end Go.Rc

namespace Go.Rc
open Go
end Go.Rc

namespace Go.Rc
open Go
end Go.Rc
namespace Go.Rc
open Go
end Go.Rc

namespace Go.Rc
open Go
abbrev q0:aA:=⟨false,[⟨true,false,0,0⟩],1,0⟩
abbrev q1:aA:=⟨false,[⟨false,false,0,0⟩],1,0⟩
abbrev Q2:List aA:=[q0,q1]
abbrev K1:Key:=⟨31,itoa ((1:Nat):Int)⟩
abbrev C0:Key:=bH ((0:Nat):Int)
theorem SJ:K0=⟨31,⟨#[48]⟩⟩:=by simp [itoa,Lib.itoa,Lib.decDigits]
theorem SK:K1=⟨31,⟨#[49]⟩⟩:=by simp [itoa,Lib.itoa,Lib.decDigits]
theorem SM:aq Q2:=by
 refine⟨by simp,fun i r h=>?_⟩
 have hi:i=0∨i=1:=by have:=(List.getElem?_eq_some_iff.1 h).1;simp at this;omega
 rcases hi with rfl | rfl
 ·
  simp at h;subst h
  refine⟨by simp,fun k x c=>?_,rfl⟩
  have hk:k=0:=by have:=(List.getElem?_eq_some_iff.1 c).1;simp at this;omega
  subst hk;simp at c;subst c;decide
 simp at h;subst h
 refine⟨by simp,fun k x c=>?_,rfl⟩
 have hk:k=0:=by have:=(List.getElem?_eq_some_iff.1 c).1;simp at this;omega
 subst hk;simp at c;subst c;decide
theorem EC:aD Q2 ((0:Nat):Int)=K0:=by
 unfold aD
 rw [if_neg (by simp)]
 simp [ay]
theorem yb:number K0=((0:Nat):Int):=by rw [← EC];exact cv (by simp) (by omega)
theorem t0a:bQ Q2 K0 []=⟨false,⟨#[]⟩,C0⟩:=by
 rw [ny (i:=0) yb (by simp) (by rw [yb];exact EC) (by simp)]
 rfl
theorem t0b(v:ByteArray):bQ Q2 K0 [v]=⟨true,itoa (dG 1 0 [cy v]),eS⟩:=by
 rw [nv (i:=0) yb (by simp) (by rw [yb];exact EC) (by simp)]
 rfl
abbrev z0:ByteArray:=⟨#[48]⟩
abbrev z5:ByteArray:=⟨#[53]⟩
theorem it5:itoa ((5:Nat):Int)=z5:=by simp [itoa,Lib.itoa,Lib.decDigits]
theorem fv(v:ByteArray) (n:Nat) (h:cy v=n) (hn:n<1000):itoa (dG 1 0 [cy v])=itoa n:=by
 rw [h];simp [dG,rX,Nat.mod_eq_of_lt hn]
theorem vs5:cy z5=5:=by decide
theorem SN{az:List bU}{n:Nat}(h:cy (cellOf az C0)=n) (hn:n<1000):valOf Q2 az K0=itoa n:=by
 have e:=fP (az:=az) SM (i:=0) (by simp);rw [show bZ Q2 0=1 from rfl,EC] at e;simp only [dR,List.nil_append] at e;rw [t0a,t0b,zU (by omega),fv _ n h hn] at e
 injection e with _ e2 _
 exact e2.symm
abbrev FW(i:Nat) (a:Key):Rec:=⟨⟨31,itoa (i:Int)⟩,z0,[a],0,0,2,false⟩
theorem Yr:(K0 == K1)=false:=by rw [SJ,SK];decide
end Go.Rc

namespace Go.Rc
open Go
structure AO (x:cA) (l:List Change) (y:cA):Prop where
 one:∀c,l=[c]→(bE x.ad c.key).value≠c.value→x.ab+1≤1073741824→y=⟨x.ab+1,fk ⟨c.key,c.value,x.ab+1⟩ x.ad false,x.ah⟩
 N1:∀k,bE y.ad k=bE x.ad k∨(bE y.ad k).value≠(bE x.ad k).value
 src:∀k,bE y.ad k=bE x.ad k∨∃c∈l,(bE y.ad k).value=c.value
structure FX (x:cA) (l:List Change) (i:Nat) (ch:Bool) (li:List bU):Prop where
 one:∀c,l=[c]→(i=0∧ch=false∧li=x.ad)∨(i=1∧((bE x.ad c.key).value=c.value∨(ch=true∧li=fk ⟨c.key,c.value,x.ab+1⟩ x.ad false)))
 N1:∀k,bE li k=bE x.ad k∨(bE li k).value≠(bE x.ad k).value
 src:∀k,bE li k=bE x.ad k∨∃c∈l,(bE li k).value=c.value
section
variable {x:cA}{l:List Change}{i:Nat}{ch:Bool}{li:List bU}
theorem FX.start:FX x l 0 false x.ad:=⟨fun _ _=>.inl ⟨rfl,rfl,rfl⟩,fun _=>.inl rfl,fun _=>.inl rfl⟩
theorem FX.skip(h:FX x l i ch li) (hi:i<l.length) {d:Bool}(h1:l.length=i+1→d=true) (g:(!d || decide ((bE x.ad l[i].key).value=l[i].value))=true):FX x l (i+1) ch li:=by
 refine⟨fun c e=>?_,h.N1,h.src⟩;subst e
 have h0:i=0:=by simpa using hi
 subst h0;rw [h1 rfl] at g;exact .inr ⟨rfl,.inl (by simpa using g)⟩
theorem FX.put(h:FX x l i ch li) (hi:i<l.length) {j:Bool}(g:(!j || decide ((bE x.ad l[i].key).value=l[i].value))=false):FX x l (i+1) true (fk ⟨l[i].key,l[i].value,x.ab+1⟩ li false):=by
 refine⟨fun c e=>?_,fun k=>?_,fun k=>?_⟩
 ·
  subst e
  have h0:i=0:=by simpa using hi
  subst h0
  rcases h.one c rfl with⟨_,_,e⟩ | ⟨e,_⟩
  ·
   subst e;exact .inr ⟨rfl,.inr ⟨rfl,rfl⟩⟩
  cases e
 ·
  by_cases e:l[i].key=k
  ·
   subst e;have d:=jR ⟨l[i].key,l[i].value,x.ab+1⟩ li;simp only at d;rw [d]
   simp at g
   exact .inr fun e=>g.2 e.symm
  rw [nD e];exact h.N1 k
 by_cases e:l[i].key=k
 ·
  subst e;have d:=jR ⟨l[i].key,l[i].value,x.ab+1⟩ li;simp only at d;rw [d];exact .inr ⟨l[i],List.getElem_mem hi,rfl⟩
 rw [nD e];exact h.src k
theorem FX.same(h:FX x l i ch li) (hi:l.length≤i) (hc:ch=false):AO x l x:=by
 refine⟨fun c e d _=>?_,fun _=>.inl rfl,fun _=>.inl rfl⟩;subst e
 rcases h.one c rfl with⟨e,_⟩ | ⟨_,e | ⟨e,_⟩⟩
 ·
  subst e;simp at hi
 ·
  exact absurd e d
 rw [hc] at e;cases e
theorem FX.done(h:FX x l i ch li) (hi:l.length≤i):AO x l ⟨x.ab+1,li,x.ah⟩:=by
 refine⟨fun c e d _=>?_,h.N1,h.src⟩;subst e
 rcases h.one c rfl with⟨e,_⟩ | ⟨_,e | ⟨_,e⟩⟩
 ·
  subst e;simp at hi
 ·
  exact absurd e d
 rw [e]
end
end Go.Rc

namespace Go.Rc
open Go
abbrev iQ:List bU:=[⟨C0,z5,1⟩]
abbrev yQ:cA:=⟨1,iQ,[FW 0 C0,FW 1 K0]⟩
theorem fC:bE iQ C0=⟨C0,z5,1⟩:=by unfold bE;rw [List.find?_cons];simp
theorem v0:valOf Q2 iQ K0=z5:=by rw [SN (n:=5) (by unfold cellOf;rw [fC];exact vs5) (by omega),it5]
theorem f0:aH yQ.ah K0=some (FW 0 C0):=by simp [aH]
theorem f1:aH yQ.ah K1=some (FW 1 K0):=by simp only [aH,List.find?_cons];rw [show((FW 0 C0).key == K1)=false from Yr,show((FW 1 K0).key == K1)=true from beq_self_eq_true K1]
end Go.Rc

namespace Go.Rc
open Go
end Go.Rc

namespace Go.Rc
open Go
end Go.Rc

namespace Go.Rc
open Go
end Go.Rc

namespace Go.Rc
open Go
end Go.Rc

namespace Go.Rc
open Go
end Go.Rc

namespace Go.Rc
open Go
end Go.Rc

namespace Go.Rc
open Go
end Go.Rc

namespace Go.Rc
open Go
end Go.Rc

namespace Go.Rc
open Go
end Go.Rc

namespace Go.Rc
open Go
end Go.Rc

namespace Go.Rc
open Go
end Go.Rc

namespace Go.Rc
open Go
end Go.Rc

namespace Go.Rc
open Go
end Go.Rc

namespace Go.Rc
open Go
end Go.Rc

namespace Go.Rc
open Go
end Go.Rc

namespace Go.Rc
open Go
abbrev h0:aA:=⟨false,[⟨true,false,0,0⟩],2,0⟩
abbrev h1:aA:=⟨false,[⟨false,false,0,0⟩,⟨true,false,1,0⟩],1,0⟩
abbrev z4:ByteArray:=⟨#[52]⟩
abbrev z2:ByteArray:=⟨#[50]⟩
end Go.Rc

namespace Go.Rc
open Go
abbrev s3:aA:=⟨false,[],1,3⟩
abbrev z3:ByteArray:=⟨#[51]⟩
end Go.Rc

namespace Go.Rc
open Go
section
variable {P:Program}{T:TypeId}
theorem Km{c d:TypeId}{f0 f1:Field}(hu:P.underlying T=some (.struct #[f0,f1])) (m:f0.type=c) (o:f1.type=d) (r:f0.offset=0) (u:f1.offset=1) (A:f0.name≠ "_") (B:f1.name≠ "_")
  (h0:P.underlying c=some (.int .i64)) (h1:P.underlying d=some .string) (a0:∀w,(isAgg c).run P w=.ok false w) (a1:∀w,(isAgg d).run P w=.ok false w)
  (v:P.stoodInHeld T=false) (n:Nat) (a b:Int) (s t:ByteArray) (w:World):(Op.equalIn (n+2) T (.agg #[.int .i64 a,.string s]) (.agg #[.int .i64 b,.string t])).run P w=.ok (decide (a=b) && decide (s=t)) w:=by
 subst m o
 have j:P.fieldsOf T=#[f0,f1]:=by simp [Program.fieldsOf,hu]
 rw [run_equalIn_struct (P:=P) w (n+1) T _ _ (by rw [j];exact hu) v,j]
 have e:(s.toList == t.toList)=decide (s=t):=by
  by_cases e:s=t
  ·
   simp [e]
  grind [ByteArray.ext,Array.toList_inj,ByteArray.toList_eq]
 have e2:(a == b)=decide (a=b):=by by_cases h:a=b <;> simp [h]
 have r0:=run_equalIn_int (P:=P) w n f0.type .i64 .i64 a b h0;have r1:=run_equalIn_string (P:=P) w n f1.type s t h1;rw [e2] at r0;rw [e] at r1;simp only [Op.eqFields,r,u,part,Sem.run_bind,a0,a1,Result.andThen_ok]
 by_cases z:a=b
 ·
  subst z
  by_cases C:s=t
  ·
   simp_all
  simp_all
 simp_all
variable {kv:KV}{w:World}{ty:TypeId}
end
end Go.Rc

namespace Go.Rc
open Go
end Go.Rc

namespace Go.Rc
open Go
end Go.Rc

namespace Go.Rc
open Go
end Go.Rc

namespace Go.Rc
open Go
end Go.Rc

namespace Go.Rc
open Go
open Classical in
noncomputable def dt(aa:List aA) (x:cA) (k:Key):Int:=if ¬aq aa then 41 else if ¬eU x then 42 else if dh aa k=false then 40 else 0
section
variable {aa:List aA}{x:cA}{k:Key}
theorem rq(h:¬aq aa):dt aa x k=41:=if_pos h
theorem tV(h:aq aa) (c:¬eU x):dt aa x k=42:=by unfold dt;rw [if_neg (by simpa using h),if_pos c]
theorem xm(h:aq aa) (c:eU x) (d:dh aa k=false):dt aa x k=40:=by unfold dt;rw [if_neg (by simpa using h),if_neg (by simpa using c),if_pos d]
theorem Av(h:aq aa) (c:eU x) (d:dh aa k=true):dt aa x k=0:=by unfold dt;rw [if_neg (by simpa using h),if_neg (by simpa using c),if_neg (by rw [d];simp)]
end
end Go.Rc

namespace Go.Rc
open Go
instance:Inhabited Key:=⟨eS⟩
theorem FY{w w':World}(h:aQ [] w w'):∃q os,w'=Sort.grow (w.drewN q) os:=by
 refine⟨w'.drawn - w.drawn,w'.heap.extract w.heap.size w'.heap.size,?_⟩;obtain⟨e,ht,hu,j,m,hb⟩:=h
 have c:w'.heap=w.heap++w'.heap.extract w.heap.size w'.heap.size:=by grind
 have d:w'.drawn=w.drawn+(w'.drawn - w.drawn):=by omega
 generalize w'.heap.extract w.heap.size w'.heap.size=os at c
 generalize w'.drawn - w.drawn=q at d
 cases w'
 cases w
 simp only at e ht hu c d;subst e ht hu c d
 rfl
section
variable {α:Type} [Inhabited α] {row:α→List Value}{k:Nat}{key:α→Key}
theorem Kn:Sort.SWO (Proofs.ltOf fun x y=>bp (key x) (key y)):=by
 refine⟨fun x=>?_,fun x y z h1 c=>?_,fun x y z h1 c=>?_⟩
 ·
  grind [Proofs.ltOf,gL]
 ·
  unfold Proofs.ltOf at *
  rw [decide_eq_true_eq] at *;exact gH h1 c
 grind [Proofs.ltOf,jy,gH,lG]
theorem yc(hk:∀x,(row x).length=k) (l:List α):(l.map row).flatten.length=l.length*k:=by
 induction l with
 | nil=>simp
 | cons x r c=>simp only [List.map_cons,List.flatten_cons,List.length_append,List.length_cons,Nat.add_mul,c,hk];omega
theorem Aw(hk:∀x,(row x).length=k) (l:List α) (t:Nat) (ht:t<l.length*k):(l.map row).flatten[t]?=some ((row (l.toArray[t / k]!))[t % k]!):=by
 have h0:0<k:=by rcases Nat.eq_zero_or_pos k with h | h;subst h;omega;exact h
 have hi:t / k<l.length:=(Nat.div_lt_iff_lt_mul h0).2 ht
 have hr:(l.map row)[t / k]?=some (row l[t / k]):=by grind
 have e:t=t / k*k+t % k:=by rw [Nat.mul_comm];exact(Nat.div_add_mod t k).symm
 have h1:(l.toArray[t / k]!)=l[t / k]:=by simp [hi]
 rw [h1];have hm:t % k<k:=Nat.mod_lt _ h0
 have h:=ka (l.map row) k (t / k) _ (fun r hr=>by obtain⟨x,_,rfl⟩:=List.mem_map.1 hr;exact hk x) hr (t % k) ((row l[t / k])[t % k]!) (by
  rw [List.getElem?_eq_getElem (by rw [hk];exact hm),getElem!_pos])
 rw [← e] at h;exact h
theorem F0(hk:∀x,(row x).length=k) {w:World}{b E:Nat}{cur:Array Value}{l:List α}(hb:w.heap[b]?=some (.cells cur E (0,0))) (ht:cur.toList.take (l.length*k)=(l.map row).flatten):Sort.HoldsK row k w b 0 l.toArray:=by
 unfold Sort.HoldsK
 intro j c;rw [Sort.size_flatK,List.size_toArray] at c;have h1:=Aw hk l j c;rw [← ht,List.getElem?_take,if_pos c,Array.getElem?_toList] at h1;refine⟨?_,?_⟩
 ·
  unfold World.cell?
  simp only [hb,Nat.zero_add]
  grind [Sort.get_flatK]
 grind [World.frozen?]
theorem Ko(hk:∀x,(row x).length=k) {w:World}{b E m:Nat}{os:Array Obj}{cur:Array Value}{l l':List α}(hb:w.heap[b]?=some (.cells cur E (0,0))) (ht:cur.toList.take (l.length*k)=(l.map row).flatten) (hl:l'.length=l.length):∃oh:Array Value,(Proofs.sortWorldK row k w b 0 m l'.toArray os).heap[b]?=some (.cells oh E (0,0))∧oh.size=cur.size∧oh.toList.take (l'.length*k)=(l'.map row).flatten:=by
 have c:b<w.heap.size:=(Array.getElem?_eq_some_iff.1 hb).1;refine⟨Sort.putCells id 0 (Sort.flatK row k l'.toArray) cur,?_,by unfold Sort.putCells;simp,?_⟩
 ·
  unfold Proofs.sortWorldK
  rw [Sort.heap_grow_old _ _ (by grind [Sort.putRowK,Sort.putRow,Sort.mapBlock,Sort.ahead])]
  unfold Sort.putRowK Sort.putRow Sort.mapBlock Sort.ahead
  simp only [Array.getElem?_modify,if_true,hb]
  rfl
 have hlen:l.length*k≤cur.size:=by
  have h1:=congrArg List.length ht;have d:=yc hk l
  grind
 apply List.ext_getElem?
 intro t
 by_cases h:t<l'.length*k
 ·
  rw [Aw hk l' t h,List.getElem?_take,if_pos h,Array.getElem?_toList]
  unfold Sort.putCells
  rw [hl] at h;rw [Array.getElem?_mapIdx,Array.getElem?_eq_getElem (by omega),Option.map_some];rw [if_pos ⟨Nat.zero_le _,by simp_all⟩,Nat.sub_zero,Sort.get_flatK _ _ _ _ (by rw [List.size_toArray,hl];exact h)]
  rfl
 rw [List.getElem?_eq_none (by rw [List.length_take];omega),List.getElem?_eq_none (by rw [yc hk];omega)]
theorem HS{w:World}{b m:Nat}{os:Array Obj}{d:Array α}:aQ [b] w (Proofs.sortWorldK row k w b 0 m d os):=by
 refine⟨rfl,rfl,rfl,?_,?_,fun k hk hn=>?_⟩
 ·
  unfold Proofs.sortWorldK Sort.grow Sort.putRowK Sort.putRow Sort.mapBlock Sort.ahead
  simp
 ·
  exact Nat.le_add_right _ _
 unfold Proofs.sortWorldK
 rw [Sort.heap_grow_old _ _ (by grind [Sort.putRowK,Sort.putRow,Sort.mapBlock,Sort.ahead])]
 unfold Sort.putRowK Sort.putRow Sort.mapBlock Sort.ahead
 grind
theorem F1{P:Program}{F g E:Nat}(hk:∀x,(row x).length=k) (h1:∀x,∀v∈row x,v.oneCell'=true) (C:∀(blk cap:Nat) (d:Array α) (w:World),Proofs.CmpLays P g #[] row k (fun x y=>bp (key x) (key y)) blk 0 d.size w→Sort.HoldsK row k w blk 0 d→blk<w.heap.size→d.size<4611686018427387904→Calls P F #[.slice (some ⟨blk,0,none⟩) d.size cap,.func (.func g) #[] #[]] w fun e w'=>e=.returned (.tuple #[])∧∃d' n os,Sort.PermIn 0 d.size d d'∧Sort.SortedIn (Proofs.ltOf fun x y=>bp (key x) (key y)) 0 d.size d'∧w'=Proofs.sortWorldK row k w blk 0 n d' os)
  (hcmp:∀(x y:α) (w:World),Calls P g #[.agg (row x).toArray,.agg (row y).toArray] w fun e w'=>e=.returned (.int .i64 (bp (key x) (key y)))∧aQ [] w w')
  {l:List α}{a:Option Addr}{n c:Nat}{w:World}{M Z:Nat→Prop}(t:St w M Z w [As.os (RR.flat row) E k a n c l]) (h0:l≠[]) (hn:l.length≤1000000):Calls P F #[.slice a n c,.func (.func g) #[] #[]] w fun e w'=>e=.returned (.tuple #[])∧∃l',l'.Perm l∧(l'.Pairwise fun x y=>¬bp (key y) (key x)<0)∧St w M Z w' [As.os (RR.flat row) E k a n c l']:=by
 have D:=As.gs t.g0;obtain⟨o,rows,U,V,G,I⟩:=id D
 have J:rows=l.map row:=by
  apply List.ext_getElem?
  intro i;rw [List.getElem?_map]
  by_cases hi:i<l.length
  ·
   rw [List.getElem?_eq_getElem (by omega),List.getElem?_eq_getElem hi]
   have:=I i l[i] rows[i] (List.getElem?_eq_getElem hi) (List.getElem?_eq_getElem (by omega))
   rw [RR.bN this]
   rfl
  grind
 rcases G.cases with⟨g1,g2,_⟩ | ⟨b,cur,rfl,W,hb,K,L,N,ht⟩
 ·
  grind
 rw [J,o] at ht;have O:b<w.heap.size:=(Array.getElem?_eq_some_iff.1 hb).1
 have hc:Proofs.CmpLays P g #[] row k (fun x y=>bp (key x) (key y)) b 0 l.toArray.size w:=fun m os X _ x y=>(hcmp x y _).mono fun e w' ⟨h1,Q⟩=>⟨h1,FY Q⟩
 have z:=C b c l.toArray w hc (F0 hk hb ht) O (by rw [List.size_toArray];omega);rw [List.size_toArray,← o] at z;refine z.mono ?_;rintro e w' ⟨rfl,d',m,os,⟨s,_,R⟩,A,rfl⟩;rw [o] at R A
 have s:d'.size=l.length:=by rw [s,List.size_toArray]
 have B:d'.toList.Perm l:=by grind [Array.extract_size]
 obtain⟨l',rfl⟩:∃l':List α,d'=l'.toArray:=⟨d'.toList,by simp⟩
 have hl:l'.length=l.length:=by simpa using s
 simp only at B;obtain⟨oh,g1,g2,g3⟩:=Ko hk (m:=m) (os:=os) hb ht hl;refine⟨rfl,l',B,?_,?_⟩
 ·
  rw [List.pairwise_iff_getElem];intro i j hi Y S;have h1:=A i j (Nat.zero_le _) S (by omega)
  grind [Proofs.ltOf]
 refine t.fO (w':=Proofs.sortWorldK row k w b 0 m l'.toArray os) (HS.mono fun x h=>by simpa [aG] using h) ?_ (fun x h=>.inl h);refine⟨by omega,l'.map row,by simp,fun r hr=>by obtain⟨x,_,rfl⟩:=List.mem_map.1 hr;exact hk x,?_,fun i x r h hr=>?_⟩
 ·
  refine⟨fun u hu=>?_,?_,.inr ⟨b,c,oh,rfl,Nat.zero_le _,g1,K,L,by rw [g2];exact N,by grind⟩⟩
  ·
   obtain⟨r,hr,hu⟩:=List.mem_flatten.1 hu;obtain⟨x,_,rfl⟩:=List.mem_map.1 hr;exact h1 x u hu
  rw [yc hk]
  grind
 rw [List.getElem?_map,h] at hr
 cases hr
 rfl
end
end Go.Rc

namespace Go.Rc
open Go
theorem tW:∀(s:List UInt8) (n:Int),0≤n→-1≤decFrom s n
 | [],n,h=>by unfold decFrom;omega
 | c::r,n,h=>by
  unfold decFrom
  split
  ·
   omega
  exact tW r _ (by omega)
theorem C1(s:ByteArray):-1≤cU s:=by
 unfold cU
 split
 ·
  omega
 exact tW _ _ (by omega)
section
variable {k:Key}
theorem F2{n:Nat}(hk:30≤k.kind∧k.kind≤32) (ht:k.text=itoa (n:Int)) (hn:n≤99):number k=n:=by
 unfold number
 rw [ht,gX (by omega),if_pos ⟨hk.1,hk.2,by omega⟩]
theorem F3(h:(30≤k.kind∧k.kind≤32)→∀n:Nat,n≤99→k.text≠itoa (n:Int)):number k = -1:=by
 unfold number
 split
 ·
  rename_i hk
  rcases Int.lt_or_le (cU k.text) 0 with h0 | h0
  ·
   have:-1≤cU k.text:=C1 _
   omega
  obtain⟨v,h1,c⟩:=kC h0;exact absurd c (h ⟨hk.1,hk.2.1⟩ v (by omega))
 rfl
end
def W0(x:Rec):Prop:=x.key.text.size≤140737488355328∧∀y∈x.reads,y.text.size≤140737488355328
def Jq(x:cA):Prop:=(∀y∈x.ad,y.key.text.size≤140737488355328)∧∀r∈x.ah,W0 r
def jS(x:Rec):Bool:=!cH x.key || (aB x.key || (decide (1073741824<(x.value.size:Int)) || (decide (4000<(x.reads.length:Int)) || (x.bJ && !ax x.key))))
def jq(x:Rec):Bool:=decide (0≤x.changed) && (decide (x.changed≤x.av) && (decide (x.av≤1073741824) && (decide (1≤x.cost) && (decide (x.cost≤1073741824) && !x.reads.any fun k=>!cH k))))
theorem yd{x:Rec}(h:jS x=true):dc x=false:=by
 rw [Bool.eq_false_iff,ne_eq,ee]
 unfold jS at h
 grind
theorem vK{x:Rec}(h:jS x=false):dc x=jq x:=by
 rw [Bool.eq_iff_iff,ee]
 unfold jS at h
 unfold jq
 simp only [Bool.and_eq_true,decide_eq_true_eq,Bool.not_eq_true',List.any_eq_false]
 grind
theorem ru{l:List Rec}:iD l=true↔kx l:=by
 unfold iD
 simp
theorem Ax{l:List Rec}(h:∀i x,l[i]?=some x→kg l i x):iD l=decide ((l.length:Int)≤4000):=by
 rw [Bool.eq_iff_iff,ru,decide_eq_true_eq];exact⟨fun h=>by have:=h.1;omega,fun c=>⟨by omega,h⟩⟩
theorem F4{x:cA}(h:pX x.ab x.ad) (ht:0≤x.ab∧x.ab≤1073741824∧x.ad.length≤64∧kx x.ah):(!x.ah.any fun r=>decide (x.ab<r.av))=true↔eU x:=by
 simp only [Bool.not_eq_true',List.any_eq_false,decide_eq_true_eq];refine⟨fun c=>⟨h,fun i r hr=>?_,ht⟩,fun hb r hr=>?_⟩
 ·
  have:=c r (List.mem_of_getElem? hr)
  omega
 obtain⟨i,hi,rfl⟩:=List.getElem_of_mem hr
 have:=hb.2.1 i _ (ai hi)
 omega
theorem fY{rev:Int}{l:List bU}{i:Nat}{y:bU}(hi:i<l.length) (hy:l[i]=y):fi rev l i=(!(cH y.key && aB y.key) || ((decide (0<(i:Int)) && decide (0≤bp l[i - 1]!.key y.key)) || (decide (1073741824<(y.value.size:Int)) || (decide (y.changed<0) || decide (rev<y.changed))))):=by
 subst hy
 unfold fi
 rw [getElem!_pos l i hi]
 cases cH l[i].key <;> simp
theorem fR{aa:List aA}{x:cA}{k:Key}(h:dt aa x k=0):aq aa∧eU x∧dh aa k=true:=by
 unfold dt at h
 by_cases h1:aq aa
 ·
  by_cases c:eU x
  ·
   by_cases d:dh aa k=false
   ·
    simp [h1,c,d] at h
   exact⟨h1,c,by simpa using d⟩
  simp [h1,c] at h
 simp [h1] at h
section
variable {aa:List aA}{x:cA}{k:Key}
theorem gO(h:dh aa k=true) (hn:cZ k):eu aa k:=by
 unfold dh at h
 simp only [Bool.and_eq_true,Bool.or_eq_true,decide_eq_true_eq] at h;obtain⟨c,hr⟩:=h
 have d:30≤k.kind∧k.kind≤32:=Classical.byContradiction fun d=>by
  unfold cH at c
  rw [if_neg d,decide_eq_true_eq] at c
  rcases hn with h | h <;> omega
 have j:0≤number k:=by
  unfold cH at c
  rw [if_pos d,decide_eq_true_eq] at c;exact c
 obtain⟨v,m,ht⟩:∃v:Nat,number k=v∧k.text=itoa (v:Int):=by
  unfold number at j ⊢
  split at j
  ·
   rename_i hc
   obtain⟨v,h1,n⟩:=kC j;exact⟨v,by rw [if_pos hc,h1],n⟩
  omega
 have gD:v≤99:=by
  unfold number at m
  split at m <;> omega
 by_cases r:k.kind=30
 ·
  have e:k=bH (v:Int):=by
   unfold bH
   rw [if_neg (by omega)];obtain⟨a,b⟩:=k
   simp_all
  rw [e];exact .cell gD
 have e:aD aa (number k)=k:=by
  rcases hr with h | h
  ·
   omega
  exact h
 rw [m] at e
 have o:v<aa.length:=Classical.byContradiction fun s=>by
  unfold aD at e
  rw [if_pos (by omega)] at e;rw [← e] at d
  simp [eS] at d
 rw [← e];exact .dp o gD
theorem iw(c:aq aa) (d:eU x):∀k,(valOf aa x.ad k).size≤140737488355328:=tz c fun y hy=>by
 obtain⟨i,hi,rfl⟩:=List.getElem_of_mem hy;have h:=d.1 i _ (ai hi);rw [fY hi rfl] at h;simp only [Bool.or_eq_false_iff,decide_eq_false_iff_not] at h
 have:=h.2.2.1
 omega
noncomputable def Kp(aa:List aA) (x:cA) (k:Key):ByteArray:=if dt aa x k=0 then valOf aa x.ad k else ⟨#[]⟩
noncomputable def lK(aa:List aA) (x:cA) (k:Key):List Key:=if dt aa x k=0 then dq aa x.ad k else []
def lL(aa:List aA) (x:cA) (k:Key) (L:List Key):Prop:=if dt aa x k=0 then An L∧∀y,y∈L↔Eo aa x.ad k y else L=[]
theorem ED(h:dt aa x k=0):Kp aa x k=valOf aa x.ad k:=if_pos h
theorem Ay(h:dt aa x k≠0):Kp aa x k=⟨#[]⟩:=if_neg h
theorem qh(h:dt aa x k=0):lK aa x k=dq aa x.ad k:=if_pos h
theorem oD(h:dt aa x k≠0):lK aa x k=[]:=if_neg h
theorem tX(hn:cZ k):(lK aa x k).length≤6:=by
 by_cases h:dt aa x k=0
 ·
  obtain⟨c,_,hr⟩:=fR h;rw [qh h];exact lI c (gO hr hn)
 rw [oD h]
 simp
theorem lL.ok{L:List Key}(h:dt aa x k=0) (c:An L) (d:∀y,y∈L↔Eo aa x.ad k y):lL aa x k L:=by
 unfold lL
 rw [if_pos h];exact⟨c,d⟩
theorem lL.err(h:dt aa x k≠0):lL aa x k []:=by
 unfold lL
 rw [if_neg h]
theorem lL.uniq{L L':List Key}(h:lL aa x k L) (c:lL aa x k L'):L=L':=by
 unfold lL at h c
 split at h
 ·
  rw [if_pos (by assumption)] at c
  exact CP h.1 c.1 fun y=>by rw [h.2,c.2]
 rw [if_neg (by assumption)] at c;rw [h,c]
theorem lL.len{L:List Key}(hn:cZ k) (h:lL aa x k L):L.length≤124:=by
 unfold lL at h
 split at h
 ·
  rename_i hc
  obtain⟨c,_,hr⟩:=fR hc;exact FP c (gO hr hn) h.1.nodup h.2
 rw [h]
 simp
theorem C2(hn:cZ k):jJ k=if k.kind=32 then ⟨#[48]⟩ else ⟨#[]⟩:=by
 unfold jJ
 split
 ·
  rfl
 rename_i h
 have:ax k=false:=by
  unfold ax
  rcases hn with h1 | h1
  ·
   simp [h,show ¬1≤k.kind by omega]
  simp [h,show ¬k.kind≤22 by omega]
 rw [this]
 rfl
theorem EE(d:∀i:Nat,i<aa.length→k≠aD aa (i:Int)) (c:k.kind≠0):aD aa (number k)≠k:=fun e=>by
 by_cases h:0≤number k∧number k<aa.length
 ·
  exact d (number k).toNat (by omega) (by rw [show(((number k).toNat:Nat):Int)=number k by omega,e])
 unfold aD at e
 rw [if_pos (by omega)] at e;rw [← e] at c;exact c rfl
theorem Az{i:Nat}(hi:i<aa.length) (gD:i≤99):aL aa (aD aa (i:Int)) []=bQ aa (aD aa (i:Int)) []:=by
 unfold aL
 rw [if_pos];rw [dP hi gD]
 split <;> simp
theorem C3(c:∀i:Nat,i<aa.length→k≠aD aa (i:Int)) (hn:cZ k):aL aa k []=⟨true,⟨#[]⟩,eS⟩:=by
 unfold aL
 split
 ·
  exact zF (.inr (.inr (EE c (by omega))))
 rfl
end
end Go.Rc

namespace Go.Rc
open Go
end Go.Rc
namespace Go.Rc
open Go
end Go.Rc

namespace Go.Rc
open Go
section
variable {P:Program}{T:TypeId}
structure Ys (P:Program) (T:TypeId):Prop where
 eq:∀(a:Bool) (u:ByteArray) (c:Int) (s:ByteArray) (w:World),(Op.equalIn 10000 T (.agg #[.bool a,.string u,.int .i64 c,.string s]) (.agg #[.bool a,.string u,.int .i64 c,.string s])).run P w=.ok true w
 guard:P.eqGuardType P.depth T=false
theorem N8{K d e:TypeId}{g0 g1 g2:Field}(hk:∀(a b:Int) (s t:ByteArray) (w:World),(Op.equalIn 9999 K (.agg #[.int .i64 a,.string s]) (.agg #[.int .i64 b,.string t])).run P w=.ok (decide (a=b) && decide (s=t)) w)
  (hu:P.underlying T=some (.struct #[g0,g1,g2])) (j:g0.type=d) (m:g1.type=e) (n:g2.type=K) (o:g0.offset=0) (r:g1.offset=1) (v:g2.offset=2) (B:g0.name≠ "_") (C:g1.name≠ "_") (D:g2.name≠ "_")
  (h0:P.underlying d=some .bool) (h1:P.underlying e=some .string) (a0:∀w,(isAgg d).run P w=.ok false w) (a1:∀w,(isAgg e).run P w=.ok false w) (a2:∀w,(isAgg K).run P w=.ok true w) (z2:∀w,(sizeOf K).run P w=.ok 2 w)
  (z:P.stoodInHeld T=false) (A:P.eqGuardType P.depth T=false):Ys P T:=by
 refine⟨fun a u c s w=>?_,A⟩;subst j m n
 have h:P.fieldsOf T=#[g0,g1,g2]:=by simp [Program.fieldsOf,hu]
 rw [show(10000:Nat)=9999+1 from rfl,run_equalIn_struct (P:=P) w 9999 T _ _ (by rw [h];exact hu) z,h];have r0:=run_equalIn_bool (P:=P) w 9998 g0.type a a h0;have r1:=run_equalIn_string (P:=P) w 9998 g1.type u u h1;rw [show(9998+1:Nat)=9999 from rfl] at r0 r1;have r2:=hk c c s s w;simp only [Op.eqFields,o,r,v,part,Sem.run_bind,a0,a1,a2,z2,Result.andThen_ok]
 simp_all [asAgg]
variable {kv:KV}{w:World}{ty:TypeId}
theorem PV.Yt(hT:Ys P T) {U:TypeId}{x y:Operand}{t:rW}(c:ev kv x=some t.val) (hy:ev kv y=some t.val) :
  PV P (.binOp .neq T x y U) ty kv w (.bool false):=by
 refine⟨rfl,by simp [known,opers,c,hy],fun _ _ _ _=>?_⟩;simp only [execOp,aI c,aI hy,rW.val];simp only [Sem.run_bind,run_eqGuard_agg w .neq T _ _ _ _ hT.guard,run_neq_struct,hT.eq,Result.andThen_ok]
 rfl
end
end Go.Rc

namespace Go.Rc
open Go
def RR.C4:RR Rec where
 r Z w x row:=∃a n c,row=x.row a n c∧Rd RR.key 2 Z w a n c x.reads
 mono hZ h:=by obtain⟨a,n,c,h1,h2⟩:=h;exact⟨a,n,c,h1,h2.mono hZ⟩
 st hs hc h:=by obtain⟨a,n,c,h1,h2⟩:=h;exact⟨a,n,c,h1,h2.st hs hc⟩
 cut h:=by grind [Rd.cut]
theorem Rd.C4{Z:Nat→Prop}{w:World}{a:Option Addr}{n c:Nat}{l:List Rec}(h:Rd RR.C4 8 Z w a n c l) (e:∀x∈l,x.reads.length≤4000):Rd RR.ed 8 Z w a n c l:=by
 obtain⟨hn,rows,hl,hk,j,m⟩:=h;refine⟨hn,rows,hl,hk,j,fun i x r d hr=>?_⟩;obtain⟨a,n,c,h1,o⟩:=m i x r d hr;exact⟨a,n,c,h1,o,e x (List.mem_of_getElem? d)⟩
theorem SO{n:Int}(h:-9223372036854775808≤n∧n≤9223372036854775807):-9223372036854775808≤n.tdiv 6∧n.tdiv 6≤9223372036854775807:=by
 have h1:=Int.tmod_add_mul_tdiv n 6;have c:=Int.tmod_lt_of_pos n (show(0:Int)<6 by omega);have d:=Int.lt_tmod_of_pos n (show(0:Int)<6 by omega)
 omega
theorem lM{n:Int}(h0:0≤n) (h1:n≤99):(itoa n).size≤6:=by
 have:=k9 (n:=n.toNat) (by omega)
 rwa [show((n.toNat:Nat):Int)=n by omega] at this
theorem AA(aa:List aA) (n:Int):(aD aa n).text.size≤6:=by
 unfold aD
 split
 ·
  show(⟨#[]⟩:ByteArray).size≤6
  decide
 exact lM (by omega) (by omega)
theorem tY(n:Int):(bH n).text.size≤6:=by
 unfold bH
 split
 ·
  show(⟨#[]⟩:ByteArray).size≤6
  decide
 exact lM (by omega) (by omega)
theorem eu.text{aa:List aA}{k:Key}(h:eu aa k):k.text.size≤6:=by
 cases h with
 | cell h=>exact tY _
 | dp h c=>exact AA _ _
theorem tD.szB{aa:List aA}{x:cA}(h:tD aa x):Jq x:=by
 obtain⟨_,_,_,hk,_,hr,_⟩:=h;refine⟨fun y hy=>?_,fun r c=>?_⟩
 ·
  obtain⟨i,hi,e⟩:=hk y hy
  have:=k9 (n:=i) (by omega)
  rw [e]
  show(itoa (i:Int)).size≤_
  omega
 obtain⟨h1,_,d,_⟩:=hr r c;exact⟨Nat.le_trans h1.text (by decide),fun y hy=>Nat.le_trans (d y hy).text (by decide)⟩
theorem AB{d:List Key}{k:Key}{aa:List aA}{u1 m c e:Int}(h:d=[k,aD aa u1,⟨31+m,itoa c⟩,bH e]) (hk:k.text.size≤140737488355328) (n:0≤c∧c≤8):∀z∈d,z.text.size≤140737488355328:=by
 subst h;have h1:=AA aa u1;have o:=tY e;have r:=lM n.1 (by omega);intro z j;simp only [List.mem_cons,List.not_mem_nil,or_false] at j
 rcases j with rfl | rfl | rfl | rfl
 ·
  exact hk
 ·
  omega
 ·
  show(itoa c).size≤_
  omega
 omega
theorem HT{w:World}{b E:Nat}{l:List Key}(h:cC w b E (l.map Key.cells).flatten) (hl:l.length≤1000):SR (fun _=>True) w 2 (fun(k:Key) r=>r=k.cells) (some ⟨b,0,none⟩) l.length l.length l:=by
 have h1:=SR.JF (k:=2) (R:=fun(k:Key) r=>r=k.cells) (xs:=l) h (by simp) (fun r hr=>by obtain⟨k,_,rfl⟩:=List.mem_map.1 hr;rfl) (fun u hu=>by
  obtain⟨r,hr,hu⟩:=List.mem_flatten.1 hu;obtain⟨k,_,rfl⟩:=List.mem_map.1 hr
  simp [Key.cells] at hu
  rcases hu with rfl | rfl <;> rfl) (by rw [List.length_map];omega) fun i x r c hr=>by
   rw [List.getElem?_map,c] at hr
   simpa using hr.symm
 rwa [List.length_map] at h1
end Go.Rc

namespace Go.Rc
open Go
section
variable {H:Type}{enc:TypeId × Value→H}{P:Program}{w:World}
theorem ry{e:TypeId}:∀{l:List (DataW H)}{d:DataW H},d∈l→∀n∈d.weights P e,n∈DataW.weightsAll P e l
 | [],_,c,_,_=>by cases c
 | x::r,d,c,n,hn=>by
  simp only [DataW.weightsAll,List.mem_append]
  rcases List.mem_cons.1 c with rfl | c
  ·
   exact .inl hn
  exact .inr (ry c n hn)
def C5(P:Program) (t:TypeId) (d:DataW H):Prop:=∀n∈d.weights P t,n≤reachBytes
theorem C5.len{t e:TypeId}{xs c:List (DataW H)}(h:C5 P t (.slice xs c)) (ht:P.underlying t=some (.slice e)) (hb:1≤P.bytesOf e):xs.length≤140737488355328:=by
 have h1:=h ((xs.length+c.length)*P.bytesOf e) (by simp only [DataW.weights,ht];exact List.mem_cons_self)
 unfold reachBytes at h1
 have d:xs.length*1≤(xs.length+c.length)*P.bytesOf e:=Nat.mul_le_mul (by omega) hb
 omega
theorem C5.elem{t e:TypeId}{xs c:List (DataW H)}(h:C5 P t (.slice xs c)) (ht:P.underlying t=some (.slice e)) {d:DataW H}(j:d∈xs):C5 P e d:=fun n hn=>
 h n (by simp only [DataW.weights,ht,List.mem_cons,List.mem_append];exact .inr (.inl (ry j n hn)))
theorem C5.each{c:List TypeId}{ds:List (DataW H)}(h:(DataW.weightsEach P c ds).all (·≤reachBytes)=true) {j:Nat}{t:TypeId}{d:DataW H}(ht:c[j]?=some t) (e:ds[j]?=some d):C5 P t d:=fun n hn=>by
 have:=List.all_eq_true.1 h n (DataW.weights_mem_each ht e n hn)
 simpa using this
theorem Kq{α:Type} [Inhabited α] {R:α→List Value→Prop}{t e:TypeId}{k fuel n c:Nat}{a:Option Addr}{d:DataW H}{p:List MemPlace}(ht:P.underlying t=some (.slice e)) (hk:P.cellsOf e=k) (Q:1≤k) (hb:1≤P.bytesOf e)
  (G:∀(m:Nat) (cs:List Value) (d:DataW H) (p:List MemPlace),DataW.trod enc P w 0 (fun _=>true) true m e cs=some (d,p)→cs.length=k→C5 P e d→∃x:α,R x cs)
  (h:DataW.trod enc P w 0 (fun _=>true) true fuel t [.slice a n c]=some (d,p)) (hl:C5 P t d):∃xs:List α,LR (fun b=>b<w.heap.size) w k R a n xs:=by
 rcases Deep.open_slice ht h with⟨hc,_⟩ | ⟨z,len,cap,m,S,D,U,hc,_,hle,_,hm,r,I⟩
 ·
  simp only [List.cons.injEq,Value.slice.injEq,and_true] at hc;obtain⟨rfl,rfl,rfl⟩:=hc;exact⟨[],⟨rfl,by omega,fun r=>by simp at r⟩⟩
 simp only [List.cons.injEq,Value.slice.injEq,and_true] at hc;obtain⟨rfl,rfl,rfl⟩:=hc;simp only [Prod.mk.injEq] at r;obtain⟨rfl,_⟩:=r;simp only [if_true] at hm
 have hn:n≤140737488355328:=by simpa using hl.len ht hb
 have each:∀i,i<n→∃q:α × List Value,w.cells? 0 (z.add (i*k)) k=some q.2∧R q.1 q.2:=fun i hi=>by
  obtain⟨J,h1,K⟩:=I i (by omega);rw [hk] at h1;obtain⟨x,r⟩:=G _ _ _ _ K (World.cells?_some h1).2.1 (hl.elem ht (List.mem_map.2 ⟨i,by simpa using hi,rfl⟩));exact⟨(x,J),h1,r⟩
 obtain⟨q,A⟩:=Deep.choose_lt each;refine⟨(List.range n).map fun i=>(q i).1,⟨by simp,hn,fun {i x} r=>?_⟩⟩
 obtain⟨hi,rfl⟩:i<n∧(q i).1=x:=by
  rw [List.getElem?_map] at r;obtain⟨j,u,L⟩:=Option.map_eq_some_iff.1 r;rw [List.getElem?_eq_some_iff] at u;obtain⟨B,C⟩:=u
  simp at B C
  subst C;exact⟨B,L⟩
 have E:z.spot=none:=by
  obtain⟨_,V,M⟩:=World.cells?_some (A 0 (by omega)).1;have h0:=M 0 (by omega);rw [List.getElem?_eq_getElem (by omega)] at h0
  have:=World.cell?_spot h0
  simpa [Addr.add] using this
 obtain⟨b,o,s⟩:=z;simp only at E;subst E;obtain⟨_,N,O⟩:=World.cells?_some (A i hi).1
 have hr:w.rangeAt b (o+i*k) (q i).2:=fun j v F=>by
  have u:j<k:=by have:=(List.getElem?_eq_some_iff.1 F).1;omega
  have:=O j u
  rw [WideShapes.add_plain,WideShapes.add_plain] at this;rw [this,F]
 refine⟨b,o,(q i).2,rfl,N,(A i hi).2,hr,?_,?_⟩ <;>
  exact World.block_lt_of_cell? w ⟨b,_,none⟩ (hr 0 _ (List.getElem?_eq_getElem (by omega)))
end
def tZ(P:Program) (w:World) (n:String):Prop:=∃(nm:String) (d:DataW Unit) (g t:Nat) (ms:Array (String × TypeId)),Lib.VarReads P w n (.iface nm d)∧P.globalNamed n=some g∧(P.globals[g]?).map (·.type)=some t∧P.underlying t=some (.interface ms)
theorem N9{P:Program}{w:World}{g t e:Nat}(s:Lib.VarReads P w "internal/strconv.uint64pow10" (Lib.tabData .u64 Lib.pow10Tab)) (m:P.globalNamed "internal/strconv.uint64pow10" = some g) (z:(P.globals[g]?).map (·.type)=some t) (ht:P.underlying t=some (.array 20 e)) (he:P.underlying e=some (.int .u64))
  (A:P.cellsOf e=1) (B:P.cellsOf t=20) (C:tZ P w "strconv.ErrSyntax") (D:tZ P w "strconv.ErrRange"):gV P (fun b=>b<w.heap.size) w:=by
 obtain⟨N,O,cs,fuel,p,E,F,c,G⟩:=s;obtain rfl:=Option.some.inj (m.symm.trans E);obtain rfl:=Option.some.inj (z.symm.trans F);have hc:=Lib.cells_of_tab ht he A B G
 have hT:Lib.TabIs P w "internal/strconv.uint64pow10" .u64 Lib.pow10Tab:=by
  unfold Lib.TabIs
  rw [c,← hc]
 have o:g<w.heap.size:=by
  unfold World.var? at c
  simp only [m,Option.bind_some] at c
  split at c
  ·
   rename_i j
   exact(Array.getElem?_eq_some_iff.1 j).1
  cases c
 refine⟨⟨g,o,o,fun w' e=>?_⟩,fun n hn g2 I=>?_⟩
 ·
  unfold Lib.TabIs World.var? at hT ⊢
  simp only [m,Option.bind_some] at hT ⊢;rw [e];exact hT
 have J:tZ P w n:=by
  rcases hn with rfl | rfl
  ·
   exact C
  exact D
 obtain⟨Q,d,g3,t3,ms,⟨g4,t4,R,S,p4,e1,e2,h,K⟩,e3,e4,L⟩:=J;obtain rfl:=Option.some.inj (e1.symm.trans I);obtain rfl:=Option.some.inj (e1.symm.trans e3);obtain rfl:=Option.some.inj (e2.symm.trans e4);obtain⟨_,u,v,M,_,_⟩:=iface_of_trod L K
 unfold World.var? at h
 simp only [e1,Option.bind_some] at h
 split at h
 ·
  rename_i c0 U V j
  obtain rfl:=Option.some.inj h;have r:=(Array.getElem?_eq_some_iff.1 j).1;refine⟨r,r,.iface u v,.inr ⟨u,v,rfl⟩,fun w' e=>?_⟩;obtain rfl:c0=#[.iface u v]:=Array.toList_inj.1 M
  unfold World.cell?
  simp only [e,j]
  first | done | rfl
 cases h
theorem aQ.Oa{w w':World}(h:aQ [] w w') (B:Nat) (c:B≤w.heap.size):RowKit.Below B w w':=⟨h.os,h.tape,h.output,h.size,fun k hk=>h.block k (by omega) (by simp)⟩
end Go.Rc

namespace Go.Rc
open Go
def Ob(m f:Nat):Bool:=Nat.beq (Nat.land (Nat.shiftRight m f) 1) 1
def C6(look:FuncId→Option Func) (P:Program):Nat→List FuncId→Nat→List FuncId→List FuncId
 | 0,_,_,seen=>seen.reverse
 | _,[],_,seen=>seen.reverse
 | n+1,f::todo,mask,seen=>
  match Ob mask f with
  | true=>C6 look P n todo mask seen
  | false=>C6 look P n ((look f).elim [] P.leadsTo++todo) (Nat.lor mask (Nat.shiftLeft 1 f)) (f::seen)
theorem Kr(m f:Nat):Ob m f=m.testBit f:=by
 unfold Ob
 show Nat.beq ((m >>> f) &&& 1) 1=m.testBit f
 rw [Nat.testBit,Nat.and_comm];have h:=Nat.and_one_is_mod (m >>> f);rw [Nat.and_comm]
 have c:(1 &&& m >>> f)=(m >>> f) % 2:=by rw [Nat.and_comm];exact h
 rw [Nat.and_comm,c]
 rcases Nat.mod_two_eq_zero_or_one (m >>> f) with e | e <;> rw [e] <;> rfl
theorem ye{look:FuncId→Option Func}(P:Program) (hl:∀g,P.funcs[g]?=look g):∀(n:Nat) (todo:List FuncId) (mask:Nat) (seen:List FuncId),(∀x:Nat,mask.testBit x=seen.contains x)→C6 look P n todo mask seen=P.closureVia n todo seen
 | 0,_,_,_,_=>by unfold C6 Program.closureVia;rfl
 | n+1,[],_,_,_=>by unfold C6 Program.closureVia;rfl
 | n+1,f::todo,mask,seen,h=>by
  unfold C6 Program.closureVia
  rw [Kr,h f]
  cases hc:seen.contains f with
  | true=>simp only [if_true];exact ye P hl n todo mask seen h
  | false=>
   simp only [Bool.false_eq_true,if_false];rw [hl f];refine ye P hl n _ _ _ fun x=>?_
   show(mask ||| (1 <<< f)).testBit x=(f::seen).contains x
   rw [Nat.testBit_or,h x,Nat.shiftLeft_eq,Nat.one_mul,Nat.testBit_two_pow,List.contains_cons,Bool.or_comm]
   grind
theorem yf{look:FuncId→Option Func}(P:Program) (hl:∀g,P.funcs[g]?=look g) (f:FuncId):P.closure f=C6 look P (1+(P.funcs.toList.map fun g=>(P.leadsTo g).length+1).sum) [f] 0 []:=by grind [Program.closure,ye]
end Go.Rc

namespace Go.Rc
open Go
def yg(P:Program):Nat→List TypeId→List TypeId
 | 0,s=>s
 | d+1,s=>match decide (P.grow s=s) with
  | true=>s
  | false=>yg P d (P.grow s)
theorem xn{P:Program}{s:List TypeId}(h:P.grow s=s):∀n,P.grown n s=s
 | 0=>rfl
 | n+1=>by
  show P.grown n (P.grow s)=s
  rw [h];exact xn h n
theorem xo(P:Program):∀(n:Nat) (s:List TypeId),P.grown n s=yg P n s
 | 0,_=>rfl
 | n+1,s=>by
  show P.grown n (P.grow s)=match decide (P.grow s=s) with | true=>s | false=>yg P n (P.grow s)
  by_cases h:P.grow s=s
  ·
   grind [xn]
  rw [decide_eq_false h];exact xo P n _
def nX(P:Program) (t:TypeId):List TypeId:=yg P P.types.size [t]
theorem lN(P:Program) (t:TypeId):P.book t=nX P t:=xo P _ _
def HU(P:Program) (t:TypeId):Bool:=(nX P t).all fun u=>P.fineRow u && (P.partsOf u).all ((nX P t).contains ·)
theorem jr(P:Program) (t:TypeId):P.readableRec t=HU P t:=by grind [Program.readableRec,HU,lN]
def HV(P:Program) (t:TypeId):Bool:=(nX P t).any fun u=>(P.partsOf u).any fun v=>(nX P v).contains u
theorem AD(P:Program) (t:TypeId):P.loopsFrom t=HV P t:=by grind [Program.loopsFrom,HV,lN]
def Mh(P:Program) (t:TypeId):Bool:=(nX P t).any fun u=>match P.underlying u with | some (.map _ _)=>true | _=>false
theorem Ks(P:Program) (t:TypeId):P.mapsRec t=Mh P t:=by grind [Program.mapsRec,Mh,lN]
def EG(P:Program) (t:TypeId):Bool:=(nX P t).any fun u=>match P.underlying u with | some (.interface _)=>true | _=>false
theorem xp(P:Program) (t:TypeId):P.ifacesRec t=EG P t:=by grind [Program.ifacesRec,EG,lN]
def sC(P:Program) (t:TypeId):Bool:=(nX P t).any fun u=>match P.underlying u with | some (.func ..) | some (.chan ..) | some .unsafePointer=>true | _=>false
theorem qi(P:Program) (t:TypeId):P.veiledRec t=sC P t:=by grind [Program.veiledRec,sC,lN]
def Mi(P:Program) (t:TypeId):Bool:=
 (nX P t).any fun u=>match P.underlying u with
  | some (.map k _)=>(match P.underlying k with | some (.array _ _) | some (.struct _)=>true | _=>false)
  | _=>false
theorem Kt(P:Program) (t:TypeId):P.wideKeysFrom t=Mi P t:=by grind [Program.wideKeysFrom,Mi,lN]
def oE(P:Program) (t:TypeId):Bool:=!sC P t || (let L:=P.libraryStructs;(nX P t).all fun u=>!(P.libraryStructIn L u && sC P u))
theorem pg(P:Program) (t:TypeId):P.veiledOwn t=oE P t:=by grind [Program.veiledOwn,oE,lN,qi]
def AE(P:Program) (n:String):Bool:=
 match P.globalNamed n with
 | some g=>((P.globals[g]?).map (·.type)).any fun t=>HU P t && oE P t
 | none=>false
theorem C7(P:Program) (n:String):P.varReadable n=AE P n:=by grind [Program.varReadable,AE,jr,pg]
end Go.Rc

