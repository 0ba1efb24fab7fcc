/- Base of the proof: frames, memory, ownership, and the plain meaning of rule systems. Conditions: as each lemma says. -/
import Derived.Test.YtpoiojafnnaccaaGreatDoorTBg
import Derived.Test.YtpoiojafnnaccaaGreatDoorTBf
import Derived.Shelf.SlSortCmp.WholeK
set_option linter.all false
namespace Go.Rc
open Go
def oS(l:List eH) (b:dT) (a:Key):Prop:=aB a=true∨(lq l a=true∧aC a=true)∨aK b a=true
section
variable {x b b':dT}{l l' p q:List eH}{f g:eH}{k a:Key}
theorem uA:gG x l k=false↔aB k=true∨lq l k=true∨aK x k=true:=by
 unfold gG aK
 grind
theorem xA:dG x l [] k=if (!aC k && lq l k)=true then 3 else if gG x l k=true then 1 else 0:=by grind [dG,lq]
theorem Bf(h1:dG x l [] k≠1) (h3:dG x l [] k≠3):oS l x k:=by
 rw [xA] at h1 h3
 by_cases hA:(!aC k && lq l k)=true
 ·
  grind
 rw [if_neg hA] at h1
 by_cases hn:gG x l k=true
 ·
  grind
 rcases uA.1 (by simpa using hn) with h | h | h
 ·
  exact .inl h
 ·
  exact .inr (.inl ⟨h,by rw [h] at hA;simpa using hA⟩)
 exact .inr (.inr h)
theorem P3(h:dG x l [] k=1):lq l k=false∧aB k=false∧aK x k=false:=by
 rw [xA] at h
 by_cases hA:(!aC k && lq l k)=true
 ·
  rw [if_pos hA] at h;cases h
 rw [if_neg hA] at h
 by_cases hn:gG x l k=true
 ·
  have ku:¬(aB k=true∨lq l k=true∨aK x k=true):=fun h=>by grind [uA]
  grind
 rw [if_neg hn] at h;cases h
theorem Kt(h:dG x l [] k=3):aC k=false∧lq l k=true:=by
 rw [xA] at h
 grind
theorem kl:lq (p++q) k=(lq p k || lq q k):=by simp [lq]
theorem td:lq [f] k=decide (f.key=k):=by simp [lq]
theorem Ku{z:eH}{p1:List eH}(h:p++[z]=p1++g::q):(q=[]∧p1=p∧g=z)∨∃q',q=q'++[z]∧p=p1++g::q':=by
 rcases List.eq_nil_or_concat q with rfl | ⟨q',y,rfl⟩
 ·
  simp_all
 rw [List.concat_eq_append,← List.cons_append,← List.append_assoc] at h;obtain⟨h1,h2⟩:=List.append_inj' h rfl
 grind
end
inductive FS (ab:List aJ) (val:Key→ByteArray) (b:dT) (p:List eH) (f:eH):dT→List eH→List Key→Int→Prop where
 | stay:FS ab val b p f b (p++[f]) [] 0
 | full:f.running=true→(bf ab f.key f.ak).done=true→(!(aD b.ao f.key).isSome && decide (4000≤b.ao.length))=true→FS ab val b p f b (p++[f]) [] 45
 | put:f.running=true→(bf ab f.key f.ak).done=true→FS ab val b p f {b with ao:=gW b.ao (ek b f.key (bf ab f.key f.ak).value f.reads)} p [f.key] 0
 | push:f.running=true→(bf ab f.key f.ak).done=false→dG b (p++[f]) [] (bf ab f.key f.ak).ask=1→FS ab val b p f b (p++[f]++[⟨(bf ab f.key f.ak).ask,false,0,[],[]⟩]) [] 0
 | cyc:f.running=true→(bf ab f.key f.ak).done=false→dG b (p++[f]) [] (bf ab f.key f.ak).ask=3→FS ab val b p f b (p++[f]) [] 43
 | read:f.running=true→(bf ab f.key f.ak).done=false→dG b (p++[f]) [] (bf ab f.key f.ak).ask≠1→dG b (p++[f]) [] (bf ab f.key f.ak).ask≠3→
   FS ab val b p f b (p++[{f with reads:=f.reads++[(bf ab f.key f.ak).ask],ak:=f.ak++[eM val b (bf ab f.key f.ak).ask]}]) [] 0
 | up:f.running=false→aK b f.key=true→FS ab val b p f b p [] 0
 | start:f.running=false→aK b f.key=false→(aD b.ao f.key=none∨(aG b.ao f.key).ct=true)→FS ab val b p f b (p++[{f with running:=true,at_:=0}]) [] 0
 | mark:f.running=false→Live b.ao b.ae f.key→(cC b.ao (aF b.ao b.ae f.key)).length≤f.at_.toNat→FS ab val b p f (dZ b (aF b.ao b.ae f.key) false) p [] 0
 | Vr (c:tI):f.running=false→Live b.ao b.ae f.key→(cC b.ao (aF b.ao b.ae f.key))[f.at_.toNat]?=some c→dG b (p++[f]) [] c.read=1→FS ab val b p f b (p++[f]++[⟨c.read,false,0,[],[]⟩]) [] 0
 | acU (c:tI):f.running=false→Live b.ao b.ae f.key→(cC b.ao (aF b.ao b.ae f.key))[f.at_.toNat]?=some c→dG b (p++[f]) [] c.read=3→FS ab val b p f b (p++[f]) [] 43
 | pass (c:tI):f.running=false→Live b.ao b.ae f.key→(cC b.ao (aF b.ao b.ae f.key))[f.at_.toNat]?=some c→dG b (p++[f]) [] c.read≠1→dG b (p++[f]) [] c.read≠3→
   bT val b c.read≤(aG b.ao c.ft).az→FS ab val b p f b (p++[{f with at_:=f.at_+1}]) [] 0
 | fail (c:tI):f.running=false→Live b.ao b.ae f.key→(cC b.ao (aF b.ao b.ae f.key))[f.at_.toNat]?=some c→dG b (p++[f]) [] c.read≠1→dG b (p++[f]) [] c.read≠3→
   (aG b.ao c.ft).az<bT val b c.read→FS ab val b p f (if aC f.key then dZ b (aF b.ao b.ae f.key) true else b) (p++[{f with running:=true,at_:=0}]) [] 0
section
variable {ab:List aJ}{H:Int→List dE}{b0 b b':dT}{p q l l':List eH}{f g:eH}{cy:List Key}
structure FI (ab:List aJ) (H:Int→List dE) (b0 b:dT) (p:List eH) (f:eH):Prop where
 key:∃i:Nat,i<ab.length∧f.key=aS ab (i:Int)
 new:lq p f.key=false
 low:∀i j:Nat,i<ab.length→j<ab.length→f.key=aS ab (i:Int)→lq p (aS ab (j:Int))=true→Lw ab i (rX ab j)
 run:f.running=true→cY b.ao b.ae f.key=false∧aK b f.key=false∧PZ (valOf ab b0.ah) b0 f.key∧(∀i:Nat,i<ab.length→f.key=aS ab (i:Int)→∃n,n≤dY ab i∧f.reads=(gy (dN ab f.key) (valOf ab b0.ah) n).1∧f.ak=(gy (dN ab f.key) (valOf ab b0.ah) n).2)∧∀a∈f.reads,oS (p++[f]) b a
 Ni:f.running=false→f.reads=[]∧f.ak=[]∧0≤f.at_∧(Live b.ao b.ae f.key→∀j c,j<f.at_.toNat→(cC b.ao (aF b.ao b.ae f.key))[j]?=some c→valOf ab (H (aG b.ao c.ft).az) c.read=valOf ab b0.ah c.read∧oS (p++[f]) b c.read∧bT (valOf ab b0.ah) b0 c.read≤(aG b.ao c.ft).az)
structure TI (ab:List aJ) (H:Int→List dE) (b0 b:dT) (l:List eH) (cy:List Key):Prop where
 bi:Bi ab H (fun y=>lq l y && aC y) b
 wy:Wy ab b0 ⟨b,[],cy,0⟩
 fr:∀p f q,l=p++f::q→FI ab H b0 b p f
 nr:∀f∈l,f.key∉cy∧aK b0 f.key=false
theorem oS.lz{N:Key→Prop}{a:Key}(h:oS l b a) (dP:lx (valOf ab b0.ah) N cy b.ae b.ao b'.ao) (hr:b'.ae=b.ae):oS l b' a:=
 h.imp id (Or.imp id (dP.aK hr))
theorem oS.mono{a:Key}(h:oS l b a) (ho:∀k,lq l k=true→lq l' k=true):oS l' b a:=h.imp id (Or.imp (fun⟨x,y⟩=>⟨ho _ x,y⟩) id)
theorem FI.lz{N:Key→Prop}(h:FI ab H b0 b p g) (dP:lx (valOf ab b0.ah) N cy b.ae b.ao b'.ao) (hr:b'.ae=b.ae) (hN:¬N g.key):FI ab H b0 b' p g:=by
 refine⟨h.key,h.new,h.low,fun hg=>?_,fun hg=>?_⟩
 ·
  obtain⟨h1,h2,h3,h4,h5⟩:=h.run hg
  have tM:aD b'.ao g.key=aD b.ao g.key:=by
   rcases dP.pt g.key with e | ⟨e0,r,e1,e2,e3,_⟩ | ⟨⟨_,e0⟩,_⟩
   ·
    exact e
   ·
    grind [cN]
   exact absurd e0 hN
  refine⟨?_,?_,h3,h4,fun a ha=>(h5 a ha).lz dP hr⟩
  ·
   grind [cY,aG]
  grind [aK,aG]
 obtain⟨h1,h2,h3,h4⟩:=h.Ni hg;refine⟨h1,h2,h3,fun hl j c hj hc=>?_⟩;rw [hr] at hl hc;rw [dP.PY hl] at hc;obtain⟨p1,p2,p3⟩:=h4 (dP.Vo hl) j c hj hc;have hm:=(eS.1 (List.mem_of_getElem? hc)).1
 have e:aG b'.ao c.ft=aG b.ao c.ft:=by
  unfold aG
  rw [(dP.group hl).2 _ hm]
 rw [e];exact⟨p1,p2.lz dP hr,p3⟩
theorem TI.top(h:TI ab H b0 b (p++[f]) cy):FI ab H b0 b p f:=h.fr p f [] rfl
theorem TI.under(h:TI ab H b0 b (p++[f]) cy) {p1:List eH}(hp:p=p1++g::q):FI ab H b0 b p1 g∧g.key≠f.key:=by
 refine⟨h.fr p1 g (q++[f]) (by rw [hp];simp),fun e=>?_⟩;have h1:=h.top.new
 grind [lq]
theorem TI.snoc(h:∀p1 g q,p=p1++g::q→FI ab H b0 b p1 g) (hf:FI ab H b0 b p f):∀p1 g q,p++[f]=p1++g::q→FI ab H b0 b p1 g:=fun p1 g q hp=>by grind [Ku]
theorem Kv(hR:ay ab) {rk:List Key}{er:Int}(h:TI ab H b0 b (p++[f]) cy) (hg:Good ab b0.ah ⟨b,[],[],0⟩) (hs:FS ab (valOf ab b0.ah) b p f b' l' rk er):er=0∧TI ab H b0 b' l' (cy++rk):=by
 have qf:=hR.len;have hB:=h.bi;have hW:=h.wy;have S8:b.ae=b0.ae:=hW.rev;have gk:b.ah=b0.ah:=hW.aH;have hT:=h.top;obtain⟨i,hi,oi⟩:=hT.key
 have rG:aB f.key=false:=by grind [dI]
 have Tg:∀j:Nat,j<ab.length→lq (p++[f]) (aS ab (j:Int))=true→j=i∨Lw ab i (rX ab j):=fun j hj ho=>by
  rw [kl,td] at ho;simp only [Bool.or_eq_true,decide_eq_true_eq] at ho
  rcases ho with ho | ho
  ·
   exact .inr (hT.low i j hi hj oi ho)
  grind [fG]
 have XI:∀{b2:dT}{rn:List Key},lx (valOf ab b0.ah) (fun y=>y=f.key) rn b.ae b.ao b2.ao→(∀y∈cy,y∈rn)→b2.ae=b.ae→b2.ah=b.ah→(∀y r,aD b2.ao y=some r→r.ct=true→(aG b0.ao y).ct=true∨Te (valOf ab b0.ah) b0 y)→(∀y∈rn,PZ (valOf ab b0.ah) b0 y)→(∀y∈rn,y∈cy∨aK b2 y=true)→(∀y,aK b y=false→aK b2 y=true→y∈rn∨¬Te (valOf ab b0.ah) b0 y)→rn.Nodup→Wy ab b0 ⟨b2,[],rn,0⟩:=fun dP NK h1 h2 h3 h4 h5 h6 h7=>
  hW.step h1 h2 (by rw [← S8];exact dP.mono (fun _ h=>h) fun _ _=>trivial) NK h3 h4 h5 h6 h7
 -- a frame is ajq
 have acV:∀a,gH ab a→dG b (p++[f]) [] a=1→(∀m:Nat,m<ab.length→a=aS ab (m:Int)→∀j:Nat,j<ab.length→lq (p++[f]) (aS ab (j:Int))=true→Lw ab m (rX ab j))→TI ab H b0 b (p++[f]++[⟨a,false,0,[],[]⟩]) cy:=fun a qQ hl CZ=>by
  obtain⟨h1,h2,h3⟩:=P3 hl;obtain⟨m,hm,Xv,_⟩:=qQ.j7 h2;refine⟨hB.Vp fun y hy=>?_,hW,TI.snoc h.fr ⟨⟨m,hm,Xv⟩,h1,fun m' j R7 hj e ho=>CZ m' R7 e j hj ho,(fun hc=>by cases hc),fun _=>⟨rfl,rfl,Int.le_refl _,fun _ j c hj=>by simp at hj⟩⟩,fun g hg=>?_⟩
  rotate_left
  ·
   rcases List.mem_append.1 hg with hg | hg
   ·
    exact h.nr g hg
   rw [List.mem_singleton] at hg;subst hg;refine⟨fun hr=>?_,hW.Bc h3⟩
   have:=hW.Tf a hr
   grind
  rw [Bool.and_eq_true] at hy ⊢;rw [kl,hy.1];exact⟨rfl,hy.2⟩
 -- the last frame is ahU one of the same key
 have tM:∀{g:eH}{b2:dT}{rn:List Key},g.key=f.key→Bi ab H (fun y=>lq (p++[f]) y && aC y) b2→Wy ab b0 ⟨b2,[],rn,0⟩→lx (valOf ab b0.ah) (fun y=>y=f.key) rn b.ae b.ao b2.ao→b2.ae=b.ae→(∀y∈rn,y∈cy)→FI ab H b0 b2 p g→TI ab H b0 b2 (p++[g]) rn:=fun {g b2 rn} hk C0 XJ dP hr NK hF=>by
  refine⟨?_,XJ,TI.snoc (fun p1 g q hp=>?_) hF,fun q hq=>?_⟩
  ·
   have e:(fun y=>lq (p++[g]) y && aC y)=fun y=>lq (p++[f]) y && aC y:=by
    funext y
    grind [kl,td]
   rw [e];exact C0
  ·
   obtain⟨h1,h2⟩:=h.under hp;exact h1.lz dP hr h2
  rcases List.mem_append.1 hq with hq | hq
  ·
   have:=h.nr q (List.mem_append_left _ hq)
   grind
  rw [List.mem_singleton] at hq;subst hq
  have:=h.nr f (by simp)
  grind
 have Th:∀{g:eH},g.key=f.key→∀k,lq (p++[f]) k=true→lq (p++[g]) k=true:=fun hk k og=>by grind [kl,td]
 -- the last frame is done
 have XK:∀{b2:dT}{rn:List Key},Bi ab H (fun y=>lq (p++[f]) y && aC y) b2→aK b2 f.key=true→Wy ab b0 ⟨b2,[],rn,0⟩→lx (valOf ab b0.ah) (fun y=>y=f.key) rn b.ae b.ao b2.ao→b2.ae=b.ae→(∀y∈rn,y∈cy∨y=f.key)→TI ab H b0 b2 p rn:=fun {b2 rn} C0 hu XJ dP hr NK=>by
  refine⟨C0.off hu fun y hy=>?_,XJ,fun p1 g q hp=>?_,fun g hg=>?_⟩
  ·
   rw [Bool.and_eq_true,kl,td] at hy
   grind
  ·
   obtain⟨h1,h2⟩:=h.under hp;exact h1.lz dP hr h2
  have h1:=h.nr g (List.mem_append_left _ hg);refine⟨fun h3=>?_,h1.2⟩
  rcases NK _ h3 with h4 | h4
  ·
   exact h1.1 h4
  obtain⟨p1,q1,hp⟩:=List.append_of_mem hg;exact(h.under hp).2 h4
 have P4:∀n,f.ak=(gy (dN ab f.key) (valOf ab b0.ah) n).2→bf ab f.key f.ak=dN ab (aS ab (i:Int)) (NG ab b0.ah i n):=fun n hn=>by
  rw [hn,oi,il hi (by omega)]
  rfl
 have JZ:∀{y},lq (p++[f]) y=true→∃j:Nat,j<ab.length∧y=aS ab (j:Int):=fun {y} hy=>by
  rw [kl,td] at hy;simp only [Bool.or_eq_true,decide_eq_true_eq] at hy
  rcases hy with hy | hy
  ·
   unfold lq at hy
   obtain⟨g,hgm,JK⟩:=List.any_eq_true.1 hy;obtain⟨p1,q1,hp⟩:=List.append_of_mem hgm;obtain⟨j,hj,e⟩:=(h.under hp).1.key
   grind
  grind
 have arC:∀a,(∀m:Nat,m<ab.length→a=aS ab (m:Int)→∀j:Nat,j<ab.length→lq (p++[f]) (aS ab (j:Int))=true→Lw ab m (rX ab j))→dG b (p++[f]) [] a≠3:=fun a CZ hl=>by
  obtain⟨h1,h2⟩:=Kt hl;obtain⟨j,hj,rfl⟩:=JZ h2;have h3:=CZ j hj rfl j hj h2
  grind [cA,Lw,rX]
 have acW:∀n,n<dY ab i→∀m:Nat,m<ab.length→uz ab b0.ah i n=aS ab (m:Int)→∀j:Nat,j<ab.length→lq (p++[f]) (aS ab (j:Int))=true→Lw ab m (rX ab j):=fun n hn m hm e j hj ho=>by
  obtain⟨h1,h2⟩:=(xz hR hi (List.mem_of_getElem? (lQ (aH:=b0.ah) hn))).2 m hm e
  grind
 have ao0:Live b.ao b.ae f.key→∀c∈cC b.ao (aF b.ao b.ae f.key),gH ab c.read∧∀m:Nat,m<ab.length→c.read=aS ab (m:Int)→∀j:Nat,j<ab.length→lq (p++[f]) (aS ab (j:Int))=true→Lw ab m (rX ab j):=fun hl c hc=>by
  obtain⟨hm,ha,CY⟩:=eS.1 hc;obtain⟨j,hj,ej⟩:=hB.key (mX hl hm);obtain⟨rm,g1,g2,g3⟩:=mX hl hm;have h1:=(hB.c.vr rm (bq g1).1).2;rw [(bq g1).2,ej,iO hR hj] at h1;rw [bY g1,h1] at ha;have CZ:=xz hR hj ha;refine⟨CZ.1.Nk hR,fun m jf e q hq ho=>?_⟩;obtain⟨h4,h5⟩:=CZ.2 m jf e;rw [oi] at hl hm;obtain⟨g4,g5⟩:=Mo hR hB hi hj hl (ej ▸ hm)
  grind
 have acT:∀{a},oS (p++[f]) b a→aB a=true∨((lq (p++[f]) a && aC a)=true∧aC a=true)∨aK b a=true:=fun {a} h=>h.imp id (Or.imp (fun⟨x,y⟩=>⟨by rw [x,y];rfl,y⟩) id)
 have Kw:∀{b2:dT},f.running=false→Bi ab H (fun y=>lq (p++[f]) y && aC y) b2→Wy ab b0 ⟨b2,[],cy,0⟩→lx (valOf ab b0.ah) (fun y=>y=f.key) cy b.ae b.ao b2.ao→b2.ae=b.ae→cY b2.ao b2.ae f.key=false→aK b2 f.key=false→PZ (valOf ab b0.ah) b0 f.key→TI ab H b0 b2 (p++[{f with running:=true,at_:=0}]) cy:=fun {b2} hr C0 XJ dP ajr ho hu hw=>by
  obtain⟨c1,c2,_,_⟩:=hT.Ni hr;refine tM (g:={f with running:=true,at_:=0}) rfl C0 XJ dP ajr (fun _ h=>h) ⟨⟨i,hi,oi⟩,hT.new,hT.low,fun _=>⟨ho,hu,hw,fun j hj e=>⟨0,Nat.zero_le _,c1,c2⟩,fun a ha=>?_⟩,fun hc=>by cases hc⟩
  grind
 have H2:Live b.ao b.ae f.key→aK b f.key=false:=fun⟨r,h1,_,h2⟩=>nv h1 h2
 cases hs with
 | stay=>grind
 | full hr hd hn=>
  have:=hB.len
  simp at hn
  omega
 | put hr hd=>
  obtain⟨h1,h2,h3,h4,h5⟩:=hT.run hr;obtain⟨n,hn,oR,XL⟩:=h4 i hi oi;have ht:=P4 n XL
  have hnq:n=dY ab i:=by grind [Mj]
  rw [hnq,Mk hR hi] at ht
  have nO:f.reads=dD ab b0.ah i:=by
   rw [oR,hnq,oi]
   rfl
  have hm:ek b f.key (bf ab f.key f.ak).value f.reads=ek b (aS ab (i:Int)) (valOf ab b0.ah (aS ab (i:Int))) (dD ab b0.ah i):=by rw [ht,nO,oi]
  rw [hm];have C0:=hB.put hR hi (fun hc=>by grind [kl,td]) (by grind);rw [gk] at C0
  have C0:Bi ab H (fun y=>lq (p++[f]) y && aC y) ⟨b.ae,b.ah,gW b.ao (ek b (aS ab (i:Int)) (valOf ab b0.ah (aS ab (i:Int))) (dD ab b0.ah i))⟩:=by rw [gk];exact C0
  have dP:lx (valOf ab b0.ah) (fun y=>y=f.key) (cy++[f.key]) b.ae b.ao (gW b.ao (ek b (aS ab (i:Int)) (valOf ab b0.ah (aS ab (i:Int))) (dD ab b0.ah i))):=by
   rw [oi] at h1 h2;refine lx.put h1 (fun r hr=>?_) ⟨by simp [ek,oi],oi.symm⟩ rfl rfl rfl (fun r hr=>?_) fun hn=>?_
   ·
    have h1:=(hB.c.Ml r (bq hr).1).1
    have h6:r.az≠b.ae:=fun e=>by
     have:aK b (aS ab (i:Int))=true:=cU.2 ⟨r,hr,e⟩
     grind
    omega
   ·
    have jD:aD b.ao (aS ab (i:Int))=some r:=hr
    unfold ek
    simp only [jD,bY jD]
    grind
   grind [ek]
  have Fv:aK {b with ao:=gW b.ao (ek b (aS ab (i:Int)) (valOf ab b0.ah (aS ab (i:Int))) (dD ab b0.ah i))} f.key=true:=by
   rw [oi];exact uu (r:=ek b (aS ab (i:Int)) (valOf ab b0.ah (aS ab (i:Int))) (dD ab b0.ah i)) rfl
  refine⟨rfl,XK C0 Fv (XI dP (fun y hy=>by simp [hy]) rfl rfl (fun y r hf hd=>?_) (fun y hy=>?_) (fun y hy=>?_) (fun y hu Kr=>?_) (Eh hW.ou fun hr=>by have:=hW.Tf _ hr;rw [h2] at this;cases this)) dP rfl fun y hy=>by simpa using hy⟩
  ·
   have H0:aD (gW b.ao (ek b (aS ab (i:Int)) (valOf ab b0.ah (aS ab (i:Int))) (dD ab b0.ah i))) y=some r:=hf;rw [gD] at H0
   split at H0
   ·
    have:=Option.some.inj H0
    subst this
    cases hd
   exact hW.Sc y r H0 hd
  ·
   rcases List.mem_append.1 hy with hy | hy
   ·
    exact hW.cy y hy
   grind
  ·
   grind
  refine .inl ?_
  by_cases e:y=f.key
  ·
   rw [e]
   simp
  obtain⟨r,hr,hv⟩:=cU.1 Kr;have jD:aD (gW b.ao (ek b (aS ab (i:Int)) (valOf ab b0.ah (aS ab (i:Int))) (dD ab b0.ah i))) y=some r:=hr;rw [gD,if_neg (show ¬y=(ek b (aS ab (i:Int)) (valOf ab b0.ah (aS ab (i:Int))) (dD ab b0.ah i)).key from fun h=>e (h.trans oi.symm))] at jD
  grind [cU]
 | push hr hd hl=>
  obtain⟨h1,h2,h3,h4,h5⟩:=hT.run hr;obtain⟨n,hn,oR,XL⟩:=h4 i hi oi;have ht:=P4 n XL
  have ee:n<dY ab i:=by grind [Mk]
  rw [Mj hR hi ee] at ht;rw [ht] at hl ⊢;rw [List.append_nil];exact⟨rfl,acV _ (HX hR hi ee) hl (acW n ee)⟩
 | cyc hr hd hl=>
  obtain⟨h1,h2,h3,h4,h5⟩:=hT.run hr;obtain⟨n,hn,oR,XL⟩:=h4 i hi oi
  grind [Mk,Mj]
 | read hr hd jO Kx=>
  obtain⟨h1,h2,h3,h4,h5⟩:=hT.run hr;obtain⟨n,hn,oR,XL⟩:=h4 i hi oi;have ht:=P4 n XL
  have ee:n<dY ab i:=by grind [Mk]
  rw [Mj hR hi ee] at ht;rw [ht] at jO Kx ⊢;rw [List.append_nil];have LN:=Bf jO Kx
  have XH:eM (valOf ab b0.ah) b (uz ab b0.ah i n)=valOf ab b0.ah (uz ab b0.ah i n):=by
   rw [← gk];refine hB.answer (by grind [HX]) ?_
   grind
  refine⟨rfl,tM (g:={f with reads:=f.reads++[uz ab b0.ah i n],ak:=f.ak++[eM (valOf ab b0.ah) b (uz ab b0.ah i n)]}) rfl hB hW (.refl _) rfl (fun _ h=>h) ⟨⟨i,hi,oi⟩,hT.new,hT.low,fun _=>⟨h1,h2,h3,fun j hj e=>?_,fun a ha=>?_⟩,fun hc=>?_⟩⟩
  ·
   have:=fG hR hj hi (e.symm.trans oi)
   subst this;refine⟨n+1,ee,?_,?_⟩
   ·
    show f.reads++[uz ab b0.ah j n]=_
    rw [oR,oi]
    rfl
   show f.ak++[eM (valOf ab b0.ah) b (uz ab b0.ah j n)]=_
   rw [XH,XL,oi]
   rfl
  ·
   rcases List.mem_append.1 ha with ha | ha
   ·
    exact(h5 a ha).mono (Th rfl)
   rw [List.mem_singleton] at ha;rw [ha];exact LN.mono (Th rfl)
  grind
 | up hr hu=>
  rw [List.append_nil];exact⟨rfl,XK hB hu hW (.refl _) rfl fun _ h=>.inl h⟩
 | start hr hu hx=>
  rw [List.append_nil];refine⟨rfl,Kw hr hB hW (.refl _) rfl ?_ hu ⟨rG,hW.Bc hu,?_⟩⟩
  ·
   rw [Bool.eq_false_iff]
   grind [cN,bY]
  cases hf:aD b.ao f.key with
  | none=>exact .inl (hW.none hf)
  | some r=>
   refine .inr ?_
   rcases hx with hx | hx
   ·
    rw [hf] at hx
    cases hx
   rw [bY hf] at hx;exact hW.Sc _ r hf hx
 | mark hr hl hn=>
  obtain⟨c1,c2,c3,c4⟩:=hT.Ni hr;have c4:=c4 hl;have dP:lx (valOf ab b0.ah) (fun y=>y=f.key) cy b.ae b.ao (dZ b (aF b.ao b.ae f.key) false).ao:=lx.mark hl false (.inr rfl)
  have C0:=hB.mark hR hl fun m hm a ha CY=>by
   have ly:(⟨m,a⟩:tI)∈cC b.ao (aF b.ao b.ae f.key):=eS.2 ⟨hm,ha,CY⟩;obtain⟨j,hj⟩:=List.mem_iff_getElem?.1 ly;have h1:=(List.getElem?_eq_some_iff.1 hj).1;obtain⟨h2,h3,_⟩:=c4 j ⟨m,a⟩ (by omega) hj
   grind
  have rB:=hW.Vq hl fun m hm a ha CY=>by
   have ly:(⟨m,a⟩:tI)∈cC b.ao (aF b.ao b.ae f.key):=eS.2 ⟨hm,ha,CY⟩;obtain⟨j,hj⟩:=List.mem_iff_getElem?.1 ly
   grind
  rw [List.append_nil];refine⟨rfl,XK C0 ?_ (XI dP (fun _ h=>h) rfl rfl (fun y r' hf hd=>?_) hW.cy (fun _ h=>.inl h) (fun y hu Kr=>.inr (rB y (Mn hu Kr))) hW.ou) dP rfl fun _ h=>.inl h⟩
  ·
   obtain⟨r,h1,_⟩:=hl
   grind [vx,ma]
  have H0:(aD b.ao y).map (cZ b.ae (aF b.ao b.ae f.key) false)=some r':=fj.symm.trans hf;obtain⟨r,hr,rfl⟩:=Option.map_eq_some_iff.1 H0;rw [yx] at hd;exact hW.Sc y r hr hd
 | Vr c hr hl hc hk=>grind
 | acU c hr hl hc hk=>grind
 | pass c hr hl hc tL yn hle=>
  obtain⟨c1,c2,c3,c4⟩:=hT.Ni hr;have LN:=Bf tL yn;rw [List.append_nil];refine⟨rfl,tM (g:={f with at_:=f.at_+1}) rfl hB hW (.refl _) rfl (fun _ h=>h) ⟨⟨i,hi,oi⟩,hT.new,hT.low,fun hc=>?_,fun _=>⟨c1,c2,by show 0≤f.at_+1;omega,fun _ j c' hj P1=>?_⟩⟩⟩
  ·
   grind
  have hj':j<f.at_.toNat+1:=by grind
  rcases Nat.lt_or_ge j f.at_.toNat with ee | rK
  ·
   obtain⟨p1,p2,p3⟩:=c4 hl j c' ee P1;exact⟨p1,p2.mono (Th rfl),p3⟩
  have e:j=f.at_.toNat:=by omega
  subst e;have acX:(cC b.ao (aF b.ao b.ae f.key))[f.at_.toNat]?=some c':=P1;rw [hc] at acX
  have:=Option.some.inj acX
  subst this;refine⟨?_,LN.mono (Th rfl),by rw [← hW.changed hB c.read];exact hle⟩;obtain⟨hm,ha,CY⟩:=eS.1 (List.mem_of_getElem? hc);obtain⟨rm,g1,g2,g3⟩:=mX hl hm;rw [bY g1] at hle ha ⊢;have h1:=hB.c.changed (bq g1).1 g3 ha (by rw [gk];exact hle);rw [gk] at h1;exact h1
 | fail c hr hl hc tL yn ee=>
  obtain⟨hm,ha,CY⟩:=eS.1 (List.mem_of_getElem? hc);have P2:=hW.dif hB hl hm ha CY ee;have Ks:PZ (valOf ab b0.ah) b0 f.key:=⟨rG,hW.Bc (H2 hl),.inr (.inr (P2 _ ma))⟩;rw [List.append_nil]
  cases ux:aC f.key with
  | false=>
   simp only [Bool.false_eq_true,if_false];refine⟨trivial,Kw hr hB hW (.refl _) rfl ?_ (H2 hl) Ks⟩;rw [Bool.eq_false_iff]
   grind [cN]
  | true=>
   simp only [if_true];have dP:lx (valOf ab b0.ah) (fun y=>y=f.key) cy b.ae b.ao (dZ b (aF b.ao b.ae f.key) true).ao:=lx.mark hl true (.inl ux);obtain⟨r,f1,f2,f3⟩:=id hl
   have hfk:aD (dZ b (aF b.ao b.ae f.key) true).ao f.key=some {r with ct:=true}:=by
    refine fj.trans ?_;rw [f1]
    show some (cZ _ _ _ r)=_
    unfold cZ
    rw [if_pos (by rw [(bq f1).2];exact ma)]
    rfl
   refine⟨trivial,Kw hr (hB.ct fun m hm=>mX hl hm) (XI dP (fun _ h=>h) rfl rfl (fun y r' hf hd=>?_) hW.cy (fun _ h=>.inl h) (fun y hu Kr=>by grind [HZ]) hW.ou) dP rfl ?_ (nv hfk f3) Ks⟩
   ·
    have H0:(aD b.ao y).map (cZ b.ae (aF b.ao b.ae f.key) true)=some r':=fj.symm.trans hf;obtain⟨q,hq,rfl⟩:=Option.map_eq_some_iff.1 H0
    by_cases hy:y∈aF b.ao b.ae f.key
    ·
     exact .inr (P2 y hy)
    unfold cZ at hd
    rw [if_neg (by rw [(bq hq).2];exact hy)] at hd;exact hW.Sc y q hq hd
   rw [Bool.eq_false_iff]
   grind [cN]
end
end Go.Rc

namespace Go.Rc
open Go
theorem As.exc{A:As}{Z:Nat→Prop}{w w':World}(h:A.ok Z w) (c:bm [] w w'):A.ok Z w':=A.st c.size (fun x _ hx=>c.block x hx (by simp)) h
theorem acY{k:Key}(h:gY k):aC k=decide (k.kind=32):=by
 have e:(decide (1≤k.kind) && decide (k.kind≤22))=false:=by
  rcases h with h | h
  ·
   grind
  grind
 unfold aC
 grind
/-! ### records in blocks -/
structure RL where
 b:Nat
 a:Option Addr
 n:Nat
 c:Nat
def WD.wc(D:WD) (v:Nat) (rev:Int) (ra:Option Addr) (rn rc:Nat):List Value:=
 [.slice D.ar D.r D.cr,.int .i64 rev,.slice D.a1 D.n1 D.c1,.slice D.a2 D.n2 D.c2,.map (some D.m),.pointer (some ⟨v,0,none⟩),.slice ra rn rc]
def As.qn(RT:Nat) (lf:Key→RL) (l:List Rec):As where
 fp x:=∃k r,aD l k=some r∧x=(lf k).b
 ok Z w:=(∀k r,aD l k=some r→cI w (lf k).b RT (r.row (lf k).a (lf k).n (lf k).c)∧Rd RR.key 2 Z w (lf k).a (lf k).n (lf k).c r.reads∧r.reads.length≤4000)∧∀k k' r r',aD l k=some r→aD l k'=some r'→(lf k).b=(lf k').b→k=k'
 lt h x hx:=by
  obtain⟨k,r,hk,rfl⟩:=hx;exact(h.1 k r hk).1.lt
 mono hZ h:=⟨fun k r hk=>by
  obtain⟨hb,hr,h4⟩:=h.1 k r hk;exact⟨hb,hr.mono hZ,h4⟩,h.2⟩
 st hs hc h:=⟨fun k r hk=>by
  obtain⟨hb,hr,h4⟩:=h.1 k r hk;exact⟨(As.blk (lf k).b RT (r.row (lf k).a (lf k).n (lf k).c)).st (Z:=fun _=>False) hs (fun x hx hl=>hc x (.inl ⟨k,r,hk,by rcases hx with hx | hx;exact hx;exact hx.elim⟩) hl) hb,hr.st hs (fun x hx=>hc x (.inr hx)),h4⟩,h.2⟩
theorem As.Mr{RT:Nat}{lf:Key→RL}{l:List Rec}{Z:Nat→Prop}{w:World}(h:(As.qn RT lf l).ok Z w):(As.qn RT lf l).ok Z w:=h
def kH(l:List Rec) (lf:Key→RL) (ml:List (Key × Value)):Prop:=∀k,cq ml k=(aD l k).map fun _=>Value.pointer (some ⟨(lf k).b,0,none⟩)
theorem kH.nil(lf:Key→RL):kH [] lf []:=fun _=>rfl
theorem kH.no{l:List Rec}{lf:Key→RL}{ml:List (Key × Value)}{k:Key}(h:kH l lf ml) (hf:aD l k=none):(cq ml k).getD (.pointer none)=.pointer none:=by rw [h k,hf];rfl
theorem kH.yes{l:List Rec}{lf:Key→RL}{ml:List (Key × Value)}{k:Key}{r:Rec}(h:kH l lf ml) (hf:aD l k=some r):cq ml k=some (.pointer (some ⟨(lf k).b,0,none⟩)):=by rw [h k,hf];rfl
def P5(lf:Key→RL) (k:Key) (q:RL):Key→RL:=fun y=>if y=k then q else lf y
theorem pC{lf:Key→RL}{k:Key}{q:RL}:P5 lf k q k=q:=if_pos rfl
theorem qo{lf:Key→RL}{k y:Key}{q:RL}(h:¬y=k):P5 lf k q y=lf y:=if_neg h
theorem kH.put{l l':List Rec}{lf:Key→RL}{ml:List (Key × Value)}{r:Rec}{q:RL}(h:kH l lf ml) (hl:∀y,aD l' y=if y=r.key then some r else aD l y):kH l' (P5 lf r.key q) (dH ml r.key (.pointer (some ⟨q.b,0,none⟩))):=fun k=>by
 rw [eR,hl k]
 by_cases e:k=r.key
 ·
  subst e;rw [if_pos rfl,if_pos rfl,pC]
  rfl
 rw [if_neg fun h=>e h.symm,if_neg e,qo e,h k]
section
variable {RT:Nat}{q:RL}{lf:Key→RL}{l l':List Rec}{r:Rec}{w0 w:World}{M Z:Nat→Prop}{L:List As}
theorem St.ajs(h:St w0 M Z w L) (RT:Nat) (lf:Key→RL):St w0 M Z w (As.qn RT lf []::L):=h.fact (B:=As.qn RT lf []) ⟨fun k r hk=>(by cases hk),fun k k' r r' hk=>(by cases hk)⟩ fun x hx=>by obtain⟨k,r,hk,_⟩:=hx;cases hk
theorem St.XM(h:St w0 M Z w (As.blk q.b RT (r.row q.a q.n q.c)::As.qn RT lf l::L)) (hr:Rd RR.key 2 Z w q.a q.n q.c r.reads) (h4:r.reads.length≤4000) (hl:∀y,aD l' y=if y=r.key then some r else aD l y):St w0 M Z w (As.qn RT (P5 lf r.key q) l'::L):=by
 have hB:cI w q.b RT (r.row q.a q.n q.c):=h.g0;have hR:(As.qn RT lf l).ok Z w:=h.g1;have hd:∀k r',aD l k=some r'→q.b≠(lf k).b:=fun k r' hk e=>(List.pairwise_cons.1 h.wN).1 (As.qn RT lf l) M0 q.b rfl ⟨k,r',hk,e⟩;refine h.join (C:=As.qn RT (P5 lf r.key q) l') ⟨fun k r' hk=>?_,fun k k' r1 r2 h1 h2 e=>?_⟩ fun x hx=>?_
 ·
  rw [hl k] at hk
  by_cases e:k=r.key
  ·
   rw [if_pos e] at hk
   grind [pC]
  rw [if_neg e] at hk;rw [qo e];exact hR.1 k r' hk
 ·
  rw [hl k] at h1;rw [hl k'] at h2
  by_cases e1:k=r.key
  ·
   by_cases e2:k'=r.key
   ·
    rw [e1,e2]
   rw [if_neg e2] at h2
   grind [pC,qo]
  rw [if_neg e1] at h1
  by_cases e2:k'=r.key
  ·
   rw [qo e1,e2,pC] at e;exact absurd e.symm (hd k _ h1)
  rw [if_neg e2] at h2;rw [qo e1,qo e2] at e;exact hR.2 k k' _ _ h1 h2 e
 obtain⟨k,r',hk,rfl⟩:=hx;rw [hl k] at hk
 by_cases e:k=r.key
 ·
  rw [e,pC];exact .inl rfl
 rw [if_neg e] at hk;rw [qo e];exact .inr ⟨k,r',hk,rfl⟩
theorem Ow.z{α:Type}{f:α→List Value}{E k n c:Nat}{a:Option Addr}{xs:List α}{Z':Nat→Prop}(h:Ow (RR.flat f) E k Z' w a n c xs):Ow (RR.flat f) E k Z w a n c xs:=by
 obtain⟨hn,rows,hl,hk,h1,hx⟩:=h;exact⟨hn,rows,hl,hk,h1,hx⟩
theorem St.unz{A:As}{Z':Nat→Prop}(h:St w0 M Z' w [A]) (hz:∀x,Z x→Z' x) (hA:A.ok Z w):St w0 M Z w [A]:=
 ⟨h.cT,fun x hx=>h.mx x (hz x hx),fun B hB x hx R2=>h.pO B hB x hx (hz x R2),h.rE,h.wN,fun B hB=>by grind⟩
end
theorem Ky{l:List Rec}{r:Rec}(h:∀x∈l,x.key≠r.key) (y:Key):aD (l++[r]) y=if y=r.key then some r else aD l y:=by
 unfold aD
 grind
/-! ### entries of maps that are changed in place -/
section
variable {κ:Type} [DecidableEq κ] {enc:κ→Value}{P:Program}{kt:TypeId}{w w':World}{b:Nat}{l:List (κ × Value)}
def XN{κ:Type}(enc:κ→Value) (w:World) (b:Nat) (l:List (κ × Value)) (k:κ) (z:Int):Prop:=
 ∃es clock,w.heap[b]?=some (.map es clock)∧(es.toList.map (fun e=>(e.key,e.val))=l.map (fun p=>(enc p.1,p.2))∧(l.map (·.1)).Nodup∧(∀e∈es.toList,e.born<clock)∧(es.toList.map (·.born)).Nodup)∧∃(j:Nat) (v:Value) (e:MapEntry),l[j]?=some (k,v)∧es[j]?=some e∧(e.born:Int)=z
def As.Kz{κ:Type}(enc:κ→Value) (b:Nat) (l:List (κ × Value)) (k:κ) (z:Int):As where
 fp x:=x=b
 ok _ w:=XN enc w b l k z
 lt h x hx:=by
  subst hx;obtain⟨es,c,h,_⟩:=h
  grind
 mono _ h:=h
 st hs hc h:=by
  obtain⟨es,c,h,r⟩:=h;exact⟨es,c,(hc b (.inl rfl) (Array.getElem?_eq_some_iff.1 h).1).trans h,r⟩
theorem As.gmb{κ:Type}{enc:κ→Value}{b:Nat}{l:List (κ × Value)}{k:κ}{z:Int}{Z:Nat→Prop}{w:World}(h:(As.Kz enc b l k z).ok Z w):XN enc w b l k z:=h
theorem Fw{e T:TypeId}{zv:Value}(hK:KK P kt enc) (hT:P.underlying T=some (.map kt e)) (hz:∀w,(zeroValue e).run P w=.ok zv w) (hb:KM enc w b l) (k:κ) :
  ∃(z:Int) (w':World),(Instr.mapEntry T (.map (some b)) (enc k)).run P w=.ok (.tuple #[(cq l k).getD zv,.int .i64 z]) w'∧bm [b] w w'∧XN enc w' b (dH l k ((cq l k).getD zv)) k z:=by
 obtain⟨es,clock,hm,he,hn,hbo,Hj⟩:=hb;have yY:b<w.heap.size:=(Array.getElem?_eq_some_iff.1 hm).1
 have hlen:es.toList.length=l.length:=by simpa using congrArg List.length he
 cases hx:ug l k 0 with
 | none=>
  obtain⟨h1,h2⟩:=nh hx;refine⟨(clock:Int),_,?_,kR w b (.map (es.push {key:=enc k,val:=zv,born:=clock}) (clock+1)),?_⟩
  ·
   rw [h1];simp only [Instr.mapEntry,Sem.run_bind,run_underlying hT,Result.andThen_ok,MapKept.run_getObj_map hm,hK.check,hK.find l es.toList k w he,hx,hz,MapKept.run_setObj_map _ hm,Option.getD_none]
   rfl
  rw [h1,h2];refine⟨_,_,by first | (simp [yY];done) | (simp [yY];exact⟨rfl,rfl⟩),⟨by simp [he],by grind [iM],?_,?_⟩,l.length,zv,{key:=enc k,val:=zv,born:=clock},by simp,?_,rfl⟩
  ·
   grind
  ·
   grind
  grind
 | some p=>
  obtain⟨j,v0⟩:=p;obtain⟨m,h1,h2,h3,h4,_⟩:=lJ hx
  have qL:j=m:=by omega
  subst qL
  have U8:j<es.size:=by grind
  obtain⟨y,hy⟩:∃y,es[j]?=some y:=⟨_,Array.getElem?_eq_getElem U8⟩
  have hye:y.key=enc k∧y.val=v0:=by
   have:=congrArg (fun x=>x[j]?) he
   grind
  have JZ:(((es[j]?).map (·.key)).getD (enc k))=enc k:=by rw [hy];exact hye.1
  have acZ:(((es[j]?).map fun x=>(x.born:Int)).getD 0)=(y.born:Int):=by rw [hy];rfl
  refine⟨(y.born:Int),_,?_,kR w b (.map (es.modify j fun e=>{e with key:=enc k}) clock),?_⟩
  ·
   rw [h3];simp only [Instr.mapEntry,Sem.run_bind,run_underlying hT,Result.andThen_ok,MapKept.run_getObj_map hm,hK.check,hK.find l es.toList k w he,hx,Instr.keyThatStays,JZ,hK.same,if_true,Sem.run_pure,MapKept.run_setObj_map _ hm,Option.getD_some,acZ]
   rfl
  rw [h3]
  have Hk:(es.modify j fun e=>{e with key:=enc k}).toList.map (fun e=>(e.key,e.val))=(l.set j (k,v0)).map (fun p=>(enc p.1,p.2))∧(es.modify j fun e=>{e with key:=enc k}).toList.map (·.born)=es.toList.map (·.born):=by
   constructor
   ·
    apply List.ext_getElem?
    intro i;have hi:=congrArg (fun x=>x[i]?) he
    grind
   apply List.ext_getElem?
   grind
  refine⟨_,_,by first | (simp [yY];done) | (simp [yY];exact⟨rfl,rfl⟩),⟨by grind,iM hn k _,?_,by rw [Hk.2];exact Hj⟩,j,v0,{y with key:=enc k},?_,?_,rfl⟩
  ·
   intro x hx
   have:x.born∈(es.modify j fun e=>{e with key:=enc k}).toList.map (·.born):=List.mem_map.2 ⟨x,hx,rfl⟩
   grind
  ·
   grind
  grind
theorem Bg{α:Type}:∀{l:List α},l.Nodup→∀{i j:Nat}{x:α},l[i]?=some x→l[j]?=some x→i=j:=fun {l} h {i j x} h1 h2=>by
 obtain⟨hi,e1⟩:=List.getElem?_eq_some_iff.1 h1;obtain⟨hj,e2⟩:=List.getElem?_eq_some_iff.1 h2
 rcases Nat.lt_trichotomy i j with g | g | g
 ·
  exact absurd (e1.trans e2.symm) (List.pairwise_iff_getElem.1 h i j hi hj g)
 ·
  exact g
 exact absurd (e2.trans e1.symm) (List.pairwise_iff_getElem.1 h j i hj hi g)
theorem Bj{T:TypeId}{k:κ}{z:Int}(hb:XN enc w b l k z) (v:Value) :
  ∃w':World,(Instr.entryStore T (.map (some b)) (.int .i64 z) v).run P w=.ok () w'∧bm [b] w w'∧KM enc w' b (dH l k v):=by
 obtain⟨es,clock,hm,⟨he,hn,hbo,Hj⟩,j,v0,y,hj,hy,hz⟩:=hb;have yY:b<w.heap.size:=(Array.getElem?_eq_some_iff.1 hm).1;have U8:j<es.size:=(Array.getElem?_eq_some_iff.1 hy).1
 have Vc:es.findIdx? (fun e=>(e.born:Int) == z)=some j:=by
  rw [Array.findIdx?_eq_some_iff_getElem]
  have hyj:es[j]=y:=by grind
  refine⟨U8,by rw [hyj];simpa using hz,fun i hi=>?_⟩
  have ku:(es[i]'(by omega)).born≠y.born:=fun e=>by
   have h1:(es.toList.map (·.born))[i]?=some y.born:=by grind
   have h2:(es.toList.map (·.born))[j]?=some y.born:=by simp [hy]
   grind [Bg]
  grind
 have XO:∃(j':Nat),ug l k 0=some (j',v0)∧j'=j:=by
  cases hx:ug l k 0 with
  | none=>
   have h1:=(nh hx).1;exact absurd (List.mem_map.2 ⟨(k,v0),List.mem_of_getElem? hj,rfl⟩) (DM.1 h1)
  | some p=>
   obtain⟨j',v1⟩:=p;obtain⟨m,h1,h2,_⟩:=lJ hx
   have h3:(l.map (·.1))[m]?=some k:=by rw [List.getElem?_map,h2];rfl
   have h4:(l.map (·.1))[j]?=some k:=by rw [List.getElem?_map,hj];rfl
   have h5:=Bg hn h3 h4
   grind
 obtain⟨j',hx,hjj⟩:=XO;subst hjj;obtain⟨m,h1,h2,h3,h4,_⟩:=lJ hx
 have qL:j'=m:=by omega
 subst qL;refine⟨_,?_,kR w b (.map (es.modify j' fun e=>{e with val:=v}) clock),?_⟩
 ·
  simp only [Instr.entryStore,Sem.run_bind,Result.andThen_ok,MapKept.run_getObj_map hm,asInt,asIntOf,Sem.run_pure,Vc,MapKept.run_setObj_map _ hm]
 have hyk:y.key=enc k:=by
  have:=congrArg (fun x=>x[j']?) he
  grind
 have Hk:(es.modify j' fun e=>{e with val:=v}).toList.map (fun e=>(e.key,e.val))=(l.set j' (k,v)).map (fun p=>(enc p.1,p.2))∧(es.modify j' fun e=>{e with val:=v}).toList.map (·.born)=es.toList.map (·.born):=by
  constructor
  ·
   apply List.ext_getElem?
   intro i;have hi:=congrArg (fun x=>x[i]?) he
   grind
  apply List.ext_getElem?
  grind
 refine⟨_,_,by first | (simp [yY];done) | (simp [yY];exact⟨rfl,rfl⟩),by rw [h4];exact Hk.1,iM hn k v,?_,by rw [Hk.2];exact Hj⟩;intro x hx
 have:x.born∈(es.modify j' fun e=>{e with val:=v}).toList.map (·.born):=List.mem_map.2 ⟨x,hx,rfl⟩
 grind
variable {n:Nat}{kv:KV}{K:KV→World→Prop}{d:Tmp}{ty:TypeId}{pos:String}{af:Array Edge}{g:Option (Nat × Bool)}{T e:TypeId}
theorem OX.mapEntry{zv v:Value}{k:κ}(hK:KK P kt enc) (hT:P.underlying T=some (.map kt e)) (hz:∀w,(zeroValue e).run P w=.ok zv w) (hb:KM enc w b l) (hv:(cq l k).getD zv=v) {x y:Operand}(hx:ev kv x=some (.map (some b))) (hy:ev kv y=some (enc k)) (hd:Nat.blt d n=true)
  (h:∀(z:Int) w',bm [b] w w'→XN enc w' b (dH l k v) k z→K ((d,.tuple #[v,.int .i64 z])::kv) w'):OX P ⟨some d,.mapEntry T x y,ty,pos,af,g⟩ n kv w K:=by
 obtain⟨z,w',hr,h1,h2⟩:=Fw hK hT hz hb k;rw [hv] at hr h2;refine⟨rfl,hd,by simp [known,opers,hx,hy],?_⟩
 have jD:(execOp (mw kv) ⟨some d,.mapEntry T x y,ty,pos,af,g⟩).run P w=.ok (.value (.tuple #[v,.int .i64 z])) w':=by
  simp only [execOp,aN hx,aN hy,Sem.run_bind,hr,Result.andThen_ok];rfl
 rw [jD];exact h z _ h1 h2
theorem OX.entryStore{k:κ}{z:Int}{v:Value}(hb:XN enc w b l k z) {x y u:Operand}(hx:ev kv x=some (.map (some b))) (hy:ev kv y=some (.int .i64 z)) (hu:ev kv u=some v)
  (h:∀w',bm [b] w w'→KM enc w' b (dH l k v)→K kv w'):OX P ⟨none,.entryStore T x y u,ty,pos,af,g⟩ n kv w K:=by
 obtain⟨w',hr,h1,h2⟩:=Bj (P:=P) (T:=T) hb v;refine⟨rfl,rfl,by simp [known,opers,hx,hy,hu],?_⟩
 have jD:(execOp (mw kv) ⟨none,.entryStore T x y u,ty,pos,af,g⟩).run P w=.ok .skip w':=by
  simp only [execOp,aN hx,aN hy,aN hu,Sem.run_bind,hr,Result.andThen_ok];rfl
 rw [jD];exact h _ h1 h2
end
section
variable {κ:Type}{enc:κ→Value}{w0 w w':World}{M Z:Nat→Prop}{L:List As}{b:Nat}{l l':List (κ × Value)}{k:κ}{z:Int}
theorem St.ac0(h:St w0 M Z w (As.map enc b l::L)) (s:bm [b] w w') (hm:XN enc w' b l' k z):St w0 M Z w' (As.Kz enc b l' k z::L):=h.oL (s.p.mono fun x _ hx=>by simpa [As.map] using hx) hm fun x hx=>.inl hx
theorem St.ac1(h:St w0 M Z w (As.Kz enc b l k z::L)) (s:bm [b] w w') (hm:KM enc w' b l'):St w0 M Z w' (As.map enc b l'::L):=h.oL (s.p.mono fun x _ hx=>by simpa [As.Kz] using hx) hm fun x hx=>.inl hx
end
/-! ### a map to owned slices -/
def mL(L:List RE) (k:Key):Option RE:=L.find? fun e=>decide (e.key=k)
def kV(L:List RE) (k:Key):List Key:=((mL L k).map (·.reads)).getD []
def zh(L:List RE) (ml:List (Key × Value)):Prop:=∀k,cq ml k=(mL L k).map fun e=>Value.slice e.a e.n e.c
def vE(bg:Key→List Key) (x y:Key):Key→List Key:=fun z=>if z=x then bg z++[y] else bg z
def rest(L:List RE) (x:Key):List RE:=L.filter fun e=>decide (e.key≠x)
section
variable {L:List RE}{ml:List (Key × Value)}{x y:Key}{e:RE}{a:Option Addr}{n c:Nat}{v:Value}
theorem Ej(h:mL L x=some e):e∈L∧e.key=x:=by grind [mL]
theorem zh.nil:zh [] []:=fun _=>rfl
theorem xB(ys:List Key) (z:Key):mL (⟨x,a,n,c,ys⟩::rest L x) z=if z=x then some ⟨x,a,n,c,ys⟩ else mL L z:=by
 unfold mL rest
 grind
theorem zh.put(h:zh L ml) (ys:List Key):zh (⟨x,a,n,c,ys⟩::rest L x) (dH (dH ml x v) x (.slice a n c)):=fun z=>by
 rw [eR,xB]
 by_cases e:x=z
 ·
  subst e
  simp
 rw [if_neg e,if_neg fun h=>e h.symm,eR,if_neg e];exact h z
theorem P6(z:Key):kV (⟨x,a,n,c,kV L x++[y]⟩::rest L x) z=vE (kV L) x y z:=by
 unfold vE
 by_cases h:z=x
 ·
  subst h;rw [if_pos rfl]
  show((mL _ z).map _).getD []=_
  rw [xB,if_pos rfl]
  rfl
 rw [if_neg h]
 show((mL _ z).map _).getD []=((mL L z).map _).getD []
 rw [xB,if_neg h]
theorem Ti:kV (⟨x,a,n,c,kV L x++[y]⟩::rest L x)=vE (kV L) x y:=funext P6
theorem KA(h:(L.map (·.key)).Nodup) (ys:List Key):(((⟨x,a,n,c,ys⟩:RE)::rest L x).map (·.key)).Nodup:=by
 rw [List.map_cons,List.nodup_cons];refine⟨fun h2=>?_,((List.filter_sublist (l:=L)).map (·.key)).nodup h⟩;obtain⟨e,he,h3⟩:=List.mem_map.1 h2
 have:=(List.mem_filter.1 he).2
 simp at this
 exact this h3
theorem Ek:∀{L:List RE},(L.map (·.key)).Nodup→mL L x=some e→L.Perm (e::rest L x)
 | [],_,h=>by cases h
 | q::L,hn,h=>by
  rw [List.map_cons,List.nodup_cons] at hn
  unfold mL at h
  by_cases hq:q.key=x
  ·
   rw [List.find?_cons_of_pos (by simpa using hq)] at h
   cases h
   have:rest (e::L) x=L:=by
    unfold rest
    simp_all
   rw [this]
  rw [List.find?_cons_of_neg (by simpa using hq)] at h
  have h2:rest (q::L) x=q::rest L x:=by
   unfold rest
   grind
  rw [h2];exact((Ek hn.2 h).cons q).trans (.swap _ _ _)
variable {w0 w:World}{M Z:Nat→Prop}{l:List As}{EK:Nat}
theorem St.ac2(hn:(L.map (·.key)).Nodup) (hm:zh L ml) (x:Key) (h:St w0 M Z w (As.many (L.map (RE.as EK))::l)):∃(a:Option Addr) (n c:Nat),(cq ml x).getD (.slice none 0 0)=.slice a n c∧St w0 M Z w (As.os RR.key EK 2 a n c (kV L x)::As.many ((rest L x).map (RE.as EK))::l):=by
 cases hf:mL L x with
 | none=>
  refine⟨none,0,0,by rw [hm x,hf];rfl,?_⟩
  have e1:kV L x=[]:=by unfold kV;rw [hf];rfl
  have e2:rest L x=L:=by
   unfold rest
   rw [List.filter_eq_self];intro e he
   have:=List.find?_eq_none.1 hf e he
   simpa using this
  rw [e1,e2];exact h.fc _ _ _
 | some e=>
  refine⟨e.a,e.n,e.c,by rw [hm x,hf];rfl,?_⟩
  have e1:kV L x=e.reads:=by unfold kV;rw [hf];rfl
  rw [e1];exact(St.acJ ((Ek hn hf).map (RE.as EK)) h).S7
theorem St.aju{ys:List Key}(h:St w0 M Z w (As.os RR.key EK 2 a n c ys::As.many ((rest L x).map (RE.as EK))::l)):St w0 M Z w (As.many (((⟨x,a,n,c,ys⟩:RE)::rest L x).map (RE.as EK))::l):=h.XC
def FBK(L:List RE):FZ where
 p Z w:=∀e∈L,Rd RR.key 2 Z w e.a e.n e.c e.reads
 mono hZ h:=fun e he=>(h e he).mono hZ
 st hs hc h:=fun e he=>(h e he).st hs hc
theorem St.bkF(hl:∀e∈L,e.reads.length≤140737488355328) (h:St w0 M Z w (As.many (L.map (RE.as EK))::l)):St w0 M (fun x=>Z x∨(As.many (L.map (RE.as EK))).fp x) w (As.fz (FBK L)::l):=by
 have hm:(As.many (L.map (RE.as EK))).ok Z w:=h.ok _ M0
 refine h.freeze (B:=As.fz (FBK L)) (fun e he=>?_) fun x hx=>hx
 have h3:Ow RR.key EK 2 Z w e.a e.n e.c e.reads:=As.gs (hm.2 _ (List.mem_map_of_mem (f:=RE.as EK) he))
 exact(h3.rd (hl e he)).mono fun x hx=>hx.imp id fun hx=>⟨_,List.mem_map_of_mem (f:=RE.as EK) he,hx⟩
theorem zh.read(hm:zh L ml) (hf:(FBK L).p Z w) (x:Key):∃(a:Option Addr) (n c:Nat),(cq ml x).getD (.slice none 0 0)=.slice a n c∧Rd RR.key 2 Z w a n c (kV L x):=by
 cases hx:mL L x with
 | none=>
  refine⟨none,0,0,by rw [hm x,hx];rfl,?_⟩
  grind [kV,Rd.nil]
 | some e=>
  refine⟨e.a,e.n,e.c,by rw [hm x,hx];rfl,?_⟩
  have e1:kV L x=e.reads:=by unfold kV;rw [hx];rfl
  rw [e1];exact hf e (Ej hx).1
theorem P7(hn:(L.map (·.key)).Nodup) (he:e∈L):kV L e.key=e.reads:=by
 have:mL L e.key=some e:=by
  cases hf:mL L e.key with
  | none=>
   have:=List.find?_eq_none.1 hf e he
   simp at this
  | some q=>
   obtain⟨h1,h2⟩:=Ej hf;obtain⟨i,hi⟩:=List.mem_iff_getElem?.1 h1;obtain⟨j,hj⟩:=List.mem_iff_getElem?.1 he
   have g1:(L.map (·.key))[i]?=some e.key:=by grind
   have g2:(L.map (·.key))[j]?=some e.key:=by rw [List.getElem?_map,hj];rfl
   grind [Bg]
 unfold kV
 rw [this]
 rfl
end
/-! ### a search there and back -/
section
variable {l:List Rec}{rev:Int}{k:Key}{bg:Key→List Key}{L:List Key}{i q:Nat}{x y:Key}
structure zj (l:List Rec) (rev:Int) (k:Key) (bg:Key→List Key) (L:List Key) (i q:Nat):Prop where
 ou:L.Nodup
 mem:k∈L
 sub:∀x∈L,x=k∨cM l rev k x
 cl:∀j y,j<i→L[j]?=some y→∀x,Ld l rev y x→x∈L∧y∈bg x
 cur:∀y,L[i]?=some y→∀x∈(aG l y).reads.take q,cY l rev x=true→x∈L∧y∈bg x
 bk:∀x y,y∈bg x→y∈L∧Ld l rev y x
 len:∀x,(bg x).length≤4000*i+q
theorem zj.start(h:∀x,bg x=[]):zj l rev k bg [k] 0 0:=
 ⟨by simp,by simp,by simp,fun j y h=>by omega,fun y _ x hx=>by simp at hx,fun x y hy=>(by rw [h] at hy;cases hy),fun x=>by rw [h];simp⟩
theorem zj.op(h:zj l rev k bg L i q) (ho:cY l rev k=true) (hx:x∈L):cY l rev x=true:=by
 rcases h.sub x hx with rfl | h1
 ·
  exact ho
 exact h1.jh
theorem zj.le(h:zj l rev k bg L i q) (ho:cY l rev k=true):L.length≤l.length:=by
 have:=j0 h.ou fun x hx=>rU (h.op ho hx)
 simpa using this
theorem zj.skip(h:zj l rev k bg L i q) (hy:L[i]?=some y) (hx:(aG l y).reads[q]?=some x) (gh:cY l rev x=false):zj l rev k bg L i (q+1):=
 {h with
  cur:=fun y' xC x' NL ho=>by
   rw [hy] at xC
   cases xC
   rcases r7 hx NL with h1 | rfl
   ·
    exact h.cur y hy x' h1 ho
   rw [gh] at ho;cases ho
  len:=fun x=>by have:=h.len x;omega}
theorem vF{z u:Key}(h:u∈bg z):u∈vE bg x y z:=by grind [vE]
theorem El:y∈vE bg x y x:=by unfold vE;simp
theorem Bk{z u:Key}(h:u∈vE bg x y z):u∈bg z∨(z=x∧u=y):=by grind [vE]
theorem H3(z:Key):(vE bg x y z).length≤(bg z).length+1:=by
 unfold vE
 split <;> simp
theorem zj.wT(h:zj l rev k bg L i q) (hy:L[i]?=some y) (hx:(aG l y).reads[q]?=some x) (ho:cY l rev x=true) (hm:x∈L):zj l rev k (vE bg x y) L i (q+1):=
 {h with
  cl:=fun j y' hj xC x' hl=>⟨(h.cl j y' hj xC x' hl).1,vF (h.cl j y' hj xC x' hl).2⟩
  cur:=fun y' xC x' NL JC=>by
   rw [hy] at xC
   cases xC
   rcases r7 hx NL with h1 | rfl
   ·
    have:=h.cur y hy x' h1 JC
    grind [vF]
   exact⟨hm,El⟩
  bk:=fun z u hu=>by
   rcases Bk hu with h1 | ⟨rfl,rfl⟩
   ·
    exact h.bk z u h1
   exact⟨List.mem_of_getElem? hy,List.mem_of_getElem? hx,ho⟩
  len:=fun z=>by have:=h.len z;grind [H3]}
theorem zj.new(h:zj l rev k bg L i q) (hy:L[i]?=some y) (hx:(aG l y).reads[q]?=some x) (ho:cY l rev x=true) (hm:x∉L):zj l rev k (vE bg x y) (L++[x]) i (q+1):=by
 have zI:i<L.length:=(List.getElem?_eq_some_iff.1 hy).1;have U9:Ld l rev y x:=⟨List.mem_of_getElem? hx,ho⟩
 have wT:∀{j z},j≤i→(L++[x])[j]?=some z→L[j]?=some z:=fun hj h2=>by grind
 refine⟨by grind [ou],by simp [h.mem],fun z hz=>?_,fun j y' hj xC x' hl=>?_,fun y' xC x' NL JC=>?_,fun z u hu=>?_,fun z=>?_⟩
 ·
  rcases List.mem_append.1 hz with hz | hz
  ·
   exact h.sub z hz
  rw [List.mem_singleton] at hz;subst hz
  rcases h.sub y (List.mem_of_getElem? hy) with rfl | h1
  ·
   exact .inr (.one U9)
  exact .inr (.step h1 U9)
 ·
  have h1:=h.cl j y' hj (wT (by omega) xC) x' hl
  grind [vF]
 ·
  have NN:=wT (Nat.le_refl _) xC;rw [hy] at NN
  cases NN
  rcases r7 hx NL with h1 | rfl
  ·
   have:=h.cur y hy x' h1 JC
   grind [vF]
  exact⟨by simp,El⟩
 ·
  rcases Bk hu with h1 | ⟨rfl,rfl⟩
  ·
   have:=h.bk z u h1
   grind
  grind
 have:=h.len z
 grind [H3]
theorem zj.next(h:zj l rev k bg L i q) (hy:L[i]?=some y) (hq:(aG l y).reads.length≤q) (h4:q≤4000):zj l rev k bg L (i+1) 0:=
 {h with
  cl:=fun j y' hj xC x' hl=>by
   rcases Nat.lt_or_ge j i with h1 | h1
   ·
    exact h.cl j y' h1 xC x' hl
   have e:j=i:=by omega
   subst e;rw [hy] at xC
   cases xC
   exact h.cur y hy x' (by rw [List.take_of_length_le hq];exact hl.1) hl.2
  cur:=fun _ _ x hx=>by simp at hx
  len:=fun x=>by have:=h.len x;omega}
theorem zj.done(h:zj l rev k bg L i q) (hi:L.length≤i) (x:Key):x∈L↔x=k∨cM l rev k x:=by
 have u6:∀y∈L,∀x,Ld l rev y x→x∈L∧y∈bg x:=fun y hy x hl=>by
  obtain⟨j,hj⟩:=List.mem_iff_getElem?.1 hy
  have:=(List.getElem?_eq_some_iff.1 hj).1
  exact h.cl j y (by omega) hj x hl
 refine⟨h.sub x,?_⟩;rintro(rfl | h1)
 ·
  exact h.mem
 induction h1 with
 | one h1=>exact(u6 _ h.mem _ h1).1
 | step _ h2 ih=>exact(u6 _ ih _ h2).1
theorem zj.ajw(h:zj l rev k bg L i q) (hi:L.length≤i) (x y:Key):y∈bg x↔(y=k∨cM l rev k y)∧Ld l rev y x:=by
 rw [← h.done hi y];refine⟨h.bk x y,fun⟨h1,h2⟩=>?_⟩;obtain⟨j,hj⟩:=List.mem_iff_getElem?.1 h1
 have:=(List.getElem?_eq_some_iff.1 hj).1
 exact(h.cl j y (by omega) hj x h2).2
structure Em (l:List Rec) (rev:Int) (k:Key) (bg:Key→List Key) (L:List Key) (i q:Nat):Prop where
 ou:L.Nodup
 mem:k∈L
 sub:∀x∈L,x=k∨Ef l rev k x
 cl:∀j y,j<i→L[j]?=some y→∀x∈bg y,x∈L
 cur:∀y,L[i]?=some y→∀x∈(bg y).take q,x∈L
theorem Em.start:Em l rev k bg [k] 0 0:=⟨by simp,by simp,by simp,fun j y h=>by omega,fun y _ x hx=>by simp at hx⟩
theorem Em.le(h:Em l rev k bg L i q) (ho:cY l rev k=true):L.length≤l.length:=by
 have:=j0 h.ou fun x hx=>rU (l:=l) (rev:=rev) (by
  rcases h.sub x hx with rfl | h1
  ·
   exact ho
  exact h1.jh)
 simpa using this
theorem Em.has(h:Em l rev k bg L i q) (hy:L[i]?=some y) (hx:(bg y)[q]?=some x) (hm:x∈L):Em l rev k bg L i (q+1):=
 {h with
  cur:=fun y' xC x' NL=>by
   rw [hy] at xC
   cases xC
   rcases r7 hx NL with h1 | rfl
   ·
    exact h.cur y hy x' h1
   exact hm}
theorem Em.add(h:Em l rev k bg L i q) (W5:∀x y,y∈bg x↔(y=k∨cM l rev k y)∧Ld l rev y x) (hy:L[i]?=some y) (hx:(bg y)[q]?=some x) (hm:x∉L):Em l rev k bg (L++[x]) i (q+1):=by
 have zI:i<L.length:=(List.getElem?_eq_some_iff.1 hy).1;obtain⟨h1,h2⟩:=(W5 y x).1 (List.mem_of_getElem? hx)
 have hkx:cM l rev k x:=by grind [mem]
 have hxk:cM l rev x k:=by
  rcases h.sub y (List.mem_of_getElem? hy) with rfl | h3
  ·
   exact .one h2
  exact(cM.one h2).trans h3.2
 have wT:∀{j z},j≤i→(L++[x])[j]?=some z→L[j]?=some z:=fun hj h2=>by grind
 refine⟨by grind [ou],by simp [h.mem],fun z hz=>?_,fun j y' hj xC x' NL=>by simp [h.cl j y' hj (wT (by omega) xC) x' NL],fun y' xC x' NL=>?_⟩
 ·
  rcases List.mem_append.1 hz with hz | hz
  ·
   exact h.sub z hz
  rw [List.mem_singleton] at hz;subst hz;exact .inr ⟨hkx,hxk⟩
 have NN:=wT (Nat.le_refl _) xC;rw [hy] at NN
 cases NN
 rcases r7 hx NL with h3 | rfl
 ·
  simp [h.cur y hy x' h3]
 simp
theorem Em.next(h:Em l rev k bg L i q) (hy:L[i]?=some y) (hq:(bg y).length≤q):Em l rev k bg L (i+1) 0:=
 {h with
  cl:=fun j y' hj xC x' NL=>by
   rcases Nat.lt_or_ge j i with h1 | h1
   ·
    exact h.cl j y' h1 xC x' NL
   have e:j=i:=by omega
   subst e;rw [hy] at xC
   cases xC
   exact h.cur y hy x' (by grind [List.take_of_length_le])
  cur:=fun _ _ x hx=>by simp at hx}
theorem Em.done(h:Em l rev k bg L i q) (ho:cY l rev k=true) (W5:∀x y,y∈bg x↔(y=k∨cM l rev k y)∧Ld l rev y x) (hi:L.length≤i) (x:Key):x∈L↔x∈aF l rev k:=by
 have u6:∀y∈L,∀x∈bg y,x∈L:=fun y hy x hx=>by
  obtain⟨j,hj⟩:=List.mem_iff_getElem?.1 hy
  have:=(List.getElem?_eq_some_iff.1 hj).1
  exact h.cl j y (by omega) hj x hx
 rw [dM]
 constructor
 ·
  intro hx
  exact(h.sub x hx).imp id fun h1=>⟨ho,h1⟩
 rintro(rfl | ⟨_,h1,h2⟩)
 ·
  exact h.mem
 have key:∀{x y:Key},cM l rev x y→(x=k∨cM l rev k x)→y∈L→x∈L:=by
  intro x y h2 h1
  induction h2 with
  | one h3=>grind
  | step h3 h4 ih=>
   refine fun hy=>ih (u6 _ hy _ ((W5 _ _).2 ⟨.inr ?_,h4⟩))
   rcases h1 with rfl | h1
   ·
    exact h3
   exact h1.trans h3
 exact key h2 (.inr h1) h.mem
theorem Em.group(h:Em l rev k bg L i q) (ho:cY l rev k=true) (W5:∀x y,y∈bg x↔(y=k∨cM l rev k y)∧Ld l rev y x) (hi:L.length≤i) {L':List Key}(hs:XE L') (hp:L'.Perm L):L'=aF l rev k:=
 Ko hs (xy _ _ _) fun x=>(hp.mem_iff).trans (h.done ho W5 hi x)
end
/-! ### what has changed, and why a key would be run -/
section
variable {val:Key→ByteArray}{x:dT}{k:Key}{r:Rec}
theorem XP(hi:aB k=true):bT val x k=(dX x.ah k).changed:=by unfold bT;rw [if_pos hi]
theorem XQ(hi:aB k=false) (h:aD x.ao k=none):bT val x k=x.ae:=by grind [bT]
theorem XR(hi:aB k=false) (h:aD x.ao k=some r) (hv:r.az=x.ae):bT val x k=r.changed:=by grind [bT,bY]
theorem Ms(hi:aB k=false) (h:aD x.ao k=some r) (hv:¬r.az=x.ae):bT val x k=if val k=r.value then r.changed else x.ae:=by
 unfold bT
 rw [hi,bY h,h]
 grind
def OP(val:Key→ByteArray) (x:dT) (c:tI):Bool:=decide ((aG x.ao c.ft).az<bT val x c.read)
noncomputable def mb(val:Key→ByteArray) (x:dT) (k:Key):Int × Key:=
 if (aB k || aK x k)=true then (0,fW)
 else match aD x.ao k with
  | none=>(1,fW)
  | some r=>if r.ct=true then (3,fW) else
   match (cC x.ao (aF x.ao x.ae k)).find? (OP val x) with
   | none=>(0,fW)
   | some c=>(if c.ft=k then 2 else 3,c.read)
def vG(p:Int × Key):List Value:=[.int .i64 p.1,.int .i64 p.2.kind,.string p.2.text]
theorem P8(h:(aB k || aK x k)=true):mb val x k=(0,fW):=by unfold mb;rw [if_pos h]
theorem KB(h:(aB k || aK x k)=false) (hf:aD x.ao k=none):mb val x k=(1,fW):=by unfold mb;rw [if_neg (by rw [h];simp),hf]
theorem En(h:(aB k || aK x k)=false) (hf:aD x.ao k=some r) (hd:r.ct=true):mb val x k=(3,fW):=by
 unfold mb
 grind
theorem H4(h:(aB k || aK x k)=false) (hf:aD x.ao k=some r) (hd:r.ct=false) (hn:∀j c,j<(cC x.ao (aF x.ao x.ae k)).length→(cC x.ao (aF x.ao x.ae k))[j]?=some c→OP val x c=false):mb val x k=(0,fW):=by
 unfold mb
 rw [if_neg (by rw [h];simp),hf]
 simp only
 rw [if_neg (by rw [hd];simp),rQ (Nat.le_refl _) hn]
theorem Tj(h:(aB k || aK x k)=false) (hf:aD x.ao k=some r) (hd:r.ct=false) {q:Nat}{c:tI}(hc:(cC x.ao (aF x.ao x.ae k))[q]?=some c) (hn:∀j c,j<q→(cC x.ao (aF x.ao x.ae k))[j]?=some c→OP val x c=false) (hq:OP val x c=true):mb val x k=(if c.ft=k then 2 else 3,c.read):=by
 obtain⟨h1,rfl⟩:=List.getElem?_eq_some_iff.1 hc
 unfold mb
 rw [if_neg (by rw [h];simp),hf]
 simp only
 rw [if_neg (by rw [hd];simp),kx h1 hn hq]
def KR(ab:List aJ) (l:List Rec):Prop:=∀r∈l,gH ab r.key∧aB r.key=false∧∀a∈r.reads,gH ab a
theorem KR.ajy{ab:List aJ}{l:List Rec}(h:KR ab l):∀r∈l,gY r.key:=fun r hr=>(h r hr).1.gY
theorem KR.aH{ab:List aJ}{l:List Rec}(h:KR ab l) (hi:aB k=true):aD l k=none:=by
 cases hf:aD l k with
 | none=>rfl
 | some r=>
  obtain⟨h1,h2⟩:=bq hf
  have:=(h r h1).2.1
  grind
theorem Tk{l:List Rec}{rev:Int}(hf:aD l k=some r):∀m∈aF l rev k,∃q,aD l m=some q:=fun m hm=>by
 rcases dM.1 hm with rfl | ⟨_,h⟩
 ·
  exact⟨r,hf⟩
 obtain⟨q,hq,_⟩:=cN.1 h.jh;exact⟨q,hq⟩
theorem NQ{l:List Rec}(hr:∀r∈l,r.reads.length≤4000) {group:List Key}(hg:group.length≤4001) (i:Nat):((group.take i).flatMap fun m=>eB group m (aG l m).reads).length≤100000000:=by
 have h1:∀s:List Key,(s.flatMap fun m=>eB group m (aG l m).reads).length≤s.length*4000:=by
  intro s
  induction s with
  | nil=>simp
  | cons m s ih=>
   simp only [List.flatMap_cons,List.length_append,List.length_cons];have h2:=mV group m (aG l m).reads
   have h3:(aG l m).reads.length≤4000:=by
    cases hf:aD l m with
    | none=>grind [aG,qN]
    | some r=>grind [bY,bq]
   rw [Nat.add_mul]
   omega
 grind
end
end Go.Rc

namespace Go.Rc
open Go
theorem sa(n:dE):∀l:List dE,(ji n l false).find? (fun x=>x.key == n.key)=some n
 | []=>by simp [ji]
 | x::xs=>by
  by_cases h:0≤cE x.key n.key
  ·
   simp [ji,h]
  have h0:¬cE x.key n.key=0:=by omega
  have ku:(x.key == n.key)=false:=by
   rw [beq_eq_false_iff_ne];intro e;rw [e,jc] at h0;exact h0 rfl
  have:=sa n xs
  simp [ji,h,h0,ku,this]
theorem Bl(n:dE) (l:List dE):dX (ji n l false) n.key=n:=by grind [dX,sa]
structure ApR (x:dT) (l:List Change) (y:dT):Prop where
 same:∀k,(∀c∈l,c.key≠k)→dX y.ah k=dX x.ah k
 how:(y.ae=x.ae∧y.ah=x.ah)∨(y.ae=x.ae+1∧∀k,dX y.ah k=dX x.ah k∨(dX y.ah k).changed=x.ae+1)
theorem ApR.refl(x:dT) (l:List Change):ApR x l x:=⟨fun _ _=>rfl,.inl ⟨rfl,rfl⟩⟩
theorem Tl{rev:Int}{l li:List dE}(h:∀k,dX li k=dX l k∨(dX li k).changed=rev) (n:dE) (hn:n.changed=rev) (k:Key):dX (ji n li false) k=dX l k∨(dX (ji n li false) k).changed=rev:=by
 by_cases e:n.key=k
 ·
  grind [Bl]
 rw [D8 e];exact h k
/-! ### tasks -/
section
variable {ab:List aJ}{H:Int→List dE}{x b:dT}{cy:List Key}{k:Key}
theorem TI.begin(hR:ay ab) (h:TI ab H x b [] cy) (hk:gH ab k) (hn:gG b [] k=true):TI ab H x b [⟨k,false,0,[],[]⟩] cy:=by
 have ku:¬(aB k=true∨lq [] k=true∨aK b k=true):=fun h=>by grind [uA]
 have h1:aB k=false:=by grind
 have h2:aK b k=false:=by grind
 obtain⟨m,hm,Xv,_⟩:=hk.j7 h1;refine⟨h.bi.Vp fun y hy=>?_,h.wy,?_,fun f hf=>?_⟩
 ·
  simp [lq] at hy
 ·
  have:=TI.snoc (ab:=ab) (H:=H) (b0:=x) (b:=b) (p:=[]) (f:=⟨k,false,0,[],[]⟩) (fun p1 g q hp=>by cases p1 <;> cases hp) ⟨⟨m,hm,Xv⟩,rfl,fun i j _ _ _ ho=>(by simp [lq] at ho),fun hc=>(by cases hc),fun _=>⟨rfl,rfl,Int.le_refl _,fun _ j c hj=>(by simp at hj)⟩⟩
  exact this
 rw [List.mem_singleton] at hf;subst hf;refine⟨fun hr=>?_,h.wy.Bc h2⟩
 have:=h.wy.Tf k hr
 grind
def TO(ab:List aJ) (x:dT) (t:xx):Prop:=∃H:Int→List dE,TI ab H x t.base t.stack t.cy
theorem TO.of{t:xx}(h:Bh ab t.base) (hs:t.stack=[]) (hr:t.cy=[]):TO ab t.base t:=by
 obtain⟨H,h⟩:=h;refine⟨H,?_⟩;rw [hs,hr];exact⟨h.Vp fun k hk=>(by cases hk),Wy.start _,fun p f q hp=>(by cases p <;> cases hp),fun f hf=>(by cases hf)⟩
theorem Tm{aH:List dE}{rev:Int}(hb:BK ab aH rev b) (hnu:aK b k=false) (hd:(!(aD b.ao k).isSome || (aG b.ao k).ct)=false):Live b.ao b.ae k:=by
 cases hf:aD b.ao k with
 | none=>rw [hf] at hd;cases hd
 | some r=>
  rw [hf,bY hf] at hd;have hv:r.az≤b.ae:=(hb.zd.v r (bq hf).1).2
  have ku:r.az≠b.ae:=fun e=>by grind [cU]
  exact⟨r,hf,by simpa using hd,by omega⟩
theorem TO.begin{t:xx}(hR:ay ab) (h:TO ab x t) (hs:t.stack=[]) (hk:gH ab k) (hn:gG t.base [] k=true) (g:List Key):TO ab x {t with goals:=g,stack:=[⟨k,false,0,[],[]⟩]}:=by
 obtain⟨H,h⟩:=h;rw [hs] at h;exact⟨H,h.begin hR hk hn⟩
theorem TO.goals{t:xx}(h:TO ab x t) (g:List Key):TO ab x {t with goals:=g}:=h
theorem TO.P9{t:xx}{b':dT}{l':List eH}{rk:List Key}{er:Int}(hR:ay ab) (h:TO ab x t) (hg:Good ab x.ah ⟨t.base,[],[],0⟩) (hfs:∃p f,p++[f]=t.stack∧FS ab (valOf ab x.ah) t.base p f b' l' rk er):er=0∧TO ab x {t with base:=b',stack:=l',cy:=t.cy++rk}:=by
 obtain⟨H,h⟩:=h;obtain⟨p,f,hp,hfs⟩:=hfs;rw [← hp] at h;obtain⟨h1,h2⟩:=Kv hR h hg hfs;exact⟨h1,H,h2⟩
/-! ### cancelled tasks -/
def gI(l:List eH) (rs:List Rec):List Rec:=l.foldl (fun rs f=>if aC f.key then jK rs f.key else rs) rs
theorem vH(l:List eH) (f:eH) (rs:List Rec):gI (l++[f]) rs=if aC f.key then jK (gI l rs) f.key else gI l rs:=by grind [gI]
theorem KC(rs:List Rec) (k:Key):(jK rs k).Sublist rs:=by grind [jK,List.filter_sublist]
theorem se:∀(l:List eH) (rs:List Rec),(gI l rs).Sublist rs∧∀r,r∈gI l rs↔r∈rs∧(lq l r.key && aC r.key)=false
 | [],rs=>⟨List.Sublist.refl _,fun r=>by simp [gI,lq]⟩
 | f::l,rs=>by
  have e:gI (f::l) rs=gI l (if aC f.key then jK rs f.key else rs):=rfl;obtain⟨h1,h2⟩:=se l (if aC f.key then jK rs f.key else rs);rw [e];refine⟨h1.trans ?_,fun r=>?_⟩
  ·
   grind [KC]
  rw [h2 r]
  have ho:lq (f::l) r.key=(decide (f.key=r.key) || lq l r.key):=by simp [lq]
  rw [ho]
  by_cases hc:aC f.key=true
  ·
   rw [if_pos hc]
   unfold jK
   grind
  grind
theorem TO.cancel{t:xx}(h:TO ab x t):Bh ab ⟨t.base.ae,t.base.ah,gI t.stack t.base.ao⟩∧(∀y∈t.cy,aK ⟨t.base.ae,t.base.ah,gI t.stack t.base.ao⟩ y=true)∧(∀y,aK x y=true→aK ⟨t.base.ae,t.base.ah,gI t.stack t.base.ao⟩ y=true)∧(∀y∈t.cy,aB y=false∧aK x y=false)∧t.cy.Nodup:=by
 obtain⟨H,h⟩:=h;obtain⟨h1,h2⟩:=se t.stack t.base.ao
 have hb:=h.bi.drop h1 fun r hr=>((h2 r).1 hr).2
 have bF:qj (gI t.stack t.base.ao):=hb.st
 have lz:∀y,aK t.base y=true→lq t.stack y=false→aK ⟨t.base.ae,t.base.ah,gI t.stack t.base.ao⟩ y=true:=fun y hu hn=>by
  obtain⟨r,hr,hv⟩:=cU.1 hu;obtain⟨g1,g2⟩:=bq hr
  grind [cU,ia]
 have Nw:∀y,(∀f∈t.stack,f.key≠y)→lq t.stack y=false:=fun y hy=>by grind [lq]
 refine⟨⟨H,hb⟩,fun y hy=>lz y (h.wy.Tf y hy) (Nw y fun f hf e=>?_),fun y hy=>lz y ?_ (Nw y fun f hf e=>?_),fun y hy=>⟨(h.wy.cy y hy).1,(h.wy.cy y hy).2.1⟩,h.wy.ou⟩
 ·
  rw [← e] at hy;exact(h.nr f hf).1 hy
 ·
  have:=h.wy.ev
  have h4:t.base.ae=x.ae:=h.wy.rev;exact this.aK h4 hy
 have:=(h.nr f hf).2
 rw [e,hy] at this
 cases this
/-! ### bases of the mill -/
structure LC (ab:List aJ) (x:dT):Prop where
 lb:LB ab x
 bh:Bh ab x
theorem LC.apply(h:LC ab x) {y:dT}{l:List Change}(ha:ApR x l y) (hr:y.ao=x.ao) (h0:x.ae≤y.ae) (h1:y.ae≤1073741824) (hG:l9 y.ae y.ah) (h6:y.ah.length≤64):LC ab y:=by
 refine⟨h.lb.apply hr h0 h1 hG h6,?_⟩
 rcases ha.how with⟨e1,e2⟩ | ⟨e1,e2⟩
 ·
  obtain⟨yr,yi,yc⟩:=y;simp only at hr e1 e2;subst hr e1 e2;exact h.bh
 exact h.bh.apply hr e1 fun k=>by rw [e1];exact e2 k
theorem LC.sub(h:LC ab x) {rs:List Rec}(hs:rs.Sublist x.ao):LC ab ⟨x.ae,x.ah,rs⟩:=⟨h.lb.sub hs,h.bh.drop hs⟩
theorem LC.task{t:xx}(h:LC ab x) (hb:BK ab x.ah x.ae t.base) (ht:TO ab x t):LC ab ⟨t.base.ae,t.base.ah,gI t.stack t.base.ao⟩:=⟨h.lb.task hb (se _ _).1,ht.cancel.1⟩
theorem LC.req(hR:ay ab) (h:LC ab x) {goals:List Key}(hg:∀k∈goals,qb ab k) (h32:goals.length≤32):∃(f:Nat) (s':ES),iD ab x goals=0∧Good ab x.ah ⟨x,[],[],0⟩∧(∀k∈goals,gH ab k)∧eW ab (valOf ab x.ah) f ⟨x,[],[],0⟩ goals=some s'∧s'.cy.length≤1000000∧LC ab (s'.base x)∧(s'.base x).ae=x.ae∧s'.e=0∧s'.base x=s'.b∧Wy ab x s'∧(∀k∈goals,aB k=false→aK s'.b k=true)∧∀r∈s'.b.ao,r.az=s'.b.ae→r.value=valOf ab x.ah r.key:=by
 obtain⟨f,s',h1,h2,h3,h4,h5,h6,h7⟩:=h.lb.req hR hg h32;obtain⟨g1,g2,g3,g4,g5,g6⟩:=h.bh.request hR h2 h3 h4
 have e:s'.base x=s'.b:=by unfold ES.base;rw [if_pos g1]
 exact⟨f,s',h1,h2,h3,h4,h5,⟨h6,by rw [e];exact g2⟩,h7,g1,e,g3,g5,g6⟩
theorem LC.nil(ab:List aJ) (y:dT) (hr:y.ao=[]) (h0:0≤y.ae) (h1:y.ae≤1073741824) (hG:l9 y.ae y.ah) (h6:y.ah.length≤64):LC ab y:=by
 refine⟨LB.nil y hr h0 h1 hG h6,?_⟩;obtain⟨yr,yi,yc⟩:=y
 grind [Bh.new]
end
/-! ### reasons -/
section
variable {ab:List aJ}{x y:dT}{k:Key}{s:ES}
theorem Tn{val:Key→ByteArray}:(mb val x k).1≠0↔PZ val x k:=by
 unfold PZ
 cases j8:aB k || aK x k with
 | true=>
  rw [P8 j8]
  grind
 | false=>
  have ac4:=j8;rw [Bool.or_eq_false_iff] at j8
  cases hf:aD x.ao k with
  | none=>
   rw [KB ac4 hf]
   grind
  | some r=>
   cases hd:r.ct with
   | true=>grind [En,bY]
   | false=>
    by_cases cx:∀c∈cC x.ao (aF x.ao x.ae k),OP val x c=false
    ·
     rw [H4 ac4 hf hd fun j c _ hc=>cx c (List.mem_of_getElem? hc)];refine⟨fun h=>absurd rfl h,?_⟩;rintro⟨_,_,h | h | ⟨m,a,h1,h2,h3,h4⟩⟩
     ·
      cases h
     ·
      grind [bY]
     have:=cx ⟨m,a⟩ (eS.2 ⟨h1,h2,h3⟩)
     grind [OP]
    have hex:∃c,c∈cC x.ao (aF x.ao x.ae k)∧OP val x c=true:=Classical.byContradiction fun hn=>cx fun c hc=>by grind
    have hw:(mb val x k).1≠0:=by
     unfold mb
     grind
    refine⟨fun _=>⟨j8.1,j8.2,.inr (.inr ?_)⟩,fun _=>hw⟩;obtain⟨c,hc,hcd⟩:=hex;obtain⟨h1,h2,h3⟩:=eS.1 hc;exact⟨c.ft,c.read,h1,h2,h3,by unfold OP at hcd;exact of_decide_eq_true hcd⟩
def strip(r:Rec):Rec:={r with az:=0,ct:=false}
def jI(l:List Rec) (cy:List Key):List Rec:=l.filter fun r=>!decide (r.key∈cy)
theorem Mt{f:Rec→Rec}(hf:∀r,(f r).key=r.key):∀{l l':List Rec},qj l→qj l'→(∀y,(aD l y).map f=(aD l' y).map f)→l.map f=l'.map f
 | [],[],_,_,_=>rfl
 | [],r::l',_,h',h=>by
  have h1:=h r.key;rw [ia h' (List.mem_cons_self ..)] at h1
  cases h1
 | r::l,[],hs,_,h=>by
  have h1:=h r.key;rw [ia hs (List.mem_cons_self ..)] at h1
  cases h1
 | r::l,r'::l',hs,LW,h=>by
  obtain⟨h1,h2⟩:=List.pairwise_cons.1 hs;obtain⟨h3,h4⟩:=List.pairwise_cons.1 LW
  have hk:r.key=r'.key:=by
   have a1:=h r.key;rw [ia hs (List.mem_cons_self ..)] at a1;obtain⟨q,hq,eq⟩:=Option.map_eq_some_iff.1 a1.symm;have a2:=h r'.key;rw [ia LW (List.mem_cons_self ..)] at a2;obtain⟨p,hp,ep⟩:=Option.map_eq_some_iff.1 a2
   grind [bq,qm]
  have hh:=h r.key;rw [ia hs (List.mem_cons_self ..),hk,ia LW (List.mem_cons_self ..)] at hh;have he:f r=f r':=Option.some.inj hh;rw [List.map_cons,List.map_cons,he]
  congr 1
  refine Mt hf h2 h4 fun y=>?_
  by_cases hy:y=r.key
  ·
   have n1:aD l y=none:=by grind [aD,jc]
   grind [aD,jc]
  have:=h y
  unfold aD at this ⊢
  grind
theorem vI{l:List Rec}{cy:List Key}(y:Key):aD (jI l cy) y=if y∈cy then none else aD l y:=by
 unfold aD jI
 grind
theorem yy{l:List Rec}{cy:List Key}(h:qj l):qj (jI l cy):=h.sublist List.filter_sublist
theorem Wy.sound(h:Wy ab x s) (h1:qj x.ao) (h2:qj s.b.ao) {cy:List Key}(hr:∀y,y∈cy↔y∈s.cy):(∀y∈cy,(mb (valOf ab x.ah) x y).1≠0)∧(jI x.ao cy).map strip=(jI s.b.ao cy).map strip:=by
 refine⟨fun y hy=>Tn.2 (h.cy y ((hr y).1 hy)),Mt (f:=strip) (fun _=>rfl) (yy h1) (yy h2) fun y=>?_⟩;rw [vI,vI]
 by_cases hy:y∈cy
 ·
  rw [if_pos hy,if_pos hy]
 rw [if_neg hy,if_neg hy]
 rcases h.ev.pt y with e | ⟨_,r,e1,e2,e3,e4 | e4⟩ | ⟨⟨e1,_⟩,_⟩
 ·
  rw [e]
 ·
  rw [e1,e4];rfl
 ·
  rw [e1,e4];rfl
 exact absurd ((hr y).2 e1) hy
end
end Go.Rc

namespace Go.Rc
open Go
instance:Inhabited Key:=⟨fW⟩
theorem NR{w w':World}(h:bm [] w w'):∃q os,w'=Sort.grow (w.drewN q) os:=by
 refine⟨w'.drawn - w.drawn,w'.heap.extract w.heap.size w'.heap.size,?_⟩;obtain⟨ho,ht,hu,hs,hd,hb⟩:=h
 have hh:w'.heap=w.heap++w'.heap.extract w.heap.size w'.heap.size:=by grind
 have OQ:w'.drawn=w.drawn+(w'.drawn - w.drawn):=by omega
 generalize w'.heap.extract w.heap.size w'.heap.size=os at hh
 generalize w'.drawn - w.drawn=q at OQ
 cases w'
 cases w
 simp only at ho ht hu hh OQ;subst ho ht hu hh OQ
 rfl
theorem To:Sort.SWO (Proofs.ltOf cE):=by
 refine⟨fun x=>?_,fun x y z h1 h2=>?_,fun x y z h1 h2=>?_⟩
 ·
  grind [Proofs.ltOf,jc]
 ·
  unfold Proofs.ltOf at *
  rw [decide_eq_true_eq] at *;exact kh h1 h2
 grind [Proofs.ltOf,lO,kh,qi]
theorem te(l:List Key) (t:Nat) (ht:t<l.length*2):(l.map Key.cells).flatten[t]?=some ((Key.cells (l.toArray[t / 2]!))[t % 2]!):=by
 have hi:t / 2<l.length:=by omega
 have hr:(l.map Key.cells)[t / 2]?=some l[t / 2].cells:=by grind
 have e:t=t / 2*2+t % 2:=by omega
 have h1:(l.toArray[t / 2]!)=l[t / 2]:=by simp [hi]
 rw [h1]
 have h:=oy (l.map Key.cells) 2 (t / 2) _ (fun r hr=>by obtain⟨x,_,rfl⟩:=List.mem_map.1 hr;rfl) hr (t % 2) ((Key.cells l[t / 2])[t % 2]!) (by
  have h2:t % 2=0∨t % 2=1:=by omega
  rcases h2 with h2 | h2 <;> rw [h2] <;> rfl)
 rw [← e] at h;exact h
theorem KD{w:World}{b E:Nat}{cur:Array Value}{l:List Key}(hb:w.heap[b]?=some (.cells cur E (0,0))) (ht:cur.toList.take (l.length*2)=(l.map Key.cells).flatten):Sort.HoldsK Key.cells 2 w b 0 l.toArray:=by
 unfold Sort.HoldsK
 intro j hj;rw [Sort.size_flatK,List.size_toArray] at hj;have h1:=te l j hj;rw [← ht,List.getElem?_take,if_pos hj,Array.getElem?_toList] at h1;refine⟨?_,?_⟩
 ·
  unfold World.cell?
  simp only [hb,Nat.zero_add]
  grind [Sort.get_flatK]
 grind [World.frozen?]
theorem Qa{w:World}{b E m:Nat}{os:Array Obj}{cur:Array Value}{l l':List Key}(hb:w.heap[b]?=some (.cells cur E (0,0))) (ht:cur.toList.take (l.length*2)=(l.map Key.cells).flatten) (hl:l'.length=l.length):∃uf:Array Value,(Proofs.sortWorldK Key.cells 2 w b 0 m l'.toArray os).heap[b]?=some (.cells uf E (0,0))∧uf.size=cur.size∧uf.toList.take (l'.length*2)=(l'.map Key.cells).flatten:=by
 have ee:b<w.heap.size:=(Array.getElem?_eq_some_iff.1 hb).1;refine⟨Sort.putCells id 0 (Sort.flatK Key.cells 2 l'.toArray) cur,?_,by unfold Sort.putCells;simp,?_⟩
 ·
  unfold Proofs.sortWorldK
  rw [Sort.heap_grow_old _ _ (by grind [Sort.putRowK,Sort.putRow,Sort.mapBlock,Sort.ahead])]
  unfold Sort.putRowK Sort.putRow Sort.mapBlock Sort.ahead
  simp only [Array.getElem?_modify,if_true,hb]
  rfl
 have hlen:l.length*2≤cur.size:=by
  have h1:=congrArg List.length ht
  have h2:(l.map Key.cells).flatten.length=l.length*2:=by
   have h3:=te l
   clear h1 ht hl hb ee
   induction l with
   | nil=>rfl
   | cons x r ih=>grind [te,Key.cells]
  grind
 apply List.ext_getElem?
 intro t
 by_cases h:t<l'.length*2
 ·
  rw [te l' t h,List.getElem?_take,if_pos h,Array.getElem?_toList]
  unfold Sort.putCells
  rw [Array.getElem?_mapIdx,Array.getElem?_eq_getElem (by omega),Option.map_some];rw [if_pos ⟨Nat.zero_le _,by simp_all⟩,Nat.sub_zero,Sort.get_flatK _ _ _ _ (by rw [List.size_toArray];exact h)]
  rfl
 rw [List.getElem?_eq_none (by rw [List.length_take];omega)]
 have h2:∀l:List Key,(l.map Key.cells).flatten.length=l.length*2:=fun l=>by
  induction l with
  | nil=>rfl
  | cons x r ih=>grind [Key.cells]
 grind
theorem Qb{w:World}{b m:Nat}{os:Array Obj}{d:Array Key}:bm [b] w (Proofs.sortWorldK Key.cells 2 w b 0 m d os):=by
 refine⟨rfl,rfl,rfl,?_,?_,fun k hk hn=>?_⟩
 ·
  unfold Proofs.sortWorldK Sort.grow Sort.putRowK Sort.putRow Sort.mapBlock Sort.ahead
  simp
 ·
  exact Nat.le_add_right _ _
 unfold Proofs.sortWorldK
 rw [Sort.heap_grow_old _ _ (by grind [Sort.putRowK,Sort.putRow,Sort.mapBlock,Sort.ahead])]
 unfold Sort.putRowK Sort.putRow Sort.mapBlock Sort.ahead
 grind
theorem NS{P:Program}{F g E:Nat}(ac5:∀(blk cap:Nat) (d:Array Key) (w:World),Proofs.CmpLays P g #[] Key.cells 2 cE blk 0 d.size w→Sort.HoldsK Key.cells 2 w blk 0 d→blk<w.heap.size→d.size<4611686018427387904→Calls P F #[.slice (some ⟨blk,0,none⟩) d.size cap,.func (.func g) #[] #[]] w fun e w'=>e=.returned (.tuple #[])∧∃d' n os,Sort.PermIn 0 d.size d d'∧Sort.SortedIn (Proofs.ltOf cE) 0 d.size d'∧w'=Proofs.sortWorldK Key.cells 2 w blk 0 n d' os)
  (hcmp:∀(x y:Key) (w:World),Calls P g #[x.val,y.val] w fun e w'=>e=.returned (.int .i64 (cE x y))∧bm [] w w')
  {l:List Key}{a:Option Addr}{n c:Nat}{w:World}{M Z:Nat→Prop}(bF:St w M Z w [As.os RR.key E 2 a n c l]) (h0:l≠[]) (hn:l.length≤1000000):Calls P F #[.slice a n c,.func (.func g) #[] #[]] w fun e w'=>e=.returned (.tuple #[])∧∃l',l'.Perm l∧(l'.Pairwise fun x y=>¬cE y x<0)∧St w M Z w' [As.os RR.key E 2 a n c l']:=by
 have ho:=As.gs bF.g0;obtain⟨l8,rows,J5,hrk,Vs,hrr⟩:=id ho
 have ac6:rows=l.map Key.cells:=by
  apply List.ext_getElem?
  intro i;rw [List.getElem?_map]
  by_cases hi:i<l.length
  ·
   rw [List.getElem?_eq_getElem (by omega),List.getElem?_eq_getElem hi]
   have:=hrr i l[i] rows[i] (List.getElem?_eq_getElem hi) (List.getElem?_eq_getElem (by omega))
   rw [RR.cL this]
   rfl
  grind
 rcases Vs.cases with⟨h1,h2,_⟩ | ⟨b,cur,rfl,NT,hb,hnc,W4,Vb,ht⟩
 ·
  grind
 rw [ac6,l8] at ht;have LZ:b<w.heap.size:=(Array.getElem?_eq_some_iff.1 hb).1
 have hc:Proofs.CmpLays P g #[] Key.cells 2 cE b 0 l.toArray.size w:=fun m os dk _ x y=>(hcmp x y _).mono fun e w' ⟨h1,h2⟩=>⟨h1,NR h2⟩
 have hs:=ac5 b c l.toArray w hc (KD hb ht) LZ (by rw [List.size_toArray];omega);rw [List.size_toArray,← l8] at hs;refine hs.mono ?_;rintro e w' ⟨rfl,d',m,os,⟨SM,_,hd3⟩,hd4,rfl⟩;rw [l8] at hd3 hd4
 have SM:d'.size=l.length:=by rw [SM,List.size_toArray]
 have hd5:d'.toList.Perm l:=by grind [Array.extract_size]
 obtain⟨l',rfl⟩:∃l':List Key,d'=l'.toArray:=⟨d'.toList,by simp⟩
 have hl:l'.length=l.length:=by simpa using SM
 simp only at hd5;obtain⟨uf,g1,g2,g3⟩:=Qa (m:=m) (os:=os) hb ht hl;refine⟨rfl,l',hd5,?_,?_⟩
 ·
  rw [List.pairwise_iff_getElem];intro i j hi hj hij;have h1:=hd4 i j (Nat.zero_le _) hij (by omega)
  grind [Proofs.ltOf]
 refine bF.iY (w':=Proofs.sortWorldK Key.cells 2 w b 0 m l'.toArray os) (Qb.mono fun x hx=>by simpa [aO] using hx) ?_ (fun x hx=>.inl hx);refine⟨by omega,l'.map Key.cells,by simp,fun r hr=>by grind,?_,fun i x r hx hr=>?_⟩
 ·
  refine⟨fun u hu=>?_,?_,.inr ⟨b,c,uf,rfl,Nat.zero_le _,g1,hnc,W4,by rw [g2];exact Vb,by grind⟩⟩
  ·
   obtain⟨r,hr,hu⟩:=List.mem_flatten.1 hu;obtain⟨x,_,rfl⟩:=List.mem_map.1 hr
   simp [Key.cells] at hu
   rcases hu with rfl | rfl <;> rfl
  grind
 rw [List.getElem?_map,hx] at hr
 cases hr
 rfl
end Go.Rc

namespace Go.Rc
open Go
theorem je.ac7{M:Nat→Prop}{S:List Nat}{w w':World}(h:je M w w') (hM:∀x,M x→x∈S∨w.heap.size≤x):bm S w w':=
 ⟨h.os,h.tape,h.output,h.size,h.drawn,fun k hk hn=>h.block k hk fun hm=>by grind⟩
theorem St.XS{w0 w:World}{M Z:Nat→Prop}{A B:As}{l:List As}(h:St w0 M Z w (A::B::l)):∀x,A.fp x→¬B.fp x:=(List.pairwise_cons.1 h.wN).1 B M0
theorem Calls.ajA{P:Program}{f:FuncId}{r s:Value}{w:World}{Q:Ending→World→Prop}(h:Calls P f #[r,s] w Q):Calls P f (#[]++[r,s].toArray++#[]) w Q:=by grind
theorem C1{us:List Value}(ac8:0<us.length) (h1:∀v∈us,v.oneCell'=true) (m:Nat):∀v∈(Builtin.zeroCells us.toArray m).toList,v.oneCell'=true:=fun v hv=>by grind [Builtin.zeroCells,Nat.mod_lt]
section
variable {w0 w:World}{M Z:Nat→Prop}{l:List As}
theorem St.g16{A0 A1 A2 A3 A4 A5 A6 A7 A8 A9 lD mR pw sU wO CD HT:As}(h:St w0 M Z w (A0::A1::A2::A3::A4::A5::A6::A7::A8::A9::lD::mR::pw::sU::wO::CD::HT::l)):HT.ok Z w:=h.ok _ (by simp)
theorem St.g20{A0 A1 A2 A3 A4 A5 A6 A7 A8 A9 lD mR pw sU wO CD HT Mi NU OS Tp:As}(h:St w0 M Z w (A0::A1::A2::A3::A4::A5::A6::A7::A8::A9::lD::mR::pw::sU::wO::CD::HT::Mi::NU::OS::Tp::l)):Tp.ok Z w:=h.ok _ (by simp)
theorem St.p19{A0 A1 A2 A3 A4 A5 A6 A7 A8 A9 lD mR pw sU wO CD HT Mi NU OS:As}(h:St w0 M Z w (A0::A1::A2::A3::A4::A5::A6::A7::A8::A9::lD::mR::pw::sU::wO::CD::HT::Mi::NU::OS::l)):St w0 M Z w (OS::A0::A1::A2::A3::A4::A5::A6::A7::A8::A9::lD::mR::pw::sU::wO::CD::HT::Mi::NU::l):=h.perm (List.perm_middle (l₁:=[A0,A1,A2,A3,A4,A5,A6,A7,A8,A9,lD,mR,pw,sU,wO,CD,HT,Mi,NU])).symm
theorem St.p20{A0 A1 A2 A3 A4 A5 A6 A7 A8 A9 lD mR pw sU wO CD HT Mi NU OS Tp:As}(h:St w0 M Z w (A0::A1::A2::A3::A4::A5::A6::A7::A8::A9::lD::mR::pw::sU::wO::CD::HT::Mi::NU::OS::Tp::l)):St w0 M Z w (Tp::A0::A1::A2::A3::A4::A5::A6::A7::A8::A9::lD::mR::pw::sU::wO::CD::HT::Mi::NU::OS::l):=h.perm (List.perm_middle (l₁:=[A0,A1,A2,A3,A4,A5,A6,A7,A8,A9,lD,mR,pw,sU,wO,CD,HT,Mi,NU,OS])).symm
theorem St.p21{A0 A1 A2 A3 A4 A5 A6 A7 A8 A9 lD mR pw sU wO CD HT Mi NU OS Tp A21:As}(h:St w0 M Z w (A0::A1::A2::A3::A4::A5::A6::A7::A8::A9::lD::mR::pw::sU::wO::CD::HT::Mi::NU::OS::Tp::A21::l)):St w0 M Z w (A21::A0::A1::A2::A3::A4::A5::A6::A7::A8::A9::lD::mR::pw::sU::wO::CD::HT::Mi::NU::OS::Tp::l):=h.perm (List.perm_middle (l₁:=[A0,A1,A2,A3,A4,A5,A6,A7,A8,A9,lD,mR,pw,sU,wO,CD,HT,Mi,NU,OS,Tp])).symm
end
section
variable {α:Type}{R:RR α}{P:Program}{E k n c b i:Nat}{a:Option Addr}{xs:List α}{Z:Nat→Prop}{w:World}
variable {N:Nat}{kv:KV}{K:KV→World→Prop}{ty:TypeId}{pos:String}{af:Array Edge}{g:Option (Nat × Bool)}{T:TypeId}
theorem OX.ajB{x:Operand}{e:TypeId}{z:Value}{us:List Value}(hT:P.underlying T=some (.slice e)) (hv:∀w,(zeroValue e).run P w=.ok z w) (hz:z.cells=us.toArray) (hlen:us.length=k) (hk:0<k) (h1:us.all (·.oneCell')=true)
  (h:Ow R E k Z w a n c xs) (ha:a=some ⟨b,0,none⟩) (hi:i≤n) (hx:ev kv x=some (.slice (kS a i k c) (n - i) (c - i)))
  (hK:∀w',bm (aO a) w w'→OR 0 w' E k (R.r Z w) a i c (xs.take i)→K kv w'):OX P ⟨none,.call {callee:=.builtin .clear,args:=#[x],argTypes:=#[T]},ty,pos,af,g⟩ N kv w K:=by
 obtain⟨hn,rows,hl,JR,ho,hRR⟩:=h;have h1':∀v∈us,v.oneCell'=true:=fun v hv=>List.all_eq_true.1 h1 v hv;have hfl:rows.flatten.length=n*k:=ho.2.1;have hft:(rows.take i).flatten=rows.flatten.take (i*k):=vk rows k i JR (by omega)
 rcases ho.cases with⟨h2,_⟩ | ⟨b',cur,h2,h3,h4,h5,h6,h7,h8⟩
 ·
  rw [ha] at h2;cases h2
 rw [ha] at h2;simp only [Option.some.injEq,Addr.mk.injEq,and_true] at h2;subst h2;subst ha;have hmul:i*k≤n*k:=Nat.mul_le_mul_right _ hi;have acf:n*k≤c*k:=Nat.mul_le_mul_right _ h5
 have u6:cur.toList.length=c*k:=by simp [h7]
 have rest:∀cs:List Value,cs.length=c*k→cs.take (i*k)=cur.toList.take (i*k)→∀w':World,w'.heap[b]?=some (.cells cs.toArray E (0,0))→OR 0 w' E k (R.r Z w) (some ⟨b,0,none⟩) i c (xs.take i):=fun cs Vb Mu w' hw'=>by
  refine⟨by rw [List.length_take];omega,rows.take i,by grind,fun r hr=>JR r (List.mem_of_mem_take hr),⟨fun v hv=>?_,?_,.inr ⟨b,c,cs.toArray,rfl,h3,hw',by omega,h6,by simpa using Vb,?_⟩⟩,fun j y r hy hr=>?_⟩
  ·
   rw [hft] at hv;exact ho.1 v (List.mem_of_mem_take hv)
  ·
   grind
  ·
   grind
  grind
 by_cases rG:n=i
 ·
  have hr:(Builtin.clear_ #[T] ty #[.slice (kS (some ⟨b,0,none⟩) i k c) (n - i) (c - i)]).run P w=.ok (.tuple #[]) w:=by
   obtain⟨ad,had⟩:∃ad,kS (some ⟨b,0,none⟩) i k c=some ad:=by unfold kS;split <;> exact⟨_,rfl⟩
   have h0:n - i=0:=by omega
   rw [had,h0]
   simp [Builtin.clear_,run_underlying hT]
  refine⟨rfl,rfl,by simp [known,opers,hx],?_⟩;simp only [execOp,resolve,invoke,builtin,Sem.run_bind,Sem.run_pure,Result.andThen_ok,List.map_toArray,List.map_cons,List.map_nil,aN hx,hr];exact hK _ ((bm.refl [] w).mono (by simp)) (rest cur.toList u6 rfl w (by simpa using h4))
 have hda:kS (some (⟨b,0,none⟩:Addr)) i k c=some ⟨b,i*k,none⟩:=by
  unfold kS
  grind
 have hzl:(Builtin.zeroCells us.toArray (n - i)).toList.length=(n - i)*k:=by simp [Builtin.zeroCells,hlen]
 have jQ:(n - i)*k=n*k - i*k:=Nat.sub_mul _ _ _;have hs:=Go.run_storeCells_at (P:=P) b (i*k) E (Builtin.zeroCells us.toArray (n - i)).toList 0 cur w h4 (by rw [hzl];simp at u6;omega) (C1 (by omega) h1' (n - i));rw [Nat.add_zero] at hs
 have hr:(Builtin.clear_ #[T] ty #[.slice (kS (some ⟨b,0,none⟩) i k c) (n - i) (c - i)]).run P w=.ok (.tuple #[]) (w.setRow b (cur.toList.take (i*k)++(Builtin.zeroCells us.toArray (n - i)).toList++cur.toList.drop (i*k+(Builtin.zeroCells us.toArray (n - i)).toList.length)).toArray):=by
  rw [hda];obtain⟨m,hm⟩:∃m,n - i=m+1:=⟨n - i - 1,by omega⟩;rw [hm] at hs ⊢
  simp [Builtin.clear_,run_underlying hT,hv w,hz,hs]
 refine⟨rfl,rfl,by simp [known,opers,hx],?_⟩;simp only [execOp,resolve,invoke,builtin,Sem.run_bind,Sem.run_pure,Result.andThen_ok,List.map_toArray,List.map_cons,List.map_nil,aN hx,hr]
 have hb:cI w b E cur.toList:=by simpa [cI] using h4
 refine hK _ ((nz _ _ _).mono (by simp [aO])) (rest _ ?_ ?_ _ (setRow_heap w b _ _ E _ hb))
 ·
  grind
 grind
end
theorem PV.Tq{P:Program}{T E k n c b i:Nat}{a:Option Addr}{kv:KV}{w:World}{ty:TypeId}(hT:CC P T E k) {x y:Operand}(ha:a=some ⟨b,0,none⟩) (hi:i≤c) (hx:ev kv x=some (.slice a n c)) (hy:ev kv y=some (.int .i64 (i:Int))):PV P (.slice T x none (some y) none) ty kv w (.slice a i c):=by
 refine⟨rfl,by simp [known,opers,hx,hy],fun _ _ _ _=>?_⟩;simp only [execOp,aN hx,aN hy,Option.map_none,Option.map_some,Sem.run_bind,Ae (a:=a) (n:=n) hT hi (fun z hz=>by rw [ha] at hz;cases hz;rfl),Result.andThen_ok];rfl
structure Dl (p:Rec→Bool) (xs Se:List Rec) (i j:Nat):Prop where
 len:Se.length=xs.length
 ij:i≤j
 jl:j≤xs.length
 pre:Se.take i=(xs.take j).filter fun x=>!p x
 suf:∀q,j≤q→Se[q]?=xs[q]?
section
variable {p:Rec→Bool}{xs Se:List Rec}{i j:Nat}{x:Rec}
theorem Dl.start(gh:∀(q:Nat) y,q<i→xs[q]?=some y→p y=false) (hi:xs[i]?=some x) (hp:p x=true):Dl p xs xs i (i+1):=by
 have zI:=(List.getElem?_eq_some_iff.1 hi).1;refine⟨rfl,by omega,by omega,?_,fun q _=>rfl⟩;obtain⟨_,rfl⟩:=List.getElem?_eq_some_iff.1 hi;rw [List.take_succ_eq_append_getElem zI,List.filter_append,List.filter_eq_self.2]
 ·
  simp [hp]
 grind [List.mem_iff_getElem?]
theorem Dl.skip(h:Dl p xs Se i j) (hj:xs[j]?=some x) (hp:p x=true):Dl p xs Se i (j+1):=by
 obtain⟨mB,rfl⟩:=List.getElem?_eq_some_iff.1 hj;refine⟨h.len,by have:=h.ij;omega,by omega,?_,fun q hq=>h.suf q (by omega)⟩
 grind [pre,List.take_succ_eq_append_getElem]
theorem Dl.lz(h:Dl p xs Se i j) (hj:xs[j]?=some x) (hp:p x=false):Dl p xs (Se.set i x) (i+1) (j+1):=by
 obtain⟨mB,rfl⟩:=List.getElem?_eq_some_iff.1 hj;have h1:=h.ij;have h2:=h.len;refine⟨by rw [List.length_set];exact h.len,by omega,by omega,?_,fun q hq=>?_⟩
 ·
  rw [List.take_succ_eq_append_getElem mB,List.filter_append,← h.pre,List.take_succ_eq_append_getElem (by rw [List.length_set];omega),List.getElem_set_self]
  congr 1
  ·
   rw [List.take_set_of_le (Nat.le_refl _)]
  simp [hp]
 rw [List.getElem?_set_ne (by omega)];exact h.suf q (by omega)
theorem Dl.done(h:Dl p xs Se i j) (hj:xs.length≤j):Se.take i=xs.filter fun x=>!p x:=by rw [h.pre,List.take_of_length_le hj]
end
theorem pD(x y:Rec):decide (strip x=strip y)=(decide (x.key=y.key) && (decide (x.value=y.value) && (decide (x.reads=y.reads) && (decide (x.changed=y.changed) && decide (x.cost=y.cost))))):=by
 rw [Bool.eq_iff_iff];simp only [decide_eq_true_eq,Bool.and_eq_true]
 grind [strip]
theorem KF{l1 l2:List Rec}{i:Nat}(h:(l1.take i).map strip=(l2.take i).map strip) (h1:i<l1.length) (h2:i<l2.length) (he:strip l1[i]=strip l2[i]):(l1.take (i+1)).map strip=(l2.take (i+1)).map strip:=by grind [List.take_succ_eq_append_getElem]
noncomputable def uB(ab:List aJ) (x y:dT) (cy:List Key):Bool:=cy.all (fun k=>decide ((mb (valOf ab x.ah) x k).1≠0)) && decide ((jI x.ao cy).map strip=(jI y.ao cy).map strip)
noncomputable def lR(ab:List aJ) (x:dT) (k:Key):Bool:=iC x k && decide (mK x k=valOf ab x.ah k)
theorem jM.kr{ab:List aJ}{x:dT}(h:jM ab x):KR ab x.ao:=fun r hr=>by
 obtain⟨h1,h2,h3,_⟩:=h.2.2.2.2.2.1 r hr;exact⟨h1,h2,h3⟩
theorem jM.r4{ab:List aJ}{x:dT}(h:jM ab x):∀r∈x.ao,r.reads.length≤4000:=fun r hr=>by
 obtain⟨_,_,_,h4⟩:=h.2.2.2.2.2.1 r hr
 grind [ez]
section
variable {ab:List aJ}{x:dT}{s:ES}
theorem H5(gk:s.b.ah=x.ah) {k:Key}(hu:aB k=false→aK s.b k=true) (hv:∀r∈s.b.ao,r.az=s.b.ae→r.value=valOf ab x.ah r.key):lR ab s.b k=true:=by
 unfold lR mK
 cases hi:aB k with
 | true=>
  have h1:iC s.b k=true:=by unfold iC;rw [hi];rfl
  rw [h1,if_pos rfl]
  have:valOf ab s.b.ah k=(dX s.b.ah k).value:=by unfold valOf cellOf;rw [if_pos hi]
  rw [this]
  simp
 | false=>
  have hu:=hu hi
  have h1:iC s.b k=true:=by grind [iC,aK]
  obtain⟨r,hr,S8⟩:=cU.1 hu;obtain⟨g1,g2⟩:=bq hr;rw [h1,if_neg (by simp),if_pos rfl,bY hr,hv r g1 S8,g2,gk]
  simp
end
section
variable {ab:List aJ}{x y:dT}{s:ES}{kp:List (List Key)}{l:List Key}
theorem Bm(h:kp.flatten.Nodup) (hl:l.Nodup) (hu:∀k∈kp.flatten,aK x k=true) (hn:∀k∈l,aK x k=false):(kp++[l]).flatten.Nodup:=by grind
theorem Qc(h:∀k∈kp.flatten,aK y k=true) (hl:∀k∈l,aK y k=true):∀k∈(kp++[l]).flatten,aK y k=true:=fun k hk=>by grind
theorem H6(l:List Key):(jZ l).Nodup:=(HY l).imp fun {a b} h e=>by rw [e,jc] at h;omega
theorem Wy.aK(h:Wy ab x s) {k:Key}(hu:Rc.aK x k=true):Rc.aK s.b k=true:=h.ev.aK h.rev hu
theorem H7(h:Wy ab x s) (h1:qj x.ao) (h2:qj s.b.ao):uB ab x s.b (jZ s.cy)=true:=by
 obtain⟨g1,g2⟩:=h.sound h1 h2 (cy:=jZ s.cy) fun y=>nt _ _
 unfold uB
 grind
end
end Go.Rc

namespace Go.Rc
open Go
def r3:aJ:=⟨false,[],1,3⟩
abbrev K0:Key:=⟨31,itoa ((0:Nat):Int)⟩
abbrev v3:ByteArray:=itoa 3
theorem XT:∀y∈[r3],S1 y:=fun y hy=>by simp at hy;subst hy;exact⟨rfl,rfl,rfl,by decide,by decide⟩
theorem oC:ay [r3]:=by
 refine⟨by simp,fun i r h=>?_⟩
 have hi:i=0:=by grind
 subst hi
 simp at h;subst h
 exact⟨by simp [r3],fun k x hx=>by simp [r3] at hx,rfl⟩
theorem yz:aS [r3] ((0:Nat):Int)=K0:=S1.key (by simp) (by omega) (XT _ (by simp))
theorem Qd:gH [r3] K0:=by rw [← yz];exact .gx (by simp) (by omega)
theorem Mv:lE ⟨0,[],[]⟩:=⟨fun i y h=>by simp at h,fun i r h=>by simp at h,by decide,by decide,by simp,by simp,fun i x h=>by simp at h⟩
theorem KG:number K0=((0:Nat):Int):=by rw [← yz];exact dK (by simp) (by omega)
theorem Qe:jR [r3] K0=true:=by grind [yz,jR,ig,KG]
theorem XU:iD [r3] ⟨0,[],[]⟩ [K0]=0:=by
 unfold iD
 rw [if_neg (fun h=>h oC),if_neg (fun h=>h Mv),if_neg (by simp),if_pos (by simp [Qe])]
theorem ac9{ab:List aJ}:Good ab [] ⟨⟨0,[],[]⟩,[],[],0⟩:=⟨rfl,by simp,by simp,by simp,by simp,fun k=>.inl rfl⟩
abbrev s1:ES:=⟨⟨0,[],[iP 0 v3]⟩,[],[K0],0⟩
theorem Vt:bf [r3] K0 []=⟨true,v3,fW⟩:=by
 unfold bf
 rw [if_pos (.inl rfl)];rw [sT (i:=0) KG (by simp) (by rw [KG];exact yz) (by simp [r3])]
 rfl
theorem ajD(val:Key→ByteArray):eW [r3] val 2 ⟨⟨0,[],[]⟩,[],[],0⟩ [K0]=some s1:=by
 have hi:aB K0=false:=rfl;have hp:gW [] (ek ⟨0,[],[]⟩ K0 v3 [])=[iP 0 v3]:=rfl
 grind [eW,oB,dL,jr,Vt,aK,aD,ES.on,cq,dH,kQ]
end Go.Rc
namespace Go.Rc
open Go
abbrev v4:ByteArray:=⟨#[52]⟩
theorem Vu:v3=⟨#[51]⟩:=by
 simp [v3,itoa,Lib.itoa,Lib.decDigits]
theorem Tr:v3.size≤1000:=by rw [Vu];decide
theorem v34:v3≠v4:=by rw [Vu];decide
theorem Ts:s1.base ⟨0,[],[]⟩=⟨0,[],[iP 0 v3]⟩:=rfl
theorem Tt:s1.list=[K0]:=rfl
end Go.Rc

namespace Go.Rc
open Go
def RR.OQ:RR (Option Addr × Nat × Nat):=RR.flat fun h=>[.slice h.1 h.2.1 h.2.2]
def JL(hp:List (Option Addr × Nat × Nat)) (kp:List (List Key)):FZ:=
 ⟨fun Z w=>hp.length=kp.length∧∀(j:Nat) h k,hp[j]?=some h→kp[j]?=some k→Rd RR.key 2 Z w h.1 h.2.1 h.2.2 k,fun hZ h=>⟨h.1,fun j x k h1 h2=>(h.2 j x k h1 h2).mono hZ⟩,fun hs hc h=>⟨h.1,fun j x k h1 h2=>(h.2 j x k h1 h2).st hs hc⟩⟩
theorem JL.nil(Z:Nat→Prop) (w:World):(JL [] []).p Z w:=⟨rfl,fun j h k hj=>by simp at hj⟩
theorem JL.snoc{Z:Nat→Prop}{w:World}{hp:List (Option Addr × Nat × Nat)}{kp:List (List Key)}{a:Option Addr}{n c:Nat}{ks:List Key}(h:(JL hp kp).p Z w) (hk:Rd RR.key 2 Z w a n c ks):(JL (hp++[(a,n,c)]) (kp++[ks])).p Z w:=by
 refine⟨by simp [h.1],fun j x k h1 h2=>?_⟩
 rcases Nat.lt_or_ge j hp.length with hj | hj
 ·
  rw [List.getElem?_append_left hj] at h1;rw [List.getElem?_append_left (by rw [← h.1];exact hj)] at h2;exact h.2 j x k h1 h2
 rw [List.getElem?_append_right hj] at h1;rw [List.getElem?_append_right (by rw [← h.1];exact hj),← h.1] at h2
 grind
theorem JL.ksl{Z:Nat→Prop}{w:World}{hp:List (Option Addr × Nat × Nat)}{kp:List (List Key)}{a:Option Addr}{n c:Nat}(h:(JL hp kp).p Z w) (hr:Rd RR.OQ 1 Z w a n c hp):Ksl Z Z w a n kp:=by
 have hl:=SR.lr hr;refine⟨hl.len.trans h.1,hl.le,fun {i x} hx=>?_⟩
 have hi:i<hp.length:=by rw [h.1];grind
 obtain⟨b,o,r,h1,h2,h3,h4,h5,h6⟩:=hl.at_ (aq hi);exact⟨b,o,r,h1,h2,⟨_,_,_,h3,SR.lr (h.2 i _ _ (aq hi) hx)⟩,h4,h5,h6⟩
section
variable {P:Program}{kv:KV}{w:World}{T U ty:TypeId}{x y:Operand}
end
end Go.Rc
namespace Go.Rc
open Go
end Go.Rc

namespace Go.Rc
open Go
theorem Tu:valOf [r3] [] K0=v3:=by
 have h:=jz (aH:=[]) oC (i:=0) (by simp);rw [show dY [r3] 0=0 from rfl] at h;simp only [gy] at h;rw [yz] at h;have t:=Vt
 unfold bf at t
 grind
theorem Qf:jS [r3] [] 0 0=iP 0 v3:=by
 unfold jS dD
 rw [show dY [r3] 0=0 from rfl];simp only [gy];rw [yz,Tu]
 rfl
theorem ar3:r5 [r3] ⟨0,[],[iP 0 v3]⟩:=fun r hr=>⟨0,by simp,by rw [List.mem_singleton.1 hr];exact Qf.symm⟩
theorem gb3:jM [r3] ⟨0,[],[iP 0 v3]⟩:=by
 have NV:(⟨31,itoa ((0:Nat):Int)⟩:Key).kind=31:=rfl;have hv:fi (iP 0 v3)=true:=(ez _).2 ⟨fun a ha=>(by cases ha),Qd.valid,rfl,by have:=Tr;show((v3.size:Nat):Int)≤_;omega,by show((0:Nat):Int)≤4000;omega,Int.le_refl _,Int.le_refl _,by decide,by decide,by decide,.inl rfl⟩;refine yu oC ⟨fun i y h=>by simp at h,fun i r h=>?_,by decide,by decide,by simp,by simp,fun i y h=>?_⟩ (l9.nil _) ar3 (List.pairwise_singleton _ _)
 ·
  rw [List.mem_singleton.1 (List.mem_of_getElem? h)];exact Int.le_refl _
 have hi:i=0:=by grind
 subst hi;rw [List.mem_singleton.1 (List.mem_of_getElem? h)];exact⟨hv,fun h=>by omega⟩
theorem gb4:jM [r3] ⟨0,[],[iP 0 v4]⟩:=(HP (j:=0) oC gb3 ar3 (by simp) (y':=iP 0 v4) (f:=1) (.inl ⟨rfl,v4,fun e=>v34 e.symm,by decide,rfl⟩)).1
theorem gb0:jM [r3] ⟨0,[],[]⟩:=yu oC Mv (l9.nil _) (fun r hr=>by cases hr) List.Pairwise.nil
theorem vs3(k:Key):(valOf [r3] [] k).size≤1000:=AM oC (fun x hx=>by cases hx) k
theorem up3{v:ByteArray}:∀y∈(⟨0,[],[iP 0 v]⟩:dT).ao,y.az=(⟨0,[],[iP 0 v]⟩:dT).ae:=fun y hy=>by rw [List.mem_singleton.1 hy];rfl
theorem au3:gZ [r3] [] [iP 0 v3] 5=[]:=CW oC ar3
theorem au4:(gZ [r3] [] [iP 0 v4] 5).length=2:=by
 have h0:vA [r3] [] (iP 0 v4)=false:=by grind [vA,iP,Tu,v34]
 have h1:tc [r3] [] (iP 0 v4)=true:=by
  have h:=yq (rev:=0) (aH:=[]) oC (i:=0) (by simp) 1;rw [Qf] at h;exact h
 have h4:xw (iP 0 v4)=true:=rfl;simp only [qk,List.all_cons,List.all_nil,Bool.and_true,rZ,h0,h1,h4]
 rfl
theorem adb{v:ByteArray}:aG [iP 0 v] K0=iP 0 v:=bY (by simp [aD,iP])
theorem rg3:([K0].all fun k=>decide ((aG [iP 0 v3] k).value=valOf [r3] [] k))=true:=by
 simp only [List.all_cons,List.all_nil,Bool.and_true,Tu,adb];exact decide_eq_true rfl
theorem rg4:([K0].all fun k=>decide ((aG [iP 0 v4] k).value=valOf [r3] [] k))=false:=by
 simp only [List.all_cons,List.all_nil,Bool.and_true,Tu,adb]
 exact decide_eq_false fun e=>v34 e.symm
theorem Kx{v:ByteArray}:∀k∈[K0],∃i:Nat,i < [r3].length∧k=aS [r3] (i:Int)∧(aD (⟨0,[],[iP 0 v]⟩:dT).ao k).isSome=true:=fun k hk=>⟨0,by simp,by rw [List.mem_singleton.1 hk];exact yz.symm,by grind [aD,iP]⟩
theorem sd3:uB [r3] ⟨0,[],[]⟩ ⟨0,[],[iP 0 v3]⟩ [K0]=true:=by
 have hw:(mb (valOf [r3] []) ⟨0,[],[]⟩ K0).1≠0:=by rw [KB rfl rfl];decide
 have ho:jI [iP 0 v3] [K0]=[]:=by
  unfold jI
  rw [List.filter_cons,if_neg (by simp [iP])]
  rfl
 unfold uB
 rw [Bool.and_eq_true]
 grind [jI]
end Go.Rc

