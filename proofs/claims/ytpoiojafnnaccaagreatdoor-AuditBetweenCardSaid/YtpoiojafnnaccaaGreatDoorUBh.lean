/- Base of the proof: frames, memory, ownership, and the plain meaning of rule systems. Conditions: as each lemma says. -/
import Derived.Test.YtpoiojafnnaccaaGreatDoorUBg
import Derived.Test.YtpoiojafnnaccaaGreatDoorUBf
import Derived.Shelf.SlSortCmp.WholeK
set_option linter.all false
namespace Go.Rc
open Go
def oF(l:List eH) (b:dV) (a:Key):Prop:=aB a=true∨(lj l a=true∧aA a=true)∨aO b a=true
section
variable {x b b':dV}{l l' p q:List eH}{f g:eH}{k a:Key}
theorem um:gH x l k=false↔aB k=true∨lj l k=true∨aO x k=true:=by
 unfold gH aO
 grind
theorem xf:dG x l [] k=if (!aA k && lj l k)=true then 3 else if gH x l k=true then 1 else 0:=by grind [dG,lj]
theorem AK(h1:dG x l [] k≠1) (h3:dG x l [] k≠3):oF l x k:=by
 rw [xf] at h1 h3
 by_cases hA:(!aA k && lj l k)=true
 ·
  grind
 rw [if_neg hA] at h1
 by_cases hn:gH x l k=true
 ·
  grind
 rcases um.1 (by simpa using hn) with h | h | h
 ·
  exact .inl h
 ·
  exact .inr (.inl ⟨h,by rw [h] at hA;simpa using hA⟩)
 exact .inr (.inr h)
theorem PF(h:dG x l [] k=1):lj l k=false∧aB k=false∧aO x k=false:=by
 rw [xf] at h
 by_cases hA:(!aA k && lj l k)=true
 ·
  rw [if_pos hA] at h;cases h
 rw [if_neg hA] at h
 by_cases hn:gH x l k=true
 ·
  have kh:¬(aB k=true∨lj l k=true∨aO x k=true):=fun h=>by grind [um]
  grind
 rw [if_neg hn] at h;cases h
theorem J8(h:dG x l [] k=3):aA k=false∧lj l k=true:=by
 rw [xf] at h
 grind
theorem kc:lj (p++q) k=(lj p k || lj q k):=by simp [lj]
theorem sS:lj [f] k=decide (f.key=k):=by simp [lj]
theorem J9{z:eH}{p1:List eH}(h:p++[z]=p1++g::q):(q=[]∧p1=p∧g=z)∨∃q',q=q'++[z]∧p=p1++g::q':=by
 rcases List.eq_nil_or_concat q with rfl | ⟨q',y,rfl⟩
 ·
  simp_all
 rw [List.concat_eq_append,← List.cons_append,← List.append_assoc] at h;obtain⟨h1,h2⟩:=List.append_inj' h rfl
 grind
end
inductive FS (ab:List aJ) (val:Key→ByteArray) (b:dV) (p:List eH) (f:eH):dV→List eH→List Key→Int→Prop where
 | stay:FS ab val b p f b (p++[f]) [] 0
 | full:f.running=true→(aZ ab f.key f.ao).done=true→(!(aD b.ak f.key).isSome && decide (4000≤b.ak.length))=true→FS ab val b p f b (p++[f]) [] 45
 | put:f.running=true→(aZ ab f.key f.ao).done=true→FS ab val b p f {b with ak:=gW b.ak (et b f.key (aZ ab f.key f.ao).value f.reads)} p [f.key] 0
 | push:f.running=true→(aZ ab f.key f.ao).done=false→dG b (p++[f]) [] (aZ ab f.key f.ao).ask=1→FS ab val b p f b (p++[f]++[⟨(aZ ab f.key f.ao).ask,false,0,[],[]⟩]) [] 0
 | cyc:f.running=true→(aZ ab f.key f.ao).done=false→dG b (p++[f]) [] (aZ ab f.key f.ao).ask=3→FS ab val b p f b (p++[f]) [] 43
 | read:f.running=true→(aZ ab f.key f.ao).done=false→dG b (p++[f]) [] (aZ ab f.key f.ao).ask≠1→dG b (p++[f]) [] (aZ ab f.key f.ao).ask≠3→
   FS ab val b p f b (p++[{f with reads:=f.reads++[(aZ ab f.key f.ao).ask],ao:=f.ao++[eJ val b (aZ ab f.key f.ao).ask]}]) [] 0
 | up:f.running=false→aO b f.key=true→FS ab val b p f b p [] 0
 | start:f.running=false→aO b f.key=false→(aD b.ak f.key=none∨(aG b.ak f.key).cq=true)→FS ab val b p f b (p++[{f with running:=true,at_:=0}]) [] 0
 | mark:f.running=false→Live b.ak b.ae f.key→(cC b.ak (aF b.ak b.ae f.key)).length≤f.at_.toNat→FS ab val b p f (dX b (aF b.ak b.ae f.key) false) p [] 0
 | Va (c:tz):f.running=false→Live b.ak b.ae f.key→(cC b.ak (aF b.ak b.ae f.key))[f.at_.toNat]?=some c→dG b (p++[f]) [] c.read=1→FS ab val b p f b (p++[f]++[⟨c.read,false,0,[],[]⟩]) [] 0
 | acI (c:tz):f.running=false→Live b.ak b.ae f.key→(cC b.ak (aF b.ak b.ae f.key))[f.at_.toNat]?=some c→dG b (p++[f]) [] c.read=3→FS ab val b p f b (p++[f]) [] 43
 | pass (c:tz):f.running=false→Live b.ak b.ae f.key→(cC b.ak (aF b.ak b.ae f.key))[f.at_.toNat]?=some c→dG b (p++[f]) [] c.read≠1→dG b (p++[f]) [] c.read≠3→
   bR val b c.read≤(aG b.ak c.fy).az→FS ab val b p f b (p++[{f with at_:=f.at_+1}]) [] 0
 | fail (c:tz):f.running=false→Live b.ak b.ae f.key→(cC b.ak (aF b.ak b.ae f.key))[f.at_.toNat]?=some c→dG b (p++[f]) [] c.read≠1→dG b (p++[f]) [] c.read≠3→
   (aG b.ak c.fy).az<bR val b c.read→FS ab val b p f (if aA f.key then dX b (aF b.ak b.ae f.key) true else b) (p++[{f with running:=true,at_:=0}]) [] 0
section
variable {ab:List aJ}{H:Int→List dE}{b0 b b':dV}{p q l l':List eH}{f g:eH}{bU:List Key}
structure FI (ab:List aJ) (H:Int→List dE) (b0 b:dV) (p:List eH) (f:eH):Prop where
 key:∃i:Nat,i<ab.length∧f.key=aQ ab (i:Int)
 new:lj p f.key=false
 low:∀i j:Nat,i<ab.length→j<ab.length→f.key=aQ ab (i:Int)→lj p (aQ ab (j:Int))=true→Lw ab i (rJ ab j)
 run:f.running=true→cY b.ak b.ae f.key=false∧aO b f.key=false∧PA (valOf ab b0.ah) b0 f.key∧(∀i:Nat,i<ab.length→f.key=aQ ab (i:Int)→∃n,n≤dW ab i∧f.reads=(gq (dP ab f.key) (valOf ab b0.ah) n).1∧f.ao=(gq (dP ab f.key) (valOf ab b0.ah) n).2)∧∀a∈f.reads,oF (p++[f]) b a
 MR:f.running=false→f.reads=[]∧f.ao=[]∧0≤f.at_∧(Live b.ak b.ae f.key→∀j c,j<f.at_.toNat→(cC b.ak (aF b.ak b.ae f.key))[j]?=some c→valOf ab (H (aG b.ak c.fy).az) c.read=valOf ab b0.ah c.read∧oF (p++[f]) b c.read∧bR (valOf ab b0.ah) b0 c.read≤(aG b.ak c.fy).az)
structure TI (ab:List aJ) (H:Int→List dE) (b0 b:dV) (l:List eH) (bU:List Key):Prop where
 bi:Bi ab H (fun y=>lj l y && aA y) b
 wy:Wy ab b0 ⟨b,[],bU,0⟩
 fr:∀p f q,l=p++f::q→FI ab H b0 b p f
 nr:∀f∈l,f.key∉bU∧aO b0 f.key=false
theorem oF.ly{N:Key→Prop}{a:Key}(h:oF l b a) (dR:lq (valOf ab b0.ah) N bU b.ae b.ak b'.ak) (hr:b'.ae=b.ae):oF l b' a:=
 h.imp id (Or.imp id (dR.aO hr))
theorem oF.mono{a:Key}(h:oF l b a) (ho:∀k,lj l k=true→lj l' k=true):oF l' b a:=h.imp id (Or.imp (fun⟨x,y⟩=>⟨ho _ x,y⟩) id)
theorem FI.ly{N:Key→Prop}(h:FI ab H b0 b p g) (dR:lq (valOf ab b0.ah) N bU b.ae b.ak b'.ak) (hr:b'.ae=b.ae) (hN:¬N g.key):FI ab H b0 b' p g:=by
 refine⟨h.key,h.new,h.low,fun hg=>?_,fun hg=>?_⟩
 ·
  obtain⟨h1,h2,h3,h4,h5⟩:=h.run hg
  have qI:aD b'.ak g.key=aD b.ak g.key:=by
   rcases dR.pt g.key with e | ⟨e0,r,e1,e2,e3,_⟩ | ⟨⟨_,e0⟩,_⟩
   ·
    exact e
   ·
    grind [cO]
   exact absurd e0 hN
  refine⟨?_,?_,h3,h4,fun a ha=>(h5 a ha).ly dR hr⟩
  ·
   grind [cY,aG]
  grind [aO,aG]
 obtain⟨h1,h2,h3,h4⟩:=h.MR hg;refine⟨h1,h2,h3,fun hl j c hj hc=>?_⟩;rw [hr] at hl hc;rw [dR.Pz hl] at hc;obtain⟨p1,p2,p3⟩:=h4 (dR.U7 hl) j c hj hc;have hm:=(eR.1 (List.mem_of_getElem? hc)).1
 have e:aG b'.ak c.fy=aG b.ak c.fy:=by
  unfold aG
  rw [(dR.group hl).2 _ hm]
 rw [e];exact⟨p1,p2.ly dR hr,p3⟩
theorem TI.top(h:TI ab H b0 b (p++[f]) bU):FI ab H b0 b p f:=h.fr p f [] rfl
theorem TI.under(h:TI ab H b0 b (p++[f]) bU) {p1:List eH}(hp:p=p1++g::q):FI ab H b0 b p1 g∧g.key≠f.key:=by
 refine⟨h.fr p1 g (q++[f]) (by rw [hp];simp),fun e=>?_⟩;have h1:=h.top.new
 grind [lj]
theorem TI.snoc(h:∀p1 g q,p=p1++g::q→FI ab H b0 b p1 g) (hf:FI ab H b0 b p f):∀p1 g q,p++[f]=p1++g::q→FI ab H b0 b p1 g:=fun p1 g q hp=>by grind [J9]
theorem Ka(hR:ay ab) {rk:List Key}{er:Int}(h:TI ab H b0 b (p++[f]) bU) (hg:Good ab b0.ah ⟨b,[],[],0⟩) (hs:FS ab (valOf ab b0.ah) b p f b' l' rk er):er=0∧TI ab H b0 b' l' (bU++rk):=by
 have pY:=hR.len;have hB:=h.bi;have hW:=h.wy;have Xs:b.ae=b0.ae:=hW.rev;have gQ:b.ah=b0.ah:=hW.aH;have hT:=h.top;obtain⟨i,hi,qQ⟩:=hT.key
 have rj:aB f.key=false:=by grind [dI]
 have SX:∀j:Nat,j<ab.length→lj (p++[f]) (aQ ab (j:Int))=true→j=i∨Lw ab i (rJ ab j):=fun j hj ho=>by
  rw [kc,sS] at ho;simp only [Bool.or_eq_true,decide_eq_true_eq] at ho
  rcases ho with ho | ho
  ·
   exact .inr (hT.low i j hi hj qQ ho)
  grind [fF]
 have Xx:∀{b2:dV}{rn:List Key},lq (valOf ab b0.ah) (fun y=>y=f.key) rn b.ae b.ak b2.ak→(∀y∈bU,y∈rn)→b2.ae=b.ae→b2.ah=b.ah→(∀y r,aD b2.ak y=some r→r.cq=true→(aG b0.ak y).cq=true∨SS (valOf ab b0.ah) b0 y)→(∀y∈rn,PA (valOf ab b0.ah) b0 y)→(∀y∈rn,y∈bU∨aO b2 y=true)→(∀y,aO b y=false→aO b2 y=true→y∈rn∨¬SS (valOf ab b0.ah) b0 y)→rn.Nodup→Wy ab b0 ⟨b2,[],rn,0⟩:=fun dR Nr h1 h2 h3 h4 h5 h6 h7=>
  hW.step h1 h2 (by rw [← Xs];exact dR.mono (fun _ h=>h) fun _ _=>trivial) Nr h3 h4 h5 h6 h7
 -- a frame is aiS
 have acJ:∀a,gS ab a→dG b (p++[f]) [] a=1→(∀m:Nat,m<ab.length→a=aQ ab (m:Int)→∀j:Nat,j<ab.length→lj (p++[f]) (aQ ab (j:Int))=true→Lw ab m (rJ ab j))→TI ab H b0 b (p++[f]++[⟨a,false,0,[],[]⟩]) bU:=fun a qE hl CD=>by
  obtain⟨h1,h2,h3⟩:=PF hl;obtain⟨m,hm,Xj,_⟩:=qE.jZ h2;refine⟨hB.U8 fun y hy=>?_,hW,TI.snoc h.fr ⟨⟨m,hm,Xj⟩,h1,fun m' j RJ hj e ho=>CD m' RJ e j hj ho,(fun hc=>by cases hc),fun _=>⟨rfl,rfl,Int.le_refl _,fun _ j c hj=>by simp at hj⟩⟩,fun g hg=>?_⟩
  rotate_left
  ·
   rcases List.mem_append.1 hg with hg | hg
   ·
    exact h.nr g hg
   rw [List.mem_singleton] at hg;subst hg;refine⟨fun hr=>?_,hW.AG h3⟩
   have:=hW.SU a hr
   grind
  rw [Bool.and_eq_true] at hy ⊢;rw [kc,hy.1];exact⟨rfl,hy.2⟩
 -- the last frame is ahm one of the same key
 have qI:∀{g:eH}{b2:dV}{rn:List Key},g.key=f.key→Bi ab H (fun y=>lj (p++[f]) y && aA y) b2→Wy ab b0 ⟨b2,[],rn,0⟩→lq (valOf ab b0.ah) (fun y=>y=f.key) rn b.ae b.ak b2.ak→b2.ae=b.ae→(∀y∈rn,y∈bU)→FI ab H b0 b2 p g→TI ab H b0 b2 (p++[g]) rn:=fun {g b2 rn} hk CE Xy dR hr Nr hF=>by
  refine⟨?_,Xy,TI.snoc (fun p1 g q hp=>?_) hF,fun q hq=>?_⟩
  ·
   have e:(fun y=>lj (p++[g]) y && aA y)=fun y=>lj (p++[f]) y && aA y:=by
    funext y
    grind [kc,sS]
   rw [e];exact CE
  ·
   obtain⟨h1,h2⟩:=h.under hp;exact h1.ly dR hr h2
  rcases List.mem_append.1 hq with hq | hq
  ·
   have:=h.nr q (List.mem_append_left _ hq)
   grind
  rw [List.mem_singleton] at hq;subst hq
  have:=h.nr f (by simp)
  grind
 have SY:∀{g:eH},g.key=f.key→∀k,lj (p++[f]) k=true→lj (p++[g]) k=true:=fun hk k nQ=>by grind [kc,sS]
 -- the last frame is done
 have Xz:∀{b2:dV}{rn:List Key},Bi ab H (fun y=>lj (p++[f]) y && aA y) b2→aO b2 f.key=true→Wy ab b0 ⟨b2,[],rn,0⟩→lq (valOf ab b0.ah) (fun y=>y=f.key) rn b.ae b.ak b2.ak→b2.ae=b.ae→(∀y∈rn,y∈bU∨y=f.key)→TI ab H b0 b2 p rn:=fun {b2 rn} CE hu Xy dR hr Nr=>by
  refine⟨CE.off hu fun y hy=>?_,Xy,fun p1 g q hp=>?_,fun g hg=>?_⟩
  ·
   rw [Bool.and_eq_true,kc,sS] at hy
   grind
  ·
   obtain⟨h1,h2⟩:=h.under hp;exact h1.ly dR hr h2
  have h1:=h.nr g (List.mem_append_left _ hg);refine⟨fun h3=>?_,h1.2⟩
  rcases Nr _ h3 with h4 | h4
  ·
   exact h1.1 h4
  obtain⟨p1,q1,hp⟩:=List.append_of_mem hg;exact(h.under hp).2 h4
 have PG:∀n,f.ao=(gq (dP ab f.key) (valOf ab b0.ah) n).2→aZ ab f.key f.ao=dP ab (aQ ab (i:Int)) (Nl ab b0.ah i n):=fun n hn=>by
  rw [hn,qQ,im hi (by omega)]
  rfl
 have ED:∀{y},lj (p++[f]) y=true→∃j:Nat,j<ab.length∧y=aQ ab (j:Int):=fun {y} hy=>by
  rw [kc,sS] at hy;simp only [Bool.or_eq_true,decide_eq_true_eq] at hy
  rcases hy with hy | hy
  ·
   unfold lj at hy
   obtain⟨g,hgm,Js⟩:=List.any_eq_true.1 hy;obtain⟨p1,q1,hp⟩:=List.append_of_mem hgm;obtain⟨j,hj,e⟩:=(h.under hp).1.key
   grind
  grind
 have arb:∀a,(∀m:Nat,m<ab.length→a=aQ ab (m:Int)→∀j:Nat,j<ab.length→lj (p++[f]) (aQ ab (j:Int))=true→Lw ab m (rJ ab j))→dG b (p++[f]) [] a≠3:=fun a CD hl=>by
  obtain⟨h1,h2⟩:=J8 hl;obtain⟨j,hj,rfl⟩:=ED h2;have h3:=CD j hj rfl j hj h2
  grind [cA,Lw,rJ]
 have acK:∀n,n<dW ab i→∀m:Nat,m<ab.length→uk ab b0.ah i n=aQ ab (m:Int)→∀j:Nat,j<ab.length→lj (p++[f]) (aQ ab (j:Int))=true→Lw ab m (rJ ab j):=fun n hn m hm e j hj ho=>by
  obtain⟨h1,h2⟩:=(xe hR hi (List.mem_of_getElem? (lM (aH:=b0.ah) hn))).2 m hm e
  grind
 have aoy:Live b.ak b.ae f.key→∀c∈cC b.ak (aF b.ak b.ae f.key),gS ab c.read∧∀m:Nat,m<ab.length→c.read=aQ ab (m:Int)→∀j:Nat,j<ab.length→lj (p++[f]) (aQ ab (j:Int))=true→Lw ab m (rJ ab j):=fun hl c hc=>by
  obtain⟨hm,ha,CC⟩:=eR.1 hc;obtain⟨j,hj,ej⟩:=hB.key (mL hl hm);obtain⟨rm,g1,g2,g3⟩:=mL hl hm;have h1:=(hB.c.vr rm (bm g1).1).2;rw [(bm g1).2,ej,iM hR hj] at h1;rw [ct g1,h1] at ha;have CD:=xe hR hj ha;refine⟨CD.1.MT hR,fun m jg e q hq ho=>?_⟩;obtain⟨h4,h5⟩:=CD.2 m jg e;rw [qQ] at hl hm;obtain⟨g4,g5⟩:=L6 hR hB hi hj hl (ej ▸ hm)
  grind
 have acH:∀{a},oF (p++[f]) b a→aB a=true∨((lj (p++[f]) a && aA a)=true∧aA a=true)∨aO b a=true:=fun {a} h=>h.imp id (Or.imp (fun⟨x,y⟩=>⟨by rw [x,y];rfl,y⟩) id)
 have Kb:∀{b2:dV},f.running=false→Bi ab H (fun y=>lj (p++[f]) y && aA y) b2→Wy ab b0 ⟨b2,[],bU,0⟩→lq (valOf ab b0.ah) (fun y=>y=f.key) bU b.ae b.ak b2.ak→b2.ae=b.ae→cY b2.ak b2.ae f.key=false→aO b2 f.key=false→PA (valOf ab b0.ah) b0 f.key→TI ab H b0 b2 (p++[{f with running:=true,at_:=0}]) bU:=fun {b2} hr CE Xy dR aiT ho hu hw=>by
  obtain⟨c1,c2,_,_⟩:=hT.MR hr;refine qI (g:={f with running:=true,at_:=0}) rfl CE Xy dR aiT (fun _ h=>h) ⟨⟨i,hi,qQ⟩,hT.new,hT.low,fun _=>⟨ho,hu,hw,fun j hj e=>⟨0,Nat.zero_le _,c1,c2⟩,fun a ha=>?_⟩,fun hc=>by cases hc⟩
  grind
 have HN:Live b.ak b.ae f.key→aO b f.key=false:=fun⟨r,h1,_,h2⟩=>mU h1 h2
 cases hs with
 | stay=>grind
 | full hr hd hn=>
  have:=hB.len
  simp at hn
  omega
 | put hr hd=>
  obtain⟨h1,h2,h3,h4,h5⟩:=hT.run hr;obtain⟨n,hn,oE,XA⟩:=h4 i hi qQ;have ht:=PG n XA
  have hnq:n=dW ab i:=by grind [LY]
  rw [hnq,LZ hR hi] at ht
  have nC:f.reads=dC ab b0.ah i:=by
   rw [oE,hnq,qQ]
   rfl
  have hm:et b f.key (aZ ab f.key f.ao).value f.reads=et b (aQ ab (i:Int)) (valOf ab b0.ah (aQ ab (i:Int))) (dC ab b0.ah i):=by rw [ht,nC,qQ]
  rw [hm];have CE:=hB.put hR hi (fun hc=>by grind [kc,sS]) (by grind);rw [gQ] at CE
  have CE:Bi ab H (fun y=>lj (p++[f]) y && aA y) ⟨b.ae,b.ah,gW b.ak (et b (aQ ab (i:Int)) (valOf ab b0.ah (aQ ab (i:Int))) (dC ab b0.ah i))⟩:=by rw [gQ];exact CE
  have dR:lq (valOf ab b0.ah) (fun y=>y=f.key) (bU++[f.key]) b.ae b.ak (gW b.ak (et b (aQ ab (i:Int)) (valOf ab b0.ah (aQ ab (i:Int))) (dC ab b0.ah i))):=by
   rw [qQ] at h1 h2;refine lq.put h1 (fun r hr=>?_) ⟨by simp [et,qQ],qQ.symm⟩ rfl rfl rfl (fun r hr=>?_) fun hn=>?_
   ·
    have h1:=(hB.c.L0 r (bm hr).1).1
    have h6:r.az≠b.ae:=fun e=>by
     have:aO b (aQ ab (i:Int))=true:=cW.2 ⟨r,hr,e⟩
     grind
    omega
   ·
    have jz:aD b.ak (aQ ab (i:Int))=some r:=hr
    unfold et
    simp only [jz,ct jz]
    grind
   grind [et]
  have Ff:aO {b with ak:=gW b.ak (et b (aQ ab (i:Int)) (valOf ab b0.ah (aQ ab (i:Int))) (dC ab b0.ah i))} f.key=true:=by
   rw [qQ];exact uf (r:=et b (aQ ab (i:Int)) (valOf ab b0.ah (aQ ab (i:Int))) (dC ab b0.ah i)) rfl
  refine⟨rfl,Xz CE Ff (Xx dR (fun y hy=>by simp [hy]) rfl rfl (fun y r hf hd=>?_) (fun y hy=>?_) (fun y hy=>?_) (fun y hu J6=>?_) (DY hW.nY fun hr=>by have:=hW.SU _ hr;rw [h2] at this;cases this)) dR rfl fun y hy=>by simpa using hy⟩
  ·
   have HM:aD (gW b.ak (et b (aQ ab (i:Int)) (valOf ab b0.ah (aQ ab (i:Int))) (dC ab b0.ah i))) y=some r:=hf;rw [gz] at HM
   split at HM
   ·
    have:=Option.some.inj HM
    subst this
    cases hd
   exact hW.RQ y r HM hd
  ·
   rcases List.mem_append.1 hy with hy | hy
   ·
    exact hW.bU y hy
   grind
  ·
   grind
  refine .inl ?_
  by_cases e:y=f.key
  ·
   rw [e]
   simp
  obtain⟨r,hr,hv⟩:=cW.1 J6;have jz:aD (gW b.ak (et b (aQ ab (i:Int)) (valOf ab b0.ah (aQ ab (i:Int))) (dC ab b0.ah i))) y=some r:=hr;rw [gz,if_neg (show ¬y=(et b (aQ ab (i:Int)) (valOf ab b0.ah (aQ ab (i:Int))) (dC ab b0.ah i)).key from fun h=>e (h.trans qQ.symm))] at jz
  grind [cW]
 | push hr hd hl=>
  obtain⟨h1,h2,h3,h4,h5⟩:=hT.run hr;obtain⟨n,hn,oE,XA⟩:=h4 i hi qQ;have ht:=PG n XA
  have ed:n<dW ab i:=by grind [LZ]
  rw [LY hR hi ed] at ht;rw [ht] at hl ⊢;rw [List.append_nil];exact⟨rfl,acJ _ (HK hR hi ed) hl (acK n ed)⟩
 | cyc hr hd hl=>
  obtain⟨h1,h2,h3,h4,h5⟩:=hT.run hr;obtain⟨n,hn,oE,XA⟩:=h4 i hi qQ
  grind [LZ,LY]
 | read hr hd jM Kc=>
  obtain⟨h1,h2,h3,h4,h5⟩:=hT.run hr;obtain⟨n,hn,oE,XA⟩:=h4 i hi qQ;have ht:=PG n XA
  have ed:n<dW ab i:=by grind [LZ]
  rw [LY hR hi ed] at ht;rw [ht] at jM Kc ⊢;rw [List.append_nil];have Lp:=AK jM Kc
  have Xw:eJ (valOf ab b0.ah) b (uk ab b0.ah i n)=valOf ab b0.ah (uk ab b0.ah i n):=by
   rw [← gQ];refine hB.answer (by grind [HK]) ?_
   grind
  refine⟨rfl,qI (g:={f with reads:=f.reads++[uk ab b0.ah i n],ao:=f.ao++[eJ (valOf ab b0.ah) b (uk ab b0.ah i n)]}) rfl hB hW (.refl _) rfl (fun _ h=>h) ⟨⟨i,hi,qQ⟩,hT.new,hT.low,fun _=>⟨h1,h2,h3,fun j hj e=>?_,fun a ha=>?_⟩,fun hc=>?_⟩⟩
  ·
   have:=fF hR hj hi (e.symm.trans qQ)
   subst this;refine⟨n+1,ed,?_,?_⟩
   ·
    show f.reads++[uk ab b0.ah j n]=_
    rw [oE,qQ]
    rfl
   show f.ao++[eJ (valOf ab b0.ah) b (uk ab b0.ah j n)]=_
   rw [Xw,XA,qQ]
   rfl
  ·
   rcases List.mem_append.1 ha with ha | ha
   ·
    exact(h5 a ha).mono (SY rfl)
   rw [List.mem_singleton] at ha;rw [ha];exact Lp.mono (SY rfl)
  grind
 | up hr hu=>
  rw [List.append_nil];exact⟨rfl,Xz hB hu hW (.refl _) rfl fun _ h=>.inl h⟩
 | start hr hu hx=>
  rw [List.append_nil];refine⟨rfl,Kb hr hB hW (.refl _) rfl ?_ hu ⟨rj,hW.AG hu,?_⟩⟩
  ·
   rw [Bool.eq_false_iff]
   grind [cO,ct]
  cases hf:aD b.ak f.key with
  | none=>exact .inl (hW.none hf)
  | some r=>
   refine .inr ?_
   rcases hx with hx | hx
   ·
    rw [hf] at hx
    cases hx
   rw [ct hf] at hx;exact hW.RQ _ r hf hx
 | mark hr hl hn=>
  obtain⟨c1,c2,c3,c4⟩:=hT.MR hr;have c4:=c4 hl;have dR:lq (valOf ab b0.ah) (fun y=>y=f.key) bU b.ae b.ak (dX b (aF b.ak b.ae f.key) false).ak:=lq.mark hl false (.inr rfl)
  have CE:=hB.mark hR hl fun m hm a ha CC=>by
   have lx:(⟨m,a⟩:tz)∈cC b.ak (aF b.ak b.ae f.key):=eR.2 ⟨hm,ha,CC⟩;obtain⟨j,hj⟩:=List.mem_iff_getElem?.1 lx;have h1:=(List.getElem?_eq_some_iff.1 hj).1;obtain⟨h2,h3,_⟩:=c4 j ⟨m,a⟩ (by omega) hj
   grind
  have tV:=hW.U9 hl fun m hm a ha CC=>by
   have lx:(⟨m,a⟩:tz)∈cC b.ak (aF b.ak b.ae f.key):=eR.2 ⟨hm,ha,CC⟩;obtain⟨j,hj⟩:=List.mem_iff_getElem?.1 lx
   grind
  rw [List.append_nil];refine⟨rfl,Xz CE ?_ (Xx dR (fun _ h=>h) rfl rfl (fun y r' hf hd=>?_) hW.bU (fun _ h=>.inl h) (fun y hu J6=>.inr (tV y (L5 hu J6))) hW.nY) dR rfl fun _ h=>.inl h⟩
  ·
   obtain⟨r,h1,_⟩:=hl
   grind [vo,l5]
  have HM:(aD b.ak y).map (cZ b.ae (aF b.ak b.ae f.key) false)=some r':=ff.symm.trans hf;obtain⟨r,hr,rfl⟩:=Option.map_eq_some_iff.1 HM;rw [ye] at hd;exact hW.RQ y r hr hd
 | Va c hr hl hc hk=>grind
 | acI c hr hl hc hk=>grind
 | pass c hr hl hc tD xY hle=>
  obtain⟨c1,c2,c3,c4⟩:=hT.MR hr;have Lp:=AK tD xY;rw [List.append_nil];refine⟨rfl,qI (g:={f with at_:=f.at_+1}) rfl hB hW (.refl _) rfl (fun _ h=>h) ⟨⟨i,hi,qQ⟩,hT.new,hT.low,fun hc=>?_,fun _=>⟨c1,c2,by show 0≤f.at_+1;omega,fun _ j c' hj PD=>?_⟩⟩⟩
  ·
   grind
  have hj':j<f.at_.toNat+1:=by grind
  rcases Nat.lt_or_ge j f.at_.toNat with ed | rp
  ·
   obtain⟨p1,p2,p3⟩:=c4 hl j c' ed PD;exact⟨p1,p2.mono (SY rfl),p3⟩
  have e:j=f.at_.toNat:=by omega
  subst e;have acL:(cC b.ak (aF b.ak b.ae f.key))[f.at_.toNat]?=some c':=PD;rw [hc] at acL
  have:=Option.some.inj acL
  subst this;refine⟨?_,Lp.mono (SY rfl),by rw [← hW.changed hB c.read];exact hle⟩;obtain⟨hm,ha,CC⟩:=eR.1 (List.mem_of_getElem? hc);obtain⟨rm,g1,g2,g3⟩:=mL hl hm;rw [ct g1] at hle ha ⊢;have h1:=hB.c.changed (bm g1).1 g3 ha (by rw [gQ];exact hle);rw [gQ] at h1;exact h1
 | fail c hr hl hc tD xY ed=>
  obtain⟨hm,ha,CC⟩:=eR.1 (List.mem_of_getElem? hc);have PE:=hW.dif hB hl hm ha CC ed;have J7:PA (valOf ab b0.ah) b0 f.key:=⟨rj,hW.AG (HN hl),.inr (.inr (PE _ l5))⟩;rw [List.append_nil]
  cases ui:aA f.key with
  | false=>
   simp only [Bool.false_eq_true,if_false];refine⟨trivial,Kb hr hB hW (.refl _) rfl ?_ (HN hl) J7⟩;rw [Bool.eq_false_iff]
   grind [cO]
  | true=>
   simp only [if_true];have dR:lq (valOf ab b0.ah) (fun y=>y=f.key) bU b.ae b.ak (dX b (aF b.ak b.ae f.key) true).ak:=lq.mark hl true (.inl ui);obtain⟨r,f1,f2,f3⟩:=id hl
   have hfk:aD (dX b (aF b.ak b.ae f.key) true).ak f.key=some {r with cq:=true}:=by
    refine ff.trans ?_;rw [f1]
    show some (cZ _ _ _ r)=_
    unfold cZ
    rw [if_pos (by rw [(bm f1).2];exact l5)]
    rfl
   refine⟨trivial,Kb hr (hB.cq fun m hm=>mL hl hm) (Xx dR (fun _ h=>h) rfl rfl (fun y r' hf hd=>?_) hW.bU (fun _ h=>.inl h) (fun y hu J6=>by grind [HL]) hW.nY) dR rfl ?_ (mU hfk f3) J7⟩
   ·
    have HM:(aD b.ak y).map (cZ b.ae (aF b.ak b.ae f.key) true)=some r':=ff.symm.trans hf;obtain⟨q,hq,rfl⟩:=Option.map_eq_some_iff.1 HM
    by_cases hy:y∈aF b.ak b.ae f.key
    ·
     exact .inr (PE y hy)
    unfold cZ at hd
    rw [if_neg (by rw [(bm hq).2];exact hy)] at hd;exact hW.RQ y q hq hd
   rw [Bool.eq_false_iff]
   grind [cO]
end
end Go.Rc

namespace Go.Rc
open Go
theorem As.exc{A:As}{Z:Nat→Prop}{w w':World}(h:A.ok Z w) (c:bj [] w w'):A.ok Z w':=A.st c.size (fun x _ hx=>c.block x hx (by simp)) h
theorem acM{k:Key}(h:gY k):aA k=decide (k.kind=32):=by
 have e:(decide (1≤k.kind) && decide (k.kind≤22))=false:=by
  rcases h with h | h
  ·
   grind
  grind
 unfold aA
 grind
/-! ### records in blocks -/
structure RL where
 b:Nat
 a:Option Addr
 n:Nat
 c:Nat
def WD.wc(D:WD) (v:Nat) (rev:Int) (ra:Option Addr) (rn rc:Nat):List Value:=
 [.slice D.ar D.r D.cr,.int .i64 rev,.slice D.a1 D.n1 D.c1,.slice D.a2 D.n2 D.c2,.map (some D.m),.pointer (some ⟨v,0,none⟩),.slice ra rn rc]
def As.qf(RT:Nat) (lf:Key→RL) (l:List Rec):As where
 fp x:=∃k r,aD l k=some r∧x=(lf k).b
 ok Z w:=(∀k r,aD l k=some r→cJ w (lf k).b RT (r.row (lf k).a (lf k).n (lf k).c)∧Rd RR.key 2 Z w (lf k).a (lf k).n (lf k).c r.reads∧r.reads.length≤4000)∧∀k k' r r',aD l k=some r→aD l k'=some r'→(lf k).b=(lf k').b→k=k'
 lt h x hx:=by
  obtain⟨k,r,hk,rfl⟩:=hx;exact(h.1 k r hk).1.lt
 mono hZ h:=⟨fun k r hk=>by
  obtain⟨hb,hr,h4⟩:=h.1 k r hk;exact⟨hb,hr.mono hZ,h4⟩,h.2⟩
 st hs hc h:=⟨fun k r hk=>by
  obtain⟨hb,hr,h4⟩:=h.1 k r hk;exact⟨(As.blk (lf k).b RT (r.row (lf k).a (lf k).n (lf k).c)).st (Z:=fun _=>False) hs (fun x hx hl=>hc x (.inl ⟨k,r,hk,by rcases hx with hx | hx;exact hx;exact hx.elim⟩) hl) hb,hr.st hs (fun x hx=>hc x (.inr hx)),h4⟩,h.2⟩
theorem As.Ma{RT:Nat}{lf:Key→RL}{l:List Rec}{Z:Nat→Prop}{w:World}(h:(As.qf RT lf l).ok Z w):(As.qf RT lf l).ok Z w:=h
def kD(l:List Rec) (lf:Key→RL) (ml:List (Key × Value)):Prop:=∀k,ck ml k=(aD l k).map fun _=>Value.pointer (some ⟨(lf k).b,0,none⟩)
theorem kD.nil(lf:Key→RL):kD [] lf []:=fun _=>rfl
theorem kD.no{l:List Rec}{lf:Key→RL}{ml:List (Key × Value)}{k:Key}(h:kD l lf ml) (hf:aD l k=none):(ck ml k).getD (.pointer none)=.pointer none:=by rw [h k,hf];rfl
theorem kD.yes{l:List Rec}{lf:Key→RL}{ml:List (Key × Value)}{k:Key}{r:Rec}(h:kD l lf ml) (hf:aD l k=some r):ck ml k=some (.pointer (some ⟨(lf k).b,0,none⟩)):=by rw [h k,hf];rfl
def PH(lf:Key→RL) (k:Key) (q:RL):Key→RL:=fun y=>if y=k then q else lf y
theorem pq{lf:Key→RL}{k:Key}{q:RL}:PH lf k q k=q:=if_pos rfl
theorem qg{lf:Key→RL}{k y:Key}{q:RL}(h:¬y=k):PH lf k q y=lf y:=if_neg h
theorem kD.put{l l':List Rec}{lf:Key→RL}{ml:List (Key × Value)}{r:Rec}{q:RL}(h:kD l lf ml) (hl:∀y,aD l' y=if y=r.key then some r else aD l y):kD l' (PH lf r.key q) (dH ml r.key (.pointer (some ⟨q.b,0,none⟩))):=fun k=>by
 rw [eQ,hl k]
 by_cases e:k=r.key
 ·
  subst e;rw [if_pos rfl,if_pos rfl,pq]
  rfl
 rw [if_neg fun h=>e h.symm,if_neg e,qg e,h k]
section
variable {RT:Nat}{q:RL}{lf:Key→RL}{l l':List Rec}{r:Rec}{w0 w:World}{M Z:Nat→Prop}{L:List As}
theorem St.aiU(h:St w0 M Z w L) (RT:Nat) (lf:Key→RL):St w0 M Z w (As.qf RT lf []::L):=h.fact (B:=As.qf RT lf []) ⟨fun k r hk=>(by cases hk),fun k k' r r' hk=>(by cases hk)⟩ fun x hx=>by obtain⟨k,r,hk,_⟩:=hx;cases hk
theorem St.XB(h:St w0 M Z w (As.blk q.b RT (r.row q.a q.n q.c)::As.qf RT lf l::L)) (hr:Rd RR.key 2 Z w q.a q.n q.c r.reads) (h4:r.reads.length≤4000) (hl:∀y,aD l' y=if y=r.key then some r else aD l y):St w0 M Z w (As.qf RT (PH lf r.key q) l'::L):=by
 have hB:cJ w q.b RT (r.row q.a q.n q.c):=h.g0;have hR:(As.qf RT lf l).ok Z w:=h.g1;have hd:∀k r',aD l k=some r'→q.b≠(lf k).b:=fun k r' hk e=>(List.pairwise_cons.1 h.wA).1 (As.qf RT lf l) M0 q.b rfl ⟨k,r',hk,e⟩;refine h.join (C:=As.qf RT (PH lf r.key q) l') ⟨fun k r' hk=>?_,fun k k' r1 r2 h1 h2 e=>?_⟩ fun x hx=>?_
 ·
  rw [hl k] at hk
  by_cases e:k=r.key
  ·
   rw [if_pos e] at hk
   grind [pq]
  rw [if_neg e] at hk;rw [qg e];exact hR.1 k r' hk
 ·
  rw [hl k] at h1;rw [hl k'] at h2
  by_cases e1:k=r.key
  ·
   by_cases e2:k'=r.key
   ·
    rw [e1,e2]
   rw [if_neg e2] at h2
   grind [pq,qg]
  rw [if_neg e1] at h1
  by_cases e2:k'=r.key
  ·
   rw [qg e1,e2,pq] at e;exact absurd e.symm (hd k _ h1)
  rw [if_neg e2] at h2;rw [qg e1,qg e2] at e;exact hR.2 k k' _ _ h1 h2 e
 obtain⟨k,r',hk,rfl⟩:=hx;rw [hl k] at hk
 by_cases e:k=r.key
 ·
  rw [e,pq];exact .inl rfl
 rw [if_neg e] at hk;rw [qg e];exact .inr ⟨k,r',hk,rfl⟩
theorem Ow.z{α:Type}{f:α→List Value}{E k n c:Nat}{a:Option Addr}{xs:List α}{Z':Nat→Prop}(h:Ow (RR.flat f) E k Z' w a n c xs):Ow (RR.flat f) E k Z w a n c xs:=by
 obtain⟨hn,rows,hl,hk,h1,hx⟩:=h;exact⟨hn,rows,hl,hk,h1,hx⟩
theorem St.unz{A:As}{Z':Nat→Prop}(h:St w0 M Z' w [A]) (hz:∀x,Z x→Z' x) (hA:A.ok Z w):St w0 M Z w [A]:=
 ⟨h.cX,fun x hx=>h.mj x (hz x hx),fun B hB x hx RG=>h.pI B hB x hx (hz x RG),h.rf,h.wA,fun B hB=>by grind⟩
end
theorem Ke{l:List Rec}{r:Rec}(h:∀x∈l,x.key≠r.key) (y:Key):aD (l++[r]) y=if y=r.key then some r else aD l y:=by
 unfold aD
 grind
/-! ### entries of maps that are changed in place -/
section
variable {κ:Type} [DecidableEq κ] {enc:κ→Value}{P:Program}{kt:TypeId}{w w':World}{b:Nat}{l:List (κ × Value)}
def XC{κ:Type}(enc:κ→Value) (w:World) (b:Nat) (l:List (κ × Value)) (k:κ) (z:Int):Prop:=
 ∃es clock,w.heap[b]?=some (.map es clock)∧(es.toList.map (fun e=>(e.key,e.val))=l.map (fun p=>(enc p.1,p.2))∧(l.map (·.1)).Nodup∧(∀e∈es.toList,e.born<clock)∧(es.toList.map (·.born)).Nodup)∧∃(j:Nat) (v:Value) (e:MapEntry),l[j]?=some (k,v)∧es[j]?=some e∧(e.born:Int)=z
def As.Kf{κ:Type}(enc:κ→Value) (b:Nat) (l:List (κ × Value)) (k:κ) (z:Int):As where
 fp x:=x=b
 ok _ w:=XC enc w b l k z
 lt h x hx:=by
  subst hx;obtain⟨es,c,h,_⟩:=h
  grind
 mono _ h:=h
 st hs hc h:=by
  obtain⟨es,c,h,r⟩:=h;exact⟨es,c,(hc b (.inl rfl) (Array.getElem?_eq_some_iff.1 h).1).trans h,r⟩
theorem As.gmb{κ:Type}{enc:κ→Value}{b:Nat}{l:List (κ × Value)}{k:κ}{z:Int}{Z:Nat→Prop}{w:World}(h:(As.Kf enc b l k z).ok Z w):XC enc w b l k z:=h
theorem Fg{e T:TypeId}{zv:Value}(hK:KK P kt enc) (hT:P.underlying T=some (.map kt e)) (hz:∀w,(zeroValue e).run P w=.ok zv w) (hb:KM enc w b l) (k:κ) :
  ∃(z:Int) (w':World),(Instr.mapEntry T (.map (some b)) (enc k)).run P w=.ok (.tuple #[(ck l k).getD zv,.int .i64 z]) w'∧bj [b] w w'∧XC enc w' b (dH l k ((ck l k).getD zv)) k z:=by
 obtain⟨es,clock,hm,he,hn,hbo,G8⟩:=hb;have ze:b<w.heap.size:=(Array.getElem?_eq_some_iff.1 hm).1
 have hlen:es.toList.length=l.length:=by simpa using congrArg List.length he
 cases hx:tX l k 0 with
 | none=>
  obtain⟨h1,h2⟩:=mS hx;refine⟨(clock:Int),_,?_,kQ w b (.map (es.push {key:=enc k,val:=zv,born:=clock}) (clock+1)),?_⟩
  ·
   rw [h1];simp only [Instr.mapEntry,Sem.run_bind,run_underlying hT,Result.andThen_ok,MapKept.run_getObj_map hm,hK.check,hK.find l es.toList k w he,hx,hz,MapKept.run_setObj_map _ hm,Option.getD_none]
   rfl
  rw [h1,h2];refine⟨_,_,by first | (simp [ze];done) | (simp [ze];exact⟨rfl,rfl⟩),⟨by simp [he],by grind [iK],?_,?_⟩,l.length,zv,{key:=enc k,val:=zv,born:=clock},by simp,?_,rfl⟩
  ·
   grind
  ·
   grind
  grind
 | some p=>
  obtain⟨j,v0⟩:=p;obtain⟨m,h1,h2,h3,h4,_⟩:=lE hx
  have qz:j=m:=by omega
  subst qz
  have UP:j<es.size:=by grind
  obtain⟨y,hy⟩:∃y,es[j]?=some y:=⟨_,Array.getElem?_eq_getElem UP⟩
  have hye:y.key=enc k∧y.val=v0:=by
   have:=congrArg (fun x=>x[j]?) he
   grind
  have ED:(((es[j]?).map (·.key)).getD (enc k))=enc k:=by rw [hy];exact hye.1
  have acN:(((es[j]?).map fun x=>(x.born:Int)).getD 0)=(y.born:Int):=by rw [hy];rfl
  refine⟨(y.born:Int),_,?_,kQ w b (.map (es.modify j fun e=>{e with key:=enc k}) clock),?_⟩
  ·
   rw [h3];simp only [Instr.mapEntry,Sem.run_bind,run_underlying hT,Result.andThen_ok,MapKept.run_getObj_map hm,hK.check,hK.find l es.toList k w he,hx,Instr.keyThatStays,ED,hK.same,if_true,Sem.run_pure,MapKept.run_setObj_map _ hm,Option.getD_some,acN]
   rfl
  rw [h3]
  have Cu:(es.modify j fun e=>{e with key:=enc k}).toList.map (fun e=>(e.key,e.val))=(l.set j (k,v0)).map (fun p=>(enc p.1,p.2))∧(es.modify j fun e=>{e with key:=enc k}).toList.map (·.born)=es.toList.map (·.born):=by
   constructor
   ·
    apply List.ext_getElem?
    intro i;have hi:=congrArg (fun x=>x[i]?) he
    grind
   apply List.ext_getElem?
   grind
  refine⟨_,_,by first | (simp [ze];done) | (simp [ze];exact⟨rfl,rfl⟩),⟨by grind,iK hn k _,?_,by rw [Cu.2];exact G8⟩,j,v0,{y with key:=enc k},?_,?_,rfl⟩
  ·
   intro x hx
   have:x.born∈(es.modify j fun e=>{e with key:=enc k}).toList.map (·.born):=List.mem_map.2 ⟨x,hx,rfl⟩
   grind
  ·
   grind
  grind
theorem AL{α:Type}:∀{l:List α},l.Nodup→∀{i j:Nat}{x:α},l[i]?=some x→l[j]?=some x→i=j:=fun {l} h {i j x} h1 h2=>by
 obtain⟨hi,e1⟩:=List.getElem?_eq_some_iff.1 h1;obtain⟨hj,e2⟩:=List.getElem?_eq_some_iff.1 h2
 rcases Nat.lt_trichotomy i j with g | g | g
 ·
  exact absurd (e1.trans e2.symm) (List.pairwise_iff_getElem.1 h i j hi hj g)
 ·
  exact g
 exact absurd (e2.trans e1.symm) (List.pairwise_iff_getElem.1 h j i hj hi g)
theorem AM{T:TypeId}{k:κ}{z:Int}(hb:XC enc w b l k z) (v:Value) :
  ∃w':World,(Instr.entryStore T (.map (some b)) (.int .i64 z) v).run P w=.ok () w'∧bj [b] w w'∧KM enc w' b (dH l k v):=by
 obtain⟨es,clock,hm,⟨he,hn,hbo,G8⟩,j,v0,y,hj,hy,hz⟩:=hb;have ze:b<w.heap.size:=(Array.getElem?_eq_some_iff.1 hm).1;have UP:j<es.size:=(Array.getElem?_eq_some_iff.1 hy).1
 have UT:es.findIdx? (fun e=>(e.born:Int) == z)=some j:=by
  rw [Array.findIdx?_eq_some_iff_getElem]
  have hyj:es[j]=y:=by grind
  refine⟨UP,by rw [hyj];simpa using hz,fun i hi=>?_⟩
  have kh:(es[i]'(by omega)).born≠y.born:=fun e=>by
   have h1:(es.toList.map (·.born))[i]?=some y.born:=by grind
   have h2:(es.toList.map (·.born))[j]?=some y.born:=by simp [hy]
   grind [AL]
  grind
 have XD:∃(j':Nat),tX l k 0=some (j',v0)∧j'=j:=by
  cases hx:tX l k 0 with
  | none=>
   have h1:=(mS hx).1;exact absurd (List.mem_map.2 ⟨(k,v0),List.mem_of_getElem? hj,rfl⟩) (Dr.1 h1)
  | some p=>
   obtain⟨j',v1⟩:=p;obtain⟨m,h1,h2,_⟩:=lE hx
   have h3:(l.map (·.1))[m]?=some k:=by rw [List.getElem?_map,h2];rfl
   have h4:(l.map (·.1))[j]?=some k:=by rw [List.getElem?_map,hj];rfl
   have h5:=AL hn h3 h4
   grind
 obtain⟨j',hx,hjj⟩:=XD;subst hjj;obtain⟨m,h1,h2,h3,h4,_⟩:=lE hx
 have qz:j'=m:=by omega
 subst qz;refine⟨_,?_,kQ w b (.map (es.modify j' fun e=>{e with val:=v}) clock),?_⟩
 ·
  simp only [Instr.entryStore,Sem.run_bind,Result.andThen_ok,MapKept.run_getObj_map hm,asInt,asIntOf,Sem.run_pure,UT,MapKept.run_setObj_map _ hm]
 have hyk:y.key=enc k:=by
  have:=congrArg (fun x=>x[j']?) he
  grind
 have Cu:(es.modify j' fun e=>{e with val:=v}).toList.map (fun e=>(e.key,e.val))=(l.set j' (k,v)).map (fun p=>(enc p.1,p.2))∧(es.modify j' fun e=>{e with val:=v}).toList.map (·.born)=es.toList.map (·.born):=by
  constructor
  ·
   apply List.ext_getElem?
   intro i;have hi:=congrArg (fun x=>x[i]?) he
   grind
  apply List.ext_getElem?
  grind
 refine⟨_,_,by first | (simp [ze];done) | (simp [ze];exact⟨rfl,rfl⟩),by rw [h4];exact Cu.1,iK hn k v,?_,by rw [Cu.2];exact G8⟩;intro x hx
 have:x.born∈(es.modify j' fun e=>{e with val:=v}).toList.map (·.born):=List.mem_map.2 ⟨x,hx,rfl⟩
 grind
variable {n:Nat}{kv:KV}{K:KV→World→Prop}{d:Tmp}{ty:TypeId}{pos:String}{af:Array Edge}{g:Option (Nat × Bool)}{T e:TypeId}
theorem OX.mapEntry{zv v:Value}{k:κ}(hK:KK P kt enc) (hT:P.underlying T=some (.map kt e)) (hz:∀w,(zeroValue e).run P w=.ok zv w) (hb:KM enc w b l) (hv:(ck l k).getD zv=v) {x y:Operand}(hx:ev kv x=some (.map (some b))) (hy:ev kv y=some (enc k)) (hd:Nat.blt d n=true)
  (h:∀(z:Int) w',bj [b] w w'→XC enc w' b (dH l k v) k z→K ((d,.tuple #[v,.int .i64 z])::kv) w'):OX P ⟨some d,.mapEntry T x y,ty,pos,af,g⟩ n kv w K:=by
 obtain⟨z,w',hr,h1,h2⟩:=Fg hK hT hz hb k;rw [hv] at hr h2;refine⟨rfl,hd,by simp [known,opers,hx,hy],?_⟩
 have jz:(execOp (mi kv) ⟨some d,.mapEntry T x y,ty,pos,af,g⟩).run P w=.ok (.value (.tuple #[v,.int .i64 z])) w':=by
  simp only [execOp,aK hx,aK hy,Sem.run_bind,hr,Result.andThen_ok];rfl
 rw [jz];exact h z _ h1 h2
theorem OX.entryStore{k:κ}{z:Int}{v:Value}(hb:XC enc w b l k z) {x y u:Operand}(hx:ev kv x=some (.map (some b))) (hy:ev kv y=some (.int .i64 z)) (hu:ev kv u=some v)
  (h:∀w',bj [b] w w'→KM enc w' b (dH l k v)→K kv w'):OX P ⟨none,.entryStore T x y u,ty,pos,af,g⟩ n kv w K:=by
 obtain⟨w',hr,h1,h2⟩:=AM (P:=P) (T:=T) hb v;refine⟨rfl,rfl,by simp [known,opers,hx,hy,hu],?_⟩
 have jz:(execOp (mi kv) ⟨none,.entryStore T x y u,ty,pos,af,g⟩).run P w=.ok .skip w':=by
  simp only [execOp,aK hx,aK hy,aK hu,Sem.run_bind,hr,Result.andThen_ok];rfl
 rw [jz];exact h _ h1 h2
end
section
variable {κ:Type}{enc:κ→Value}{w0 w w':World}{M Z:Nat→Prop}{L:List As}{b:Nat}{l l':List (κ × Value)}{k:κ}{z:Int}
theorem St.acO(h:St w0 M Z w (As.map enc b l::L)) (s:bj [b] w w') (hm:XC enc w' b l' k z):St w0 M Z w' (As.Kf enc b l' k z::L):=h.ox (s.p.mono fun x _ hx=>by simpa [As.map] using hx) hm fun x hx=>.inl hx
theorem St.acP(h:St w0 M Z w (As.Kf enc b l k z::L)) (s:bj [b] w w') (hm:KM enc w' b l'):St w0 M Z w' (As.map enc b l'::L):=h.ox (s.p.mono fun x _ hx=>by simpa [As.Kf] using hx) hm fun x hx=>.inl hx
end
/-! ### a map to owned slices -/
def mC(L:List RE) (k:Key):Option RE:=L.find? fun e=>decide (e.key=k)
def kV(L:List RE) (k:Key):List Key:=((mC L k).map (·.reads)).getD []
def yN(L:List RE) (ml:List (Key × Value)):Prop:=∀k,ck ml k=(mC L k).map fun e=>Value.slice e.a e.n e.c
def vx(bg:Key→List Key) (x y:Key):Key→List Key:=fun z=>if z=x then bg z++[y] else bg z
def rest(L:List RE) (x:Key):List RE:=L.filter fun e=>decide (e.key≠x)
section
variable {L:List RE}{ml:List (Key × Value)}{x y:Key}{e:RE}{a:Option Addr}{n c:Nat}{v:Value}
theorem D0(h:mC L x=some e):e∈L∧e.key=x:=by grind [mC]
theorem yN.nil:yN [] []:=fun _=>rfl
theorem xh(ys:List Key) (z:Key):mC (⟨x,a,n,c,ys⟩::rest L x) z=if z=x then some ⟨x,a,n,c,ys⟩ else mC L z:=by
 unfold mC rest
 grind
theorem yN.put(h:yN L ml) (ys:List Key):yN (⟨x,a,n,c,ys⟩::rest L x) (dH (dH ml x v) x (.slice a n c)):=fun z=>by
 rw [eQ,xh]
 by_cases e:x=z
 ·
  subst e
  simp
 rw [if_neg e,if_neg fun h=>e h.symm,eQ,if_neg e];exact h z
theorem PI(z:Key):kV (⟨x,a,n,c,kV L x++[y]⟩::rest L x) z=vx (kV L) x y z:=by
 unfold vx
 by_cases h:z=x
 ·
  subst h;rw [if_pos rfl]
  show((mC _ z).map _).getD []=_
  rw [xh,if_pos rfl]
  rfl
 rw [if_neg h]
 show((mC _ z).map _).getD []=((mC L z).map _).getD []
 rw [xh,if_neg h]
theorem SZ:kV (⟨x,a,n,c,kV L x++[y]⟩::rest L x)=vx (kV L) x y:=funext PI
theorem Kg(h:(L.map (·.key)).Nodup) (ys:List Key):(((⟨x,a,n,c,ys⟩:RE)::rest L x).map (·.key)).Nodup:=by
 rw [List.map_cons,List.nodup_cons];refine⟨fun h2=>?_,((List.filter_sublist (l:=L)).map (·.key)).nodup h⟩;obtain⟨e,he,h3⟩:=List.mem_map.1 h2
 have:=(List.mem_filter.1 he).2
 simp at this
 exact this h3
theorem D1:∀{L:List RE},(L.map (·.key)).Nodup→mC L x=some e→L.Perm (e::rest L x)
 | [],_,h=>by cases h
 | q::L,hn,h=>by
  rw [List.map_cons,List.nodup_cons] at hn
  unfold mC at h
  by_cases hq:q.key=x
  ·
   rw [List.find?_cons_of_pos (by simpa using hq)] at h
   cases h
   have:rest (e::L) x=L:=by
    unfold rest
    simp_all
   rw [this]
  rw [List.find?_cons_of_neg (by simpa using hq)] at h
  have h2:rest (q::L) x=q::rest L x:=by
   unfold rest
   grind
  rw [h2];exact((D1 hn.2 h).cons q).trans (.swap _ _ _)
variable {w0 w:World}{M Z:Nat→Prop}{l:List As}{EK:Nat}
theorem St.acQ(hn:(L.map (·.key)).Nodup) (hm:yN L ml) (x:Key) (h:St w0 M Z w (As.many (L.map (RE.as EK))::l)):∃(a:Option Addr) (n c:Nat),(ck ml x).getD (.slice none 0 0)=.slice a n c∧St w0 M Z w (As.os RR.key EK 2 a n c (kV L x)::As.many ((rest L x).map (RE.as EK))::l):=by
 cases hf:mC L x with
 | none=>
  refine⟨none,0,0,by rw [hm x,hf];rfl,?_⟩
  have e1:kV L x=[]:=by unfold kV;rw [hf];rfl
  have e2:rest L x=L:=by
   unfold rest
   rw [List.filter_eq_self];intro e he
   have:=List.find?_eq_none.1 hf e he
   simpa using this
  rw [e1,e2];exact h.eX _ _ _
 | some e=>
  refine⟨e.a,e.n,e.c,by rw [hm x,hf];rfl,?_⟩
  have e1:kV L x=e.reads:=by unfold kV;rw [hf];rfl
  rw [e1];exact(St.acx ((D1 hn hf).map (RE.as EK)) h).SK
theorem St.aiW{ys:List Key}(h:St w0 M Z w (As.os RR.key EK 2 a n c ys::As.many ((rest L x).map (RE.as EK))::l)):St w0 M Z w (As.many (((⟨x,a,n,c,ys⟩:RE)::rest L x).map (RE.as EK))::l):=h.Xq
def FBK(L:List RE):FZ where
 p Z w:=∀e∈L,Rd RR.key 2 Z w e.a e.n e.c e.reads
 mono hZ h:=fun e he=>(h e he).mono hZ
 st hs hc h:=fun e he=>(h e he).st hs hc
theorem St.bkF(hl:∀e∈L,e.reads.length≤140737488355328) (h:St w0 M Z w (As.many (L.map (RE.as EK))::l)):St w0 M (fun x=>Z x∨(As.many (L.map (RE.as EK))).fp x) w (As.fz (FBK L)::l):=by
 have hm:(As.many (L.map (RE.as EK))).ok Z w:=h.ok _ M0
 refine h.freeze (B:=As.fz (FBK L)) (fun e he=>?_) fun x hx=>hx
 have h3:Ow RR.key EK 2 Z w e.a e.n e.c e.reads:=As.gs (hm.2 _ (List.mem_map_of_mem (f:=RE.as EK) he))
 exact(h3.rd (hl e he)).mono fun x hx=>hx.imp id fun hx=>⟨_,List.mem_map_of_mem (f:=RE.as EK) he,hx⟩
theorem yN.read(hm:yN L ml) (hf:(FBK L).p Z w) (x:Key):∃(a:Option Addr) (n c:Nat),(ck ml x).getD (.slice none 0 0)=.slice a n c∧Rd RR.key 2 Z w a n c (kV L x):=by
 cases hx:mC L x with
 | none=>
  refine⟨none,0,0,by rw [hm x,hx];rfl,?_⟩
  grind [kV,Rd.nil]
 | some e=>
  refine⟨e.a,e.n,e.c,by rw [hm x,hx];rfl,?_⟩
  have e1:kV L x=e.reads:=by unfold kV;rw [hx];rfl
  rw [e1];exact hf e (D0 hx).1
theorem PJ(hn:(L.map (·.key)).Nodup) (he:e∈L):kV L e.key=e.reads:=by
 have:mC L e.key=some e:=by
  cases hf:mC L e.key with
  | none=>
   have:=List.find?_eq_none.1 hf e he
   simp at this
  | some q=>
   obtain⟨h1,h2⟩:=D0 hf;obtain⟨i,hi⟩:=List.mem_iff_getElem?.1 h1;obtain⟨j,hj⟩:=List.mem_iff_getElem?.1 he
   have g1:(L.map (·.key))[i]?=some e.key:=by grind
   have g2:(L.map (·.key))[j]?=some e.key:=by rw [List.getElem?_map,hj];rfl
   grind [AL]
 unfold kV
 rw [this]
 rfl
end
/-! ### a search there and back -/
section
variable {l:List Rec}{rev:Int}{k:Key}{bg:Key→List Key}{L:List Key}{i q:Nat}{x y:Key}
structure yO (l:List Rec) (rev:Int) (k:Key) (bg:Key→List Key) (L:List Key) (i q:Nat):Prop where
 nY:L.Nodup
 mem:k∈L
 sub:∀x∈L,x=k∨cN l rev k x
 cl:∀j y,j<i→L[j]?=some y→∀x,Ld l rev y x→x∈L∧y∈bg x
 cur:∀y,L[i]?=some y→∀x∈(aG l y).reads.take q,cY l rev x=true→x∈L∧y∈bg x
 bk:∀x y,y∈bg x→y∈L∧Ld l rev y x
 len:∀x,(bg x).length≤4000*i+q
theorem yO.start(h:∀x,bg x=[]):yO l rev k bg [k] 0 0:=
 ⟨by simp,by simp,by simp,fun j y h=>by omega,fun y _ x hx=>by simp at hx,fun x y hy=>(by rw [h] at hy;cases hy),fun x=>by rw [h];simp⟩
theorem yO.op(h:yO l rev k bg L i q) (ho:cY l rev k=true) (hx:x∈L):cY l rev x=true:=by
 rcases h.sub x hx with rfl | h1
 ·
  exact ho
 exact h1.jh
theorem yO.le(h:yO l rev k bg L i q) (ho:cY l rev k=true):L.length≤l.length:=by
 have:=jW h.nY fun x hx=>rG (h.op ho hx)
 simpa using this
theorem yO.skip(h:yO l rev k bg L i q) (hy:L[i]?=some y) (hx:(aG l y).reads[q]?=some x) (gh:cY l rev x=false):yO l rev k bg L i (q+1):=
 {h with
  cur:=fun y' xj x' Ns ho=>by
   rw [hy] at xj
   cases xj
   rcases rP hx Ns with h1 | rfl
   ·
    exact h.cur y hy x' h1 ho
   rw [gh] at ho;cases ho
  len:=fun x=>by have:=h.len x;omega}
theorem vy{z u:Key}(h:u∈bg z):u∈vx bg x y z:=by grind [vx]
theorem D2:y∈vx bg x y x:=by unfold vx;simp
theorem AO{z u:Key}(h:u∈vx bg x y z):u∈bg z∨(z=x∧u=y):=by grind [vx]
theorem HO(z:Key):(vx bg x y z).length≤(bg z).length+1:=by
 unfold vx
 split <;> simp
theorem yO.wF(h:yO l rev k bg L i q) (hy:L[i]?=some y) (hx:(aG l y).reads[q]?=some x) (ho:cY l rev x=true) (hm:x∈L):yO l rev k (vx bg x y) L i (q+1):=
 {h with
  cl:=fun j y' hj xj x' hl=>⟨(h.cl j y' hj xj x' hl).1,vy (h.cl j y' hj xj x' hl).2⟩
  cur:=fun y' xj x' Ns Jm=>by
   rw [hy] at xj
   cases xj
   rcases rP hx Ns with h1 | rfl
   ·
    have:=h.cur y hy x' h1 Jm
    grind [vy]
   exact⟨hm,D2⟩
  bk:=fun z u hu=>by
   rcases AO hu with h1 | ⟨rfl,rfl⟩
   ·
    exact h.bk z u h1
   exact⟨List.mem_of_getElem? hy,List.mem_of_getElem? hx,ho⟩
  len:=fun z=>by have:=h.len z;grind [HO]}
theorem yO.new(h:yO l rev k bg L i q) (hy:L[i]?=some y) (hx:(aG l y).reads[q]?=some x) (ho:cY l rev x=true) (hm:x∉L):yO l rev k (vx bg x y) (L++[x]) i (q+1):=by
 have zm:i<L.length:=(List.getElem?_eq_some_iff.1 hy).1;have UQ:Ld l rev y x:=⟨List.mem_of_getElem? hx,ho⟩
 have wF:∀{j z},j≤i→(L++[x])[j]?=some z→L[j]?=some z:=fun hj h2=>by grind
 refine⟨by grind [nY],by simp [h.mem],fun z hz=>?_,fun j y' hj xj x' hl=>?_,fun y' xj x' Ns Jm=>?_,fun z u hu=>?_,fun z=>?_⟩
 ·
  rcases List.mem_append.1 hz with hz | hz
  ·
   exact h.sub z hz
  rw [List.mem_singleton] at hz;subst hz
  rcases h.sub y (List.mem_of_getElem? hy) with rfl | h1
  ·
   exact .inr (.one UQ)
  exact .inr (.step h1 UQ)
 ·
  have h1:=h.cl j y' hj (wF (by omega) xj) x' hl
  grind [vy]
 ·
  have Nt:=wF (Nat.le_refl _) xj;rw [hy] at Nt
  cases Nt
  rcases rP hx Ns with h1 | rfl
  ·
   have:=h.cur y hy x' h1 Jm
   grind [vy]
  exact⟨by simp,D2⟩
 ·
  rcases AO hu with h1 | ⟨rfl,rfl⟩
  ·
   have:=h.bk z u h1
   grind
  grind
 have:=h.len z
 grind [HO]
theorem yO.next(h:yO l rev k bg L i q) (hy:L[i]?=some y) (hq:(aG l y).reads.length≤q) (h4:q≤4000):yO l rev k bg L (i+1) 0:=
 {h with
  cl:=fun j y' hj xj x' hl=>by
   rcases Nat.lt_or_ge j i with h1 | h1
   ·
    exact h.cl j y' h1 xj x' hl
   have e:j=i:=by omega
   subst e;rw [hy] at xj
   cases xj
   exact h.cur y hy x' (by rw [List.take_of_length_le hq];exact hl.1) hl.2
  cur:=fun _ _ x hx=>by simp at hx
  len:=fun x=>by have:=h.len x;omega}
theorem yO.done(h:yO l rev k bg L i q) (hi:L.length≤i) (x:Key):x∈L↔x=k∨cN l rev k x:=by
 have uT:∀y∈L,∀x,Ld l rev y x→x∈L∧y∈bg x:=fun y hy x hl=>by
  obtain⟨j,hj⟩:=List.mem_iff_getElem?.1 hy
  have:=(List.getElem?_eq_some_iff.1 hj).1
  exact h.cl j y (by omega) hj x hl
 refine⟨h.sub x,?_⟩;rintro(rfl | h1)
 ·
  exact h.mem
 induction h1 with
 | one h1=>exact(uT _ h.mem _ h1).1
 | step _ h2 ih=>exact(uT _ ih _ h2).1
theorem yO.aiY(h:yO l rev k bg L i q) (hi:L.length≤i) (x y:Key):y∈bg x↔(y=k∨cN l rev k y)∧Ld l rev y x:=by
 rw [← h.done hi y];refine⟨h.bk x y,fun⟨h1,h2⟩=>?_⟩;obtain⟨j,hj⟩:=List.mem_iff_getElem?.1 h1
 have:=(List.getElem?_eq_some_iff.1 hj).1
 exact(h.cl j y (by omega) hj x h2).2
structure D3 (l:List Rec) (rev:Int) (k:Key) (bg:Key→List Key) (L:List Key) (i q:Nat):Prop where
 nY:L.Nodup
 mem:k∈L
 sub:∀x∈L,x=k∨DV l rev k x
 cl:∀j y,j<i→L[j]?=some y→∀x∈bg y,x∈L
 cur:∀y,L[i]?=some y→∀x∈(bg y).take q,x∈L
theorem D3.start:D3 l rev k bg [k] 0 0:=⟨by simp,by simp,by simp,fun j y h=>by omega,fun y _ x hx=>by simp at hx⟩
theorem D3.le(h:D3 l rev k bg L i q) (ho:cY l rev k=true):L.length≤l.length:=by
 have:=jW h.nY fun x hx=>rG (l:=l) (rev:=rev) (by
  rcases h.sub x hx with rfl | h1
  ·
   exact ho
  exact h1.jh)
 simpa using this
theorem D3.has(h:D3 l rev k bg L i q) (hy:L[i]?=some y) (hx:(bg y)[q]?=some x) (hm:x∈L):D3 l rev k bg L i (q+1):=
 {h with
  cur:=fun y' xj x' Ns=>by
   rw [hy] at xj
   cases xj
   rcases rP hx Ns with h1 | rfl
   ·
    exact h.cur y hy x' h1
   exact hm}
theorem D3.add(h:D3 l rev k bg L i q) (WR:∀x y,y∈bg x↔(y=k∨cN l rev k y)∧Ld l rev y x) (hy:L[i]?=some y) (hx:(bg y)[q]?=some x) (hm:x∉L):D3 l rev k bg (L++[x]) i (q+1):=by
 have zm:i<L.length:=(List.getElem?_eq_some_iff.1 hy).1;obtain⟨h1,h2⟩:=(WR y x).1 (List.mem_of_getElem? hx)
 have hkx:cN l rev k x:=by grind [mem]
 have hxk:cN l rev x k:=by
  rcases h.sub y (List.mem_of_getElem? hy) with rfl | h3
  ·
   exact .one h2
  exact(cN.one h2).trans h3.2
 have wF:∀{j z},j≤i→(L++[x])[j]?=some z→L[j]?=some z:=fun hj h2=>by grind
 refine⟨by grind [nY],by simp [h.mem],fun z hz=>?_,fun j y' hj xj x' Ns=>by simp [h.cl j y' hj (wF (by omega) xj) x' Ns],fun y' xj x' Ns=>?_⟩
 ·
  rcases List.mem_append.1 hz with hz | hz
  ·
   exact h.sub z hz
  rw [List.mem_singleton] at hz;subst hz;exact .inr ⟨hkx,hxk⟩
 have Nt:=wF (Nat.le_refl _) xj;rw [hy] at Nt
 cases Nt
 rcases rP hx Ns with h3 | rfl
 ·
  simp [h.cur y hy x' h3]
 simp
theorem D3.next(h:D3 l rev k bg L i q) (hy:L[i]?=some y) (hq:(bg y).length≤q):D3 l rev k bg L (i+1) 0:=
 {h with
  cl:=fun j y' hj xj x' Ns=>by
   rcases Nat.lt_or_ge j i with h1 | h1
   ·
    exact h.cl j y' h1 xj x' Ns
   have e:j=i:=by omega
   subst e;rw [hy] at xj
   cases xj
   exact h.cur y hy x' (by grind [List.take_of_length_le])
  cur:=fun _ _ x hx=>by simp at hx}
theorem D3.done(h:D3 l rev k bg L i q) (ho:cY l rev k=true) (WR:∀x y,y∈bg x↔(y=k∨cN l rev k y)∧Ld l rev y x) (hi:L.length≤i) (x:Key):x∈L↔x∈aF l rev k:=by
 have uT:∀y∈L,∀x∈bg y,x∈L:=fun y hy x hx=>by
  obtain⟨j,hj⟩:=List.mem_iff_getElem?.1 hy
  have:=(List.getElem?_eq_some_iff.1 hj).1
  exact h.cl j y (by omega) hj x hx
 rw [dM]
 constructor
 ·
  intro hx
  exact(h.sub x hx).imp id fun h1=>⟨ho,h1⟩
 rintro(rfl | ⟨_,h1,h2⟩)
 ·
  exact h.mem
 have key:∀{x y:Key},cN l rev x y→(x=k∨cN l rev k x)→y∈L→x∈L:=by
  intro x y h2 h1
  induction h2 with
  | one h3=>grind
  | step h3 h4 ih=>
   refine fun hy=>ih (uT _ hy _ ((WR _ _).2 ⟨.inr ?_,h4⟩))
   rcases h1 with rfl | h1
   ·
    exact h3
   exact h1.trans h3
 exact key h2 (.inr h1) h.mem
theorem D3.group(h:D3 l rev k bg L i q) (ho:cY l rev k=true) (WR:∀x y,y∈bg x↔(y=k∨cN l rev k y)∧Ld l rev y x) (hi:L.length≤i) {L':List Key}(hs:Xt L') (hp:L'.Perm L):L'=aF l rev k:=
 J3 hs (xd _ _ _) fun x=>(hp.mem_iff).trans (h.done ho WR hi x)
end
/-! ### what has changed, and why a key would be run -/
section
variable {val:Key→ByteArray}{x:dV}{k:Key}{r:Rec}
theorem XE(hi:aB k=true):bR val x k=(ek x.ah k).changed:=by unfold bR;rw [if_pos hi]
theorem XF(hi:aB k=false) (h:aD x.ak k=none):bR val x k=x.ae:=by grind [bR]
theorem XG(hi:aB k=false) (h:aD x.ak k=some r) (hv:r.az=x.ae):bR val x k=r.changed:=by grind [bR,ct]
theorem Mb(hi:aB k=false) (h:aD x.ak k=some r) (hv:¬r.az=x.ae):bR val x k=if val k=r.value then r.changed else x.ae:=by
 unfold bR
 rw [hi,ct h,h]
 grind
def On(val:Key→ByteArray) (x:dV) (c:tz):Bool:=decide ((aG x.ak c.fy).az<bR val x c.read)
noncomputable def l6(val:Key→ByteArray) (x:dV) (k:Key):Int × Key:=
 if (aB k || aO x k)=true then (0,fW)
 else match aD x.ak k with
  | none=>(1,fW)
  | some r=>if r.cq=true then (3,fW) else
   match (cC x.ak (aF x.ak x.ae k)).find? (On val x) with
   | none=>(0,fW)
   | some c=>(if c.fy=k then 2 else 3,c.read)
def vA(p:Int × Key):List Value:=[.int .i64 p.1,.int .i64 p.2.kind,.string p.2.text]
theorem PK(h:(aB k || aO x k)=true):l6 val x k=(0,fW):=by unfold l6;rw [if_pos h]
theorem Kh(h:(aB k || aO x k)=false) (hf:aD x.ak k=none):l6 val x k=(1,fW):=by unfold l6;rw [if_neg (by rw [h];simp),hf]
theorem D4(h:(aB k || aO x k)=false) (hf:aD x.ak k=some r) (hd:r.cq=true):l6 val x k=(3,fW):=by
 unfold l6
 grind
theorem HP(h:(aB k || aO x k)=false) (hf:aD x.ak k=some r) (hd:r.cq=false) (hn:∀j c,j<(cC x.ak (aF x.ak x.ae k)).length→(cC x.ak (aF x.ak x.ae k))[j]?=some c→On val x c=false):l6 val x k=(0,fW):=by
 unfold l6
 rw [if_neg (by rw [h];simp),hf]
 simp only
 rw [if_neg (by rw [hd];simp),rB (Nat.le_refl _) hn]
theorem S0(h:(aB k || aO x k)=false) (hf:aD x.ak k=some r) (hd:r.cq=false) {q:Nat}{c:tz}(hc:(cC x.ak (aF x.ak x.ae k))[q]?=some c) (hn:∀j c,j<q→(cC x.ak (aF x.ak x.ae k))[j]?=some c→On val x c=false) (hq:On val x c=true):l6 val x k=(if c.fy=k then 2 else 3,c.read):=by
 obtain⟨h1,rfl⟩:=List.getElem?_eq_some_iff.1 hc
 unfold l6
 rw [if_neg (by rw [h];simp),hf]
 simp only
 rw [if_neg (by rw [hd];simp),ki h1 hn hq]
def KR(ab:List aJ) (l:List Rec):Prop:=∀r∈l,gS ab r.key∧aB r.key=false∧∀a∈r.reads,gS ab a
theorem KR.ai0{ab:List aJ}{l:List Rec}(h:KR ab l):∀r∈l,gY r.key:=fun r hr=>(h r hr).1.gY
theorem KR.aH{ab:List aJ}{l:List Rec}(h:KR ab l) (hi:aB k=true):aD l k=none:=by
 cases hf:aD l k with
 | none=>rfl
 | some r=>
  obtain⟨h1,h2⟩:=bm hf
  have:=(h r h1).2.1
  grind
theorem S1{l:List Rec}{rev:Int}(hf:aD l k=some r):∀m∈aF l rev k,∃q,aD l m=some q:=fun m hm=>by
 rcases dM.1 hm with rfl | ⟨_,h⟩
 ·
  exact⟨r,hf⟩
 obtain⟨q,hq,_⟩:=cO.1 h.jh;exact⟨q,hq⟩
theorem Nu{l:List Rec}(hr:∀r∈l,r.reads.length≤4000) {group:List Key}(hg:group.length≤4001) (i:Nat):((group.take i).flatMap fun m=>eE group m (aG l m).reads).length≤100000000:=by
 have h1:∀s:List Key,(s.flatMap fun m=>eE group m (aG l m).reads).length≤s.length*4000:=by
  intro s
  induction s with
  | nil=>simp
  | cons m s ih=>
   simp only [List.flatMap_cons,List.length_append,List.length_cons];have h2:=mJ group m (aG l m).reads
   have h3:(aG l m).reads.length≤4000:=by
    cases hf:aD l m with
    | none=>grind [aG,pd]
    | some r=>grind [ct,bm]
   rw [Nat.add_mul]
   omega
 grind
end
end Go.Rc

namespace Go.Rc
open Go
theorem rS(n:dE):∀l:List dE,(ji n l false).find? (fun x=>x.key == n.key)=some n
 | []=>by simp [ji]
 | x::xs=>by
  by_cases h:0≤cE x.key n.key
  ·
   simp [ji,h]
  have h0:¬cE x.key n.key=0:=by omega
  have kh:(x.key == n.key)=false:=by
   rw [beq_eq_false_iff_ne];intro e;rw [e,jF] at h0;exact h0 rfl
  have:=rS n xs
  simp [ji,h,h0,kh,this]
theorem AQ(n:dE) (l:List dE):ek (ji n l false) n.key=n:=by grind [ek,rS]
structure ApR (x:dV) (l:List Change) (y:dV):Prop where
 same:∀k,(∀c∈l,c.key≠k)→ek y.ah k=ek x.ah k
 how:(y.ae=x.ae∧y.ah=x.ah)∨(y.ae=x.ae+1∧∀k,ek y.ah k=ek x.ah k∨(ek y.ah k).changed=x.ae+1)
theorem ApR.refl(x:dV) (l:List Change):ApR x l x:=⟨fun _ _=>rfl,.inl ⟨rfl,rfl⟩⟩
theorem S2{rev:Int}{l li:List dE}(h:∀k,ek li k=ek l k∨(ek li k).changed=rev) (n:dE) (hn:n.changed=rev) (k:Key):ek (ji n li false) k=ek l k∨(ek (ji n li false) k).changed=rev:=by
 by_cases e:n.key=k
 ·
  grind [AQ]
 rw [DM e];exact h k
/-! ### tasks -/
section
variable {ab:List aJ}{H:Int→List dE}{x b:dV}{bU:List Key}{k:Key}
theorem TI.begin(hR:ay ab) (h:TI ab H x b [] bU) (hk:gS ab k) (hn:gH b [] k=true):TI ab H x b [⟨k,false,0,[],[]⟩] bU:=by
 have kh:¬(aB k=true∨lj [] k=true∨aO b k=true):=fun h=>by grind [um]
 have h1:aB k=false:=by grind
 have h2:aO b k=false:=by grind
 obtain⟨m,hm,Xj,_⟩:=hk.jZ h1;refine⟨h.bi.U8 fun y hy=>?_,h.wy,?_,fun f hf=>?_⟩
 ·
  simp [lj] at hy
 ·
  have:=TI.snoc (ab:=ab) (H:=H) (b0:=x) (b:=b) (p:=[]) (f:=⟨k,false,0,[],[]⟩) (fun p1 g q hp=>by cases p1 <;> cases hp) ⟨⟨m,hm,Xj⟩,rfl,fun i j _ _ _ ho=>(by simp [lj] at ho),fun hc=>(by cases hc),fun _=>⟨rfl,rfl,Int.le_refl _,fun _ j c hj=>(by simp at hj)⟩⟩
  exact this
 rw [List.mem_singleton] at hf;subst hf;refine⟨fun hr=>?_,h.wy.AG h2⟩
 have:=h.wy.SU k hr
 grind
def TO(ab:List aJ) (x:dV) (t:xa):Prop:=∃H:Int→List dE,TI ab H x t.base t.stack t.bU
theorem TO.of{t:xa}(h:Bh ab t.base) (hs:t.stack=[]) (hr:t.bU=[]):TO ab t.base t:=by
 obtain⟨H,h⟩:=h;refine⟨H,?_⟩;rw [hs,hr];exact⟨h.U8 fun k hk=>(by cases hk),Wy.start _,fun p f q hp=>(by cases p <;> cases hp),fun f hf=>(by cases hf)⟩
theorem S3{aH:List dE}{rev:Int}(hb:BK ab aH rev b) (hnu:aO b k=false) (hd:(!(aD b.ak k).isSome || (aG b.ak k).cq)=false):Live b.ak b.ae k:=by
 cases hf:aD b.ak k with
 | none=>rw [hf] at hd;cases hd
 | some r=>
  rw [hf,ct hf] at hd;have hv:r.az≤b.ae:=(hb.xc.v r (bm hf).1).2
  have kh:r.az≠b.ae:=fun e=>by grind [cW]
  exact⟨r,hf,by simpa using hd,by omega⟩
theorem TO.begin{t:xa}(hR:ay ab) (h:TO ab x t) (hs:t.stack=[]) (hk:gS ab k) (hn:gH t.base [] k=true) (g:List Key):TO ab x {t with goals:=g,stack:=[⟨k,false,0,[],[]⟩]}:=by
 obtain⟨H,h⟩:=h;rw [hs] at h;exact⟨H,h.begin hR hk hn⟩
theorem TO.goals{t:xa}(h:TO ab x t) (g:List Key):TO ab x {t with goals:=g}:=h
theorem TO.PN{t:xa}{b':dV}{l':List eH}{rk:List Key}{er:Int}(hR:ay ab) (h:TO ab x t) (hg:Good ab x.ah ⟨t.base,[],[],0⟩) (hfs:∃p f,p++[f]=t.stack∧FS ab (valOf ab x.ah) t.base p f b' l' rk er):er=0∧TO ab x {t with base:=b',stack:=l',bU:=t.bU++rk}:=by
 obtain⟨H,h⟩:=h;obtain⟨p,f,hp,hfs⟩:=hfs;rw [← hp] at h;obtain⟨h1,h2⟩:=Ka hR h hg hfs;exact⟨h1,H,h2⟩
/-! ### cancelled tasks -/
def ib(l:List eH) (rs:List Rec):List Rec:=l.foldl (fun rs f=>if aA f.key then jK rs f.key else rs) rs
theorem vB(l:List eH) (f:eH) (rs:List Rec):ib (l++[f]) rs=if aA f.key then jK (ib l rs) f.key else ib l rs:=by grind [ib]
theorem Ki(rs:List Rec) (k:Key):(jK rs k).Sublist rs:=by grind [jK,List.filter_sublist]
theorem rT:∀(l:List eH) (rs:List Rec),(ib l rs).Sublist rs∧∀r,r∈ib l rs↔r∈rs∧(lj l r.key && aA r.key)=false
 | [],rs=>⟨List.Sublist.refl _,fun r=>by simp [ib,lj]⟩
 | f::l,rs=>by
  have e:ib (f::l) rs=ib l (if aA f.key then jK rs f.key else rs):=rfl;obtain⟨h1,h2⟩:=rT l (if aA f.key then jK rs f.key else rs);rw [e];refine⟨h1.trans ?_,fun r=>?_⟩
  ·
   grind [Ki]
  rw [h2 r]
  have ho:lj (f::l) r.key=(decide (f.key=r.key) || lj l r.key):=by simp [lj]
  rw [ho]
  by_cases hc:aA f.key=true
  ·
   rw [if_pos hc]
   unfold jK
   grind
  grind
theorem TO.cancel{t:xa}(h:TO ab x t):Bh ab ⟨t.base.ae,t.base.ah,ib t.stack t.base.ak⟩∧(∀y∈t.bU,aO ⟨t.base.ae,t.base.ah,ib t.stack t.base.ak⟩ y=true)∧(∀y,aO x y=true→aO ⟨t.base.ae,t.base.ah,ib t.stack t.base.ak⟩ y=true)∧(∀y∈t.bU,aB y=false∧aO x y=false)∧t.bU.Nodup:=by
 obtain⟨H,h⟩:=h;obtain⟨h1,h2⟩:=rT t.stack t.base.ak
 have hb:=h.bi.drop h1 fun r hr=>((h2 r).1 hr).2
 have bF:qc (ib t.stack t.base.ak):=hb.st
 have ly:∀y,aO t.base y=true→lj t.stack y=false→aO ⟨t.base.ae,t.base.ah,ib t.stack t.base.ak⟩ y=true:=fun y hu hn=>by
  obtain⟨r,hr,hv⟩:=cW.1 hu;obtain⟨g1,g2⟩:=bm hr
  grind [cW,gA]
 have LS:∀y,(∀f∈t.stack,f.key≠y)→lj t.stack y=false:=fun y hy=>by grind [lj]
 refine⟨⟨H,hb⟩,fun y hy=>ly y (h.wy.SU y hy) (LS y fun f hf e=>?_),fun y hy=>ly y ?_ (LS y fun f hf e=>?_),fun y hy=>⟨(h.wy.bU y hy).1,(h.wy.bU y hy).2.1⟩,h.wy.nY⟩
 ·
  rw [← e] at hy;exact(h.nr f hf).1 hy
 ·
  have:=h.wy.ev
  have h4:t.base.ae=x.ae:=h.wy.rev;exact this.aO h4 hy
 have:=(h.nr f hf).2
 rw [e,hy] at this
 cases this
/-! ### bases of the mill -/
structure LC (ab:List aJ) (x:dV):Prop where
 lb:LB ab x
 bh:Bh ab x
theorem LC.apply(h:LC ab x) {y:dV}{l:List Change}(ha:ApR x l y) (hr:y.ak=x.ak) (h0:x.ae≤y.ae) (h1:y.ae≤1073741824) (hG:l4 y.ae y.ah) (h6:y.ah.length≤64):LC ab y:=by
 refine⟨h.lb.apply hr h0 h1 hG h6,?_⟩
 rcases ha.how with⟨e1,e2⟩ | ⟨e1,e2⟩
 ·
  obtain⟨yr,yi,yc⟩:=y;simp only at hr e1 e2;subst hr e1 e2;exact h.bh
 exact h.bh.apply hr e1 fun k=>by rw [e1];exact e2 k
theorem LC.sub(h:LC ab x) {rs:List Rec}(hs:rs.Sublist x.ak):LC ab ⟨x.ae,x.ah,rs⟩:=⟨h.lb.sub hs,h.bh.drop hs⟩
theorem LC.task{t:xa}(h:LC ab x) (hb:BK ab x.ah x.ae t.base) (ht:TO ab x t):LC ab ⟨t.base.ae,t.base.ah,ib t.stack t.base.ak⟩:=⟨h.lb.task hb (rT _ _).1,ht.cancel.1⟩
theorem LC.req(hR:ay ab) (h:LC ab x) {goals:List Key}(hg:∀k∈goals,pU ab k) (h32:goals.length≤32):∃(f:Nat) (s':ES),iC ab x goals=0∧Good ab x.ah ⟨x,[],[],0⟩∧(∀k∈goals,gS ab k)∧eU ab (valOf ab x.ah) f ⟨x,[],[],0⟩ goals=some s'∧s'.bU.length≤1000000∧LC ab (s'.base x)∧(s'.base x).ae=x.ae∧s'.e=0∧s'.base x=s'.b∧Wy ab x s'∧(∀k∈goals,aB k=false→aO s'.b k=true)∧∀r∈s'.b.ak,r.az=s'.b.ae→r.value=valOf ab x.ah r.key:=by
 obtain⟨f,s',h1,h2,h3,h4,h5,h6,h7⟩:=h.lb.req hR hg h32;obtain⟨g1,g2,g3,g4,g5,g6⟩:=h.bh.request hR h2 h3 h4
 have e:s'.base x=s'.b:=by unfold ES.base;rw [if_pos g1]
 exact⟨f,s',h1,h2,h3,h4,h5,⟨h6,by rw [e];exact g2⟩,h7,g1,e,g3,g5,g6⟩
theorem LC.nil(ab:List aJ) (y:dV) (hr:y.ak=[]) (h0:0≤y.ae) (h1:y.ae≤1073741824) (hG:l4 y.ae y.ah) (h6:y.ah.length≤64):LC ab y:=by
 refine⟨LB.nil y hr h0 h1 hG h6,?_⟩;obtain⟨yr,yi,yc⟩:=y
 grind [Bh.new]
end
/-! ### reasons -/
section
variable {ab:List aJ}{x y:dV}{k:Key}{s:ES}
theorem S4{val:Key→ByteArray}:(l6 val x k).1≠0↔PA val x k:=by
 unfold PA
 cases ll:aB k || aO x k with
 | true=>
  rw [PK ll]
  grind
 | false=>
  have acS:=ll;rw [Bool.or_eq_false_iff] at ll
  cases hf:aD x.ak k with
  | none=>
   rw [Kh acS hf]
   grind
  | some r=>
   cases hd:r.cq with
   | true=>grind [D4,ct]
   | false=>
    by_cases cy:∀c∈cC x.ak (aF x.ak x.ae k),On val x c=false
    ·
     rw [HP acS hf hd fun j c _ hc=>cy c (List.mem_of_getElem? hc)];refine⟨fun h=>absurd rfl h,?_⟩;rintro⟨_,_,h | h | ⟨m,a,h1,h2,h3,h4⟩⟩
     ·
      cases h
     ·
      grind [ct]
     have:=cy ⟨m,a⟩ (eR.2 ⟨h1,h2,h3⟩)
     grind [On]
    have hex:∃c,c∈cC x.ak (aF x.ak x.ae k)∧On val x c=true:=Classical.byContradiction fun hn=>cy fun c hc=>by grind
    have hw:(l6 val x k).1≠0:=by
     unfold l6
     grind
    refine⟨fun _=>⟨ll.1,ll.2,.inr (.inr ?_)⟩,fun _=>hw⟩;obtain⟨c,hc,hcd⟩:=hex;obtain⟨h1,h2,h3⟩:=eR.1 hc;exact⟨c.fy,c.read,h1,h2,h3,by unfold On at hcd;exact of_decide_eq_true hcd⟩
def strip(r:Rec):Rec:={r with az:=0,cq:=false}
def iO(l:List Rec) (bU:List Key):List Rec:=l.filter fun r=>!decide (r.key∈bU)
theorem Mc{f:Rec→Rec}(hf:∀r,(f r).key=r.key):∀{l l':List Rec},qc l→qc l'→(∀y,(aD l y).map f=(aD l' y).map f)→l.map f=l'.map f
 | [],[],_,_,_=>rfl
 | [],r::l',_,h',h=>by
  have h1:=h r.key;rw [gA h' (List.mem_cons_self ..)] at h1
  cases h1
 | r::l,[],hs,_,h=>by
  have h1:=h r.key;rw [gA hs (List.mem_cons_self ..)] at h1
  cases h1
 | r::l,r'::l',hs,Lz,h=>by
  obtain⟨h1,h2⟩:=List.pairwise_cons.1 hs;obtain⟨h3,h4⟩:=List.pairwise_cons.1 Lz
  have hk:r.key=r'.key:=by
   have a1:=h r.key;rw [gA hs (List.mem_cons_self ..)] at a1;obtain⟨q,hq,eq⟩:=Option.map_eq_some_iff.1 a1.symm;have a2:=h r'.key;rw [gA Lz (List.mem_cons_self ..)] at a2;obtain⟨p,hp,ep⟩:=Option.map_eq_some_iff.1 a2
   grind [bm,qe]
  have hh:=h r.key;rw [gA hs (List.mem_cons_self ..),hk,gA Lz (List.mem_cons_self ..)] at hh;have he:f r=f r':=Option.some.inj hh;rw [List.map_cons,List.map_cons,he]
  congr 1
  refine Mc hf h2 h4 fun y=>?_
  by_cases hy:y=r.key
  ·
   have n1:aD l y=none:=by grind [aD,jF]
   grind [aD,jF]
  have:=h y
  unfold aD at this ⊢
  grind
theorem mM{l:List Rec}{bU:List Key}(y:Key):aD (iO l bU) y=if y∈bU then none else aD l y:=by
 unfold aD iO
 grind
theorem yf{l:List Rec}{bU:List Key}(h:qc l):qc (iO l bU):=h.sublist List.filter_sublist
theorem Wy.sound(h:Wy ab x s) (h1:qc x.ak) (h2:qc s.b.ak) {bU:List Key}(hr:∀y,y∈bU↔y∈s.bU):(∀y∈bU,(l6 (valOf ab x.ah) x y).1≠0)∧(iO x.ak bU).map strip=(iO s.b.ak bU).map strip:=by
 refine⟨fun y hy=>S4.2 (h.bU y ((hr y).1 hy)),Mc (f:=strip) (fun _=>rfl) (yf h1) (yf h2) fun y=>?_⟩;rw [mM,mM]
 by_cases hy:y∈bU
 ·
  rw [if_pos hy,if_pos hy]
 rw [if_neg hy,if_neg hy]
 rcases h.ev.pt y with e | ⟨_,r,e1,e2,e3,e4 | e4⟩ | ⟨⟨e1,_⟩,_⟩
 ·
  rw [e]
 ·
  rw [e1,e4];rfl
 ·
  rw [e1,e4];rfl
 exact absurd ((hr y).2 e1) hy
end
end Go.Rc

namespace Go.Rc
open Go
instance:Inhabited Key:=⟨fW⟩
theorem Nv{w w':World}(h:bj [] w w'):∃q os,w'=Sort.grow (w.drewN q) os:=by
 refine⟨w'.drawn - w.drawn,w'.heap.extract w.heap.size w'.heap.size,?_⟩;obtain⟨ho,ht,hu,hs,hd,hb⟩:=h
 have hh:w'.heap=w.heap++w'.heap.extract w.heap.size w'.heap.size:=by grind
 have Vb:w'.drawn=w.drawn+(w'.drawn - w.drawn):=by omega
 generalize w'.heap.extract w.heap.size w'.heap.size=os at hh
 generalize w'.drawn - w.drawn=q at Vb
 cases w'
 cases w
 simp only at ho ht hu hh Vb;subst ho ht hu hh Vb
 rfl
theorem S5:Sort.SWO (Proofs.ltOf cE):=by
 refine⟨fun x=>?_,fun x y z h1 h2=>?_,fun x y z h1 h2=>?_⟩
 ·
  grind [Proofs.ltOf,jF]
 ·
  unfold Proofs.ltOf at *
  rw [decide_eq_true_eq] at *;exact j8 h1 h2
 grind [Proofs.ltOf,lK,j8,qb]
theorem sT(l:List Key) (t:Nat) (ht:t<l.length*2):(l.map Key.cells).flatten[t]?=some ((Key.cells (l.toArray[t / 2]!))[t % 2]!):=by
 have hi:t / 2<l.length:=by omega
 have hr:(l.map Key.cells)[t / 2]?=some l[t / 2].cells:=by grind
 have e:t=t / 2*2+t % 2:=by omega
 have h1:(l.toArray[t / 2]!)=l[t / 2]:=by simp [hi]
 rw [h1]
 have h:=n5 (l.map Key.cells) 2 (t / 2) _ (fun r hr=>by obtain⟨x,_,rfl⟩:=List.mem_map.1 hr;rfl) hr (t % 2) ((Key.cells l[t / 2])[t % 2]!) (by
  have h2:t % 2=0∨t % 2=1:=by omega
  rcases h2 with h2 | h2 <;> rw [h2] <;> rfl)
 rw [← e] at h;exact h
theorem Kj{w:World}{b E:Nat}{cur:Array Value}{l:List Key}(hb:w.heap[b]?=some (.cells cur E (0,0))) (ht:cur.toList.take (l.length*2)=(l.map Key.cells).flatten):Sort.HoldsK Key.cells 2 w b 0 l.toArray:=by
 unfold Sort.HoldsK
 intro j hj;rw [Sort.size_flatK,List.size_toArray] at hj;have h1:=sT l j hj;rw [← ht,List.getElem?_take,if_pos hj,Array.getElem?_toList] at h1;refine⟨?_,?_⟩
 ·
  unfold World.cell?
  simp only [hb,Nat.zero_add]
  grind [Sort.get_flatK]
 grind [World.frozen?]
theorem PO{w:World}{b E m:Nat}{os:Array Obj}{cur:Array Value}{l l':List Key}(hb:w.heap[b]?=some (.cells cur E (0,0))) (ht:cur.toList.take (l.length*2)=(l.map Key.cells).flatten) (hl:l'.length=l.length):∃tW:Array Value,(Proofs.sortWorldK Key.cells 2 w b 0 m l'.toArray os).heap[b]?=some (.cells tW E (0,0))∧tW.size=cur.size∧tW.toList.take (l'.length*2)=(l'.map Key.cells).flatten:=by
 have ed:b<w.heap.size:=(Array.getElem?_eq_some_iff.1 hb).1;refine⟨Sort.putCells id 0 (Sort.flatK Key.cells 2 l'.toArray) cur,?_,by unfold Sort.putCells;simp,?_⟩
 ·
  unfold Proofs.sortWorldK
  rw [Sort.heap_grow_old _ _ (by grind [Sort.putRowK,Sort.putRow,Sort.mapBlock,Sort.ahead])]
  unfold Sort.putRowK Sort.putRow Sort.mapBlock Sort.ahead
  simp only [Array.getElem?_modify,if_true,hb]
  rfl
 have hlen:l.length*2≤cur.size:=by
  have h1:=congrArg List.length ht
  have h2:(l.map Key.cells).flatten.length=l.length*2:=by
   have h3:=sT l
   clear h1 ht hl hb ed
   induction l with
   | nil=>rfl
   | cons x r ih=>grind [sT,Key.cells]
  grind
 apply List.ext_getElem?
 intro t
 by_cases h:t<l'.length*2
 ·
  rw [sT l' t h,List.getElem?_take,if_pos h,Array.getElem?_toList]
  unfold Sort.putCells
  rw [Array.getElem?_mapIdx,Array.getElem?_eq_getElem (by omega),Option.map_some];rw [if_pos ⟨Nat.zero_le _,by simp_all⟩,Nat.sub_zero,Sort.get_flatK _ _ _ _ (by rw [List.size_toArray];exact h)]
  rfl
 rw [List.getElem?_eq_none (by rw [List.length_take];omega)]
 have h2:∀l:List Key,(l.map Key.cells).flatten.length=l.length*2:=fun l=>by
  induction l with
  | nil=>rfl
  | cons x r ih=>grind [Key.cells]
 grind
theorem PQ{w:World}{b m:Nat}{os:Array Obj}{d:Array Key}:bj [b] w (Proofs.sortWorldK Key.cells 2 w b 0 m d os):=by
 refine⟨rfl,rfl,rfl,?_,?_,fun k hk hn=>?_⟩
 ·
  unfold Proofs.sortWorldK Sort.grow Sort.putRowK Sort.putRow Sort.mapBlock Sort.ahead
  simp
 ·
  exact Nat.le_add_right _ _
 unfold Proofs.sortWorldK
 rw [Sort.heap_grow_old _ _ (by grind [Sort.putRowK,Sort.putRow,Sort.mapBlock,Sort.ahead])]
 unfold Sort.putRowK Sort.putRow Sort.mapBlock Sort.ahead
 grind
theorem Nw{P:Program}{F g E:Nat}(acT:∀(blk cap:Nat) (d:Array Key) (w:World),Proofs.CmpLays P g #[] Key.cells 2 cE blk 0 d.size w→Sort.HoldsK Key.cells 2 w blk 0 d→blk<w.heap.size→d.size<4611686018427387904→Calls P F #[.slice (some ⟨blk,0,none⟩) d.size cap,.func (.func g) #[] #[]] w fun e w'=>e=.returned (.tuple #[])∧∃d' n os,Sort.PermIn 0 d.size d d'∧Sort.SortedIn (Proofs.ltOf cE) 0 d.size d'∧w'=Proofs.sortWorldK Key.cells 2 w blk 0 n d' os)
  (hcmp:∀(x y:Key) (w:World),Calls P g #[x.val,y.val] w fun e w'=>e=.returned (.int .i64 (cE x y))∧bj [] w w')
  {l:List Key}{a:Option Addr}{n c:Nat}{w:World}{M Z:Nat→Prop}(bF:St w M Z w [As.os RR.key E 2 a n c l]) (h0:l≠[]) (hn:l.length≤1000000):Calls P F #[.slice a n c,.func (.func g) #[] #[]] w fun e w'=>e=.returned (.tuple #[])∧∃l',l'.Perm l∧(l'.Pairwise fun x y=>¬cE y x<0)∧St w M Z w' [As.os RR.key E 2 a n c l']:=by
 have ho:=As.gs bF.g0;obtain⟨l3,rows,Cv,Vc,Vd,hrr⟩:=id ho
 have acU:rows=l.map Key.cells:=by
  apply List.ext_getElem?
  intro i;rw [List.getElem?_map]
  by_cases hi:i<l.length
  ·
   rw [List.getElem?_eq_getElem (by omega),List.getElem?_eq_getElem hi]
   have:=hrr i l[i] rows[i] (List.getElem?_eq_getElem hi) (List.getElem?_eq_getElem (by omega))
   rw [RR.cH this]
   rfl
  grind
 rcases Vd.cases with⟨h1,h2,_⟩ | ⟨b,cur,rfl,Nx,hb,hnc,WQ,US,ht⟩
 ·
  grind
 rw [acU,l3] at ht;have LF:b<w.heap.size:=(Array.getElem?_eq_some_iff.1 hb).1
 have hc:Proofs.CmpLays P g #[] Key.cells 2 cE b 0 l.toArray.size w:=fun m os dk _ x y=>(hcmp x y _).mono fun e w' ⟨h1,h2⟩=>⟨h1,Nv h2⟩
 have hs:=acT b c l.toArray w hc (Kj hb ht) LF (by rw [List.size_toArray];omega);rw [List.size_toArray,← l3] at hs;refine hs.mono ?_;rintro e w' ⟨rfl,d',m,os,⟨Sr,_,hd3⟩,hd4,rfl⟩;rw [l3] at hd3 hd4
 have Sr:d'.size=l.length:=by rw [Sr,List.size_toArray]
 have hd5:d'.toList.Perm l:=by grind [Array.extract_size]
 obtain⟨l',rfl⟩:∃l':List Key,d'=l'.toArray:=⟨d'.toList,by simp⟩
 have hl:l'.length=l.length:=by simpa using Sr
 simp only at hd5;obtain⟨tW,g1,g2,g3⟩:=PO (m:=m) (os:=os) hb ht hl;refine⟨rfl,l',hd5,?_,?_⟩
 ·
  rw [List.pairwise_iff_getElem];intro i j hi hj hij;have h1:=hd4 i j (Nat.zero_le _) hij (by omega)
  grind [Proofs.ltOf]
 refine bF.iY (w':=Proofs.sortWorldK Key.cells 2 w b 0 m l'.toArray os) (PQ.mono fun x hx=>by simpa [aL] using hx) ?_ (fun x hx=>.inl hx);refine⟨by omega,l'.map Key.cells,by simp,fun r hr=>by grind,?_,fun i x r hx hr=>?_⟩
 ·
  refine⟨fun u hu=>?_,?_,.inr ⟨b,c,tW,rfl,Nat.zero_le _,g1,hnc,WQ,by rw [g2];exact US,by grind⟩⟩
  ·
   obtain⟨r,hr,hu⟩:=List.mem_flatten.1 hu;obtain⟨x,_,rfl⟩:=List.mem_map.1 hr
   simp [Key.cells] at hu
   rcases hu with rfl | rfl <;> rfl
  grind
 rw [List.getElem?_map,hx] at hr
 cases hr
 rfl
end Go.Rc

namespace Go.Rc
open Go
theorem jf.acV{M:Nat→Prop}{S:List Nat}{w w':World}(h:jf M w w') (hM:∀x,M x→x∈S∨w.heap.size≤x):bj S w w':=
 ⟨h.os,h.tape,h.output,h.size,h.drawn,fun k hk hn=>h.block k hk fun hm=>by grind⟩
theorem St.XH{w0 w:World}{M Z:Nat→Prop}{A B:As}{l:List As}(h:St w0 M Z w (A::B::l)):∀x,A.fp x→¬B.fp x:=(List.pairwise_cons.1 h.wA).1 B M0
theorem Calls.ai2{P:Program}{f:FuncId}{r s:Value}{w:World}{Q:Ending→World→Prop}(h:Calls P f #[r,s] w Q):Calls P f (#[]++[r,s].toArray++#[]) w Q:=by grind
theorem CH{us:List Value}(acW:0<us.length) (h1:∀v∈us,v.oneCell'=true) (m:Nat):∀v∈(Builtin.zeroCells us.toArray m).toList,v.oneCell'=true:=fun v hv=>by grind [Builtin.zeroCells,Nat.mod_lt]
section
variable {w0 w:World}{M Z:Nat→Prop}{l:List As}
theorem St.g16{A0 A1 A2 A3 A4 A5 A6 A7 A8 A9 oX rD wQ Dw Lu UU A16:As}(h:St w0 M Z w (A0::A1::A2::A3::A4::A5::A6::A7::A8::A9::oX::rD::wQ::Dw::Lu::UU::A16::l)):A16.ok Z w:=h.ok _ (by simp)
end
section
variable {α:Type}{R:RR α}{P:Program}{E k n c b i:Nat}{a:Option Addr}{xs:List α}{Z:Nat→Prop}{w:World}
variable {N:Nat}{kv:KV}{K:KV→World→Prop}{ty:TypeId}{pos:String}{af:Array Edge}{g:Option (Nat × Bool)}{T:TypeId}
theorem OX.ai3{x:Operand}{e:TypeId}{z:Value}{us:List Value}(hT:P.underlying T=some (.slice e)) (hv:∀w,(zeroValue e).run P w=.ok z w) (hz:z.cells=us.toArray) (hlen:us.length=k) (hk:0<k) (h1:us.all (·.oneCell')=true)
  (h:Ow R E k Z w a n c xs) (ha:a=some ⟨b,0,none⟩) (hi:i≤n) (hx:ev kv x=some (.slice (kR a i k c) (n - i) (c - i)))
  (hK:∀w',bj (aL a) w w'→OR 0 w' E k (R.r Z w) a i c (xs.take i)→K kv w'):OX P ⟨none,.call {callee:=.builtin .clear,args:=#[x],argTypes:=#[T]},ty,pos,af,g⟩ N kv w K:=by
 obtain⟨hn,rows,hl,Jz,ho,hRR⟩:=h;have h1':∀v∈us,v.oneCell'=true:=fun v hv=>List.all_eq_true.1 h1 v hv;have hfl:rows.flatten.length=n*k:=ho.2.1;have hft:(rows.take i).flatten=rows.flatten.take (i*k):=vd rows k i Jz (by omega)
 rcases ho.cases with⟨h2,_⟩ | ⟨b',cur,h2,h3,h4,h5,h6,h7,h8⟩
 ·
  rw [ha] at h2;cases h2
 rw [ha] at h2;simp only [Option.some.injEq,Addr.mk.injEq,and_true] at h2;subst h2;subst ha;have hmul:i*k≤n*k:=Nat.mul_le_mul_right _ hi;have ab2:n*k≤c*k:=Nat.mul_le_mul_right _ h5
 have uT:cur.toList.length=c*k:=by simp [h7]
 have rest:∀cs:List Value,cs.length=c*k→cs.take (i*k)=cur.toList.take (i*k)→∀w':World,w'.heap[b]?=some (.cells cs.toArray E (0,0))→OR 0 w' E k (R.r Z w) (some ⟨b,0,none⟩) i c (xs.take i):=fun cs US Md w' hw'=>by
  refine⟨by rw [List.length_take];omega,rows.take i,by grind,fun r hr=>Jz r (List.mem_of_mem_take hr),⟨fun v hv=>?_,?_,.inr ⟨b,c,cs.toArray,rfl,h3,hw',by omega,h6,by simpa using US,?_⟩⟩,fun j y r hy hr=>?_⟩
  ·
   rw [hft] at hv;exact ho.1 v (List.mem_of_mem_take hv)
  ·
   grind
  ·
   grind
  grind
 by_cases rj:n=i
 ·
  have hr:(Builtin.clear_ #[T] ty #[.slice (kR (some ⟨b,0,none⟩) i k c) (n - i) (c - i)]).run P w=.ok (.tuple #[]) w:=by
   obtain⟨ad,had⟩:∃ad,kR (some ⟨b,0,none⟩) i k c=some ad:=by unfold kR;split <;> exact⟨_,rfl⟩
   have h0:n - i=0:=by omega
   rw [had,h0]
   simp [Builtin.clear_,run_underlying hT]
  refine⟨rfl,rfl,by simp [known,opers,hx],?_⟩;simp only [execOp,resolve,invoke,builtin,Sem.run_bind,Sem.run_pure,Result.andThen_ok,List.map_toArray,List.map_cons,List.map_nil,aK hx,hr];exact hK _ ((bj.refl [] w).mono (by simp)) (rest cur.toList uT rfl w (by simpa using h4))
 have hda:kR (some (⟨b,0,none⟩:Addr)) i k c=some ⟨b,i*k,none⟩:=by
  unfold kR
  grind
 have hzl:(Builtin.zeroCells us.toArray (n - i)).toList.length=(n - i)*k:=by simp [Builtin.zeroCells,hlen]
 have j4:(n - i)*k=n*k - i*k:=Nat.sub_mul _ _ _;have hs:=Go.run_storeCells_at (P:=P) b (i*k) E (Builtin.zeroCells us.toArray (n - i)).toList 0 cur w h4 (by rw [hzl];simp at uT;omega) (CH (by omega) h1' (n - i));rw [Nat.add_zero] at hs
 have hr:(Builtin.clear_ #[T] ty #[.slice (kR (some ⟨b,0,none⟩) i k c) (n - i) (c - i)]).run P w=.ok (.tuple #[]) (w.setRow b (cur.toList.take (i*k)++(Builtin.zeroCells us.toArray (n - i)).toList++cur.toList.drop (i*k+(Builtin.zeroCells us.toArray (n - i)).toList.length)).toArray):=by
  rw [hda];obtain⟨m,hm⟩:∃m,n - i=m+1:=⟨n - i - 1,by omega⟩;rw [hm] at hs ⊢
  simp [Builtin.clear_,run_underlying hT,hv w,hz,hs]
 refine⟨rfl,rfl,by simp [known,opers,hx],?_⟩;simp only [execOp,resolve,invoke,builtin,Sem.run_bind,Sem.run_pure,Result.andThen_ok,List.map_toArray,List.map_cons,List.map_nil,aK hx,hr]
 have hb:cJ w b E cur.toList:=by simpa [cJ] using h4
 refine hK _ ((mX _ _ _).mono (by simp [aL])) (rest _ ?_ ?_ _ (setRow_heap w b _ _ E _ hb))
 ·
  grind
 grind
end
theorem PV.S6{P:Program}{T E k n c b i:Nat}{a:Option Addr}{kv:KV}{w:World}{ty:TypeId}(hT:Ck P T E k) {x y:Operand}(ha:a=some ⟨b,0,none⟩) (hi:i≤c) (hx:ev kv x=some (.slice a n c)) (hy:ev kv y=some (.int .i64 (i:Int))):PV P (.slice T x none (some y) none) ty kv w (.slice a i c):=by
 refine⟨rfl,by simp [known,opers,hx,hy],fun _ _ _ _=>?_⟩;simp only [execOp,aK hx,aK hy,Option.map_none,Option.map_some,Sem.run_bind,zL (a:=a) (n:=n) hT hi (fun z hz=>by rw [ha] at hz;cases hz;rfl),Result.andThen_ok];rfl
structure Dl (p:Rec→Bool) (xs RV:List Rec) (i j:Nat):Prop where
 len:RV.length=xs.length
 ij:i≤j
 jl:j≤xs.length
 pre:RV.take i=(xs.take j).filter fun x=>!p x
 suf:∀q,j≤q→RV[q]?=xs[q]?
section
variable {p:Rec→Bool}{xs RV:List Rec}{i j:Nat}{x:Rec}
theorem Dl.start(gh:∀(q:Nat) y,q<i→xs[q]?=some y→p y=false) (hi:xs[i]?=some x) (hp:p x=true):Dl p xs xs i (i+1):=by
 have zm:=(List.getElem?_eq_some_iff.1 hi).1;refine⟨rfl,by omega,by omega,?_,fun q _=>rfl⟩;obtain⟨_,rfl⟩:=List.getElem?_eq_some_iff.1 hi;rw [List.take_succ_eq_append_getElem zm,List.filter_append,List.filter_eq_self.2]
 ·
  simp [hp]
 grind [List.mem_iff_getElem?]
theorem Dl.skip(h:Dl p xs RV i j) (hj:xs[j]?=some x) (hp:p x=true):Dl p xs RV i (j+1):=by
 obtain⟨mu,rfl⟩:=List.getElem?_eq_some_iff.1 hj;refine⟨h.len,by have:=h.ij;omega,by omega,?_,fun q hq=>h.suf q (by omega)⟩
 grind [pre,List.take_succ_eq_append_getElem]
theorem Dl.ly(h:Dl p xs RV i j) (hj:xs[j]?=some x) (hp:p x=false):Dl p xs (RV.set i x) (i+1) (j+1):=by
 obtain⟨mu,rfl⟩:=List.getElem?_eq_some_iff.1 hj;have h1:=h.ij;have h2:=h.len;refine⟨by rw [List.length_set];exact h.len,by omega,by omega,?_,fun q hq=>?_⟩
 ·
  rw [List.take_succ_eq_append_getElem mu,List.filter_append,← h.pre,List.take_succ_eq_append_getElem (by rw [List.length_set];omega),List.getElem_set_self]
  congr 1
  ·
   rw [List.take_set_of_le (Nat.le_refl _)]
  simp [hp]
 rw [List.getElem?_set_ne (by omega)];exact h.suf q (by omega)
theorem Dl.done(h:Dl p xs RV i j) (hj:xs.length≤j):RV.take i=xs.filter fun x=>!p x:=by rw [h.pre,List.take_of_length_le hj]
end
theorem pr(x y:Rec):decide (strip x=strip y)=(decide (x.key=y.key) && (decide (x.value=y.value) && (decide (x.reads=y.reads) && (decide (x.changed=y.changed) && decide (x.cost=y.cost))))):=by
 rw [Bool.eq_iff_iff];simp only [decide_eq_true_eq,Bool.and_eq_true]
 grind [strip]
theorem Kk{l1 l2:List Rec}{i:Nat}(h:(l1.take i).map strip=(l2.take i).map strip) (h1:i<l1.length) (h2:i<l2.length) (he:strip l1[i]=strip l2[i]):(l1.take (i+1)).map strip=(l2.take (i+1)).map strip:=by grind [List.take_succ_eq_append_getElem]
noncomputable def lN(ab:List aJ) (x y:dV) (bU:List Key):Bool:=bU.all (fun k=>decide ((l6 (valOf ab x.ah) x k).1≠0)) && decide ((iO x.ak bU).map strip=(iO y.ak bU).map strip)
theorem kT.kr{ab:List aJ}{x:dV}(h:kT ab x):KR ab x.ak:=fun r hr=>by
 obtain⟨h1,h2,h3,_⟩:=h.2.2.2.2.2.1 r hr;exact⟨h1,h2,h3⟩
theorem kT.r4{ab:List aJ}{x:dV}(h:kT ab x):∀r∈x.ak,r.reads.length≤4000:=fun r hr=>by
 obtain⟨_,_,_,h4⟩:=h.2.2.2.2.2.1 r hr
 grind [dY]
section
variable {ab:List aJ}{x:dV}{s:ES}
end
section
variable {ab:List aJ}{x y:dV}{s:ES}{kp:List (List Key)}{l:List Key}
theorem HQ(h:Wy ab x s) (h1:qc x.ak) (h2:qc s.b.ak):lN ab x s.b (iv s.bU)=true:=by
 obtain⟨g1,g2⟩:=h.sound h1 h2 (bU:=iv s.bU) fun y=>pj _ _
 unfold lN
 grind
end
end Go.Rc

namespace Go.Rc
open Go
def r3:aJ:=⟨false,[],1,3⟩
abbrev K0:Key:=⟨31,itoa ((0:Nat):Int)⟩
abbrev v3:ByteArray:=itoa 3
theorem XI:∀y∈[r3],SE y:=fun y hy=>by simp at hy;subst hy;exact⟨rfl,rfl,rfl,by decide,by decide⟩
theorem oe:ay [r3]:=by
 refine⟨by simp,fun i r h=>?_⟩
 have hi:i=0:=by grind
 subst hi
 simp at h;subst h
 exact⟨by simp [r3],fun k x hx=>by simp [r3] at hx,rfl⟩
theorem yg:aQ [r3] ((0:Nat):Int)=K0:=SE.key (by simp) (by omega) (XI _ (by simp))
theorem PR:gS [r3] K0:=by rw [← yg];exact .gN (by simp) (by omega)
theorem Me:mB ⟨0,[],[]⟩:=⟨fun i y h=>by simp at h,fun i r h=>by simp at h,by decide,by decide,by simp,by simp,fun i x h=>by simp at h⟩
theorem Kl:number K0=((0:Nat):Int):=by rw [← yg];exact dK (by simp) (by omega)
theorem PT:jP [r3] K0=true:=by grind [yg,jP,ik,Kl]
theorem XJ:iC [r3] ⟨0,[],[]⟩ [K0]=0:=by
 unfold iC
 rw [if_neg (fun h=>h oe),if_neg (fun h=>h Me),if_neg (by simp),if_pos (by simp [PT])]
theorem acX{ab:List aJ}:Good ab [] ⟨⟨0,[],[]⟩,[],[],0⟩:=⟨rfl,by simp,by simp,by simp,by simp,fun k=>.inl rfl⟩
abbrev s1:ES:=⟨⟨0,[],[iN 0 v3]⟩,[],[K0],0⟩
theorem Ve:aZ [r3] K0 []=⟨true,v3,fW⟩:=by
 unfold aZ
 rw [if_pos (.inl rfl)];rw [sK (i:=0) Kl (by simp) (by rw [Kl];exact yg) (by simp [r3])]
 rfl
theorem ai5(val:Key→ByteArray):eU [r3] val 2 ⟨⟨0,[],[]⟩,[],[],0⟩ [K0]=some s1:=by
 have hi:aB K0=false:=rfl;have hp:gW [] (et ⟨0,[],[]⟩ K0 v3 [])=[iN 0 v3]:=rfl
 grind [eU,oc,dL,jr,Ve,aO,aD,ES.on,ck,dH,kP]
end Go.Rc
namespace Go.Rc
open Go
abbrev v4:ByteArray:=⟨#[52]⟩
theorem Vf:v3=⟨#[51]⟩:=by
 simp [v3,itoa,Lib.itoa,Lib.decDigits]
theorem S7:v3.size≤1000:=by rw [Vf];decide
theorem v34:v3≠v4:=by rw [Vf];decide
theorem S8:s1.base ⟨0,[],[]⟩=⟨0,[],[iN 0 v3]⟩:=rfl
theorem S9:s1.list=[K0]:=rfl
end Go.Rc

namespace Go.Rc
open Go
section
variable {P:Program}{kv:KV}{w:World}{T U ty:TypeId}{x y:Operand}
end
end Go.Rc
namespace Go.Rc
open Go
end Go.Rc

namespace Go.Rc
open Go
theorem Ta:valOf [r3] [] K0=v3:=by
 have h:=jw (aH:=[]) oe (i:=0) (by simp);rw [show dW [r3] 0=0 from rfl] at h;simp only [gq] at h;rw [yg] at h;have t:=Ve
 unfold aZ at t
 grind
theorem PU:jQ [r3] [] 0 0=iN 0 v3:=by
 unfold jQ dC
 rw [show dW [r3] 0=0 from rfl];simp only [gq];rw [yg,Ta]
 rfl
theorem ar3:rM [r3] ⟨0,[],[iN 0 v3]⟩:=fun r hr=>⟨0,by simp,by rw [List.mem_singleton.1 hr];exact PU.symm⟩
theorem gb3:kT [r3] ⟨0,[],[iN 0 v3]⟩:=by
 have PW:(⟨31,itoa ((0:Nat):Int)⟩:Key).kind=31:=rfl;have hv:fb (iN 0 v3)=true:=(dY _).2 ⟨fun a ha=>(by cases ha),PR.valid,rfl,by have:=S7;show((v3.size:Nat):Int)≤_;omega,by show((0:Nat):Int)≤4000;omega,Int.le_refl _,Int.le_refl _,by decide,by decide,by decide,.inl rfl⟩;refine ya oe ⟨fun i y h=>by simp at h,fun i r h=>?_,by decide,by decide,by simp,by simp,fun i y h=>?_⟩ (l4.nil _) ar3 (List.pairwise_singleton _ _)
 ·
  rw [List.mem_singleton.1 (List.mem_of_getElem? h)];exact Int.le_refl _
 have hi:i=0:=by grind
 subst hi;rw [List.mem_singleton.1 (List.mem_of_getElem? h)];exact⟨hv,fun h=>by omega⟩
theorem gb4:kT [r3] ⟨0,[],[iN 0 v4]⟩:=(HD (j:=0) oe gb3 ar3 (by simp) (y':=iN 0 v4) (f:=1) (.inl ⟨rfl,v4,fun e=>v34 e.symm,by decide,rfl⟩)).1
theorem gb0:kT [r3] ⟨0,[],[]⟩:=ya oe Me (l4.nil _) (fun r hr=>by cases hr) List.Pairwise.nil
theorem vs3(k:Key):(valOf [r3] [] k).size≤1000:=Ar oe (fun x hx=>by cases hx) k
theorem up3{v:ByteArray}:∀y∈(⟨0,[],[iN 0 v]⟩:dV).ak,y.az=(⟨0,[],[iN 0 v]⟩:dV).ae:=fun y hy=>by rw [List.mem_singleton.1 hy];rfl
theorem au3:gZ [r3] [] [iN 0 v3] 5=[]:=Cz oe ar3
theorem au4:(gZ [r3] [] [iN 0 v4] 5).length=2:=by
 have h0:vq [r3] [] (iN 0 v4)=false:=by grind [vq,iN,Ta,v34]
 have h1:sR [r3] [] (iN 0 v4)=true:=by
  have h:=x8 (rev:=0) (aH:=[]) oe (i:=0) (by simp) 1;rw [PU] at h;exact h
 have h4:wZ (iN 0 v4)=true:=rfl;simp only [qd,List.all_cons,List.all_nil,Bool.and_true,rL,h0,h1,h4]
 rfl
theorem acZ{v:ByteArray}:aG [iN 0 v] K0=iN 0 v:=ct (by simp [aD,iN])
theorem rg3:([K0].all fun k=>decide ((aG [iN 0 v3] k).value=valOf [r3] [] k))=true:=by
 simp only [List.all_cons,List.all_nil,Bool.and_true,Ta,acZ];exact decide_eq_true rfl
theorem rg4:([K0].all fun k=>decide ((aG [iN 0 v4] k).value=valOf [r3] [] k))=false:=by
 simp only [List.all_cons,List.all_nil,Bool.and_true,Ta,acZ]
 exact decide_eq_false fun e=>v34 e.symm
theorem Kc{v:ByteArray}:∀k∈[K0],∃i:Nat,i < [r3].length∧k=aQ [r3] (i:Int)∧(aD (⟨0,[],[iN 0 v]⟩:dV).ak k).isSome=true:=fun k hk=>⟨0,by simp,by rw [List.mem_singleton.1 hk];exact yg.symm,by grind [aD,iN]⟩
theorem sd3:lN [r3] ⟨0,[],[]⟩ ⟨0,[],[iN 0 v3]⟩ [K0]=true:=by
 have hw:(l6 (valOf [r3] []) ⟨0,[],[]⟩ K0).1≠0:=by rw [Kh rfl rfl];decide
 have ho:iO [iN 0 v3] [K0]=[]:=by
  unfold iO
  rw [List.filter_cons,if_neg (by simp [iN])]
  rfl
 unfold lN
 rw [Bool.and_eq_true]
 grind [iO]
end Go.Rc

namespace Go.Rc
open Go
def yP(k:Key) (r:Rec):Rec:=if r.key=k then {r with value:=r.value++(⟨#[49]⟩:ByteArray)} else r
section
variable {ab:List aJ}{x y:dV}{bU:List Key}{k:Key}{r:Rec}
theorem PX(r:Rec):(yP k r).key=r.key:=by
 unfold yP
 split <;> rfl
theorem PY{α:Type}(f:α→α) {l:List α}{i:Nat}(hi:i<l.length):((l.take i).map f++l.drop i).set i (f l[i])=(l.take (i+1)).map f++l.drop (i+1):=by
 have hl:((l.take i).map f).length=i:=by grind
 rw [List.set_append_right _ _ (by omega),hl,Nat.sub_self,List.drop_eq_getElem_cons hi,List.set_cons_zero,List.take_succ_eq_append_getElem hi,List.map_append,List.append_assoc]
 rfl
theorem PZ{α:Type}(f:α→α) {l:List α}{i:Nat}(hi:i<l.length) (h:f l[i]=l[i]):(l.take i).map f++l.drop i=(l.take (i+1)).map f++l.drop (i+1):=by grind [List.drop_eq_getElem_cons]
theorem yh(l:List Rec) (k:Key):aD (l.map strip) k=(aD l k).map strip:=pn strip (fun _=>rfl) k l
theorem qh(h:lN ab x y bU=true):(iO x.ak bU).map strip=(iO y.ak bU).map strip:=by
 unfold lN at h
 grind
theorem HR(h:lN ab x y bU=true) (hr:aD y.ak k=some r) (hk:k∉bU):lN ab x {y with ak:=y.ak.map (yP k)} bU=false:=by
 rw [Bool.eq_false_iff];intro h2;have e:=(qh h).symm.trans (qh h2);have e2:=congrArg (fun l=>aD l k) e;simp only [yh,mM,if_neg hk,pn _ (PX (k:=k))] at e2;rw [hr] at e2;have ED:=(bm hr).2;have e3:=congrArg (fun o:Option Rec=>(o.getD pd).value.size) e2
 unfold yP strip at e3
 simp only [Option.map_some,Option.getD_some,if_pos ED,ByteArray.size_append] at e3
 have:(⟨#[49]⟩:ByteArray).size=1:=rfl
 omega
theorem Km(h:lN ab x y bU=true) (hx:aD x.ak k=none) (hr:aD y.ak k=some r):lN ab x y (bU.filter fun q=>decide (q≠k))=false:=by
 rw [Bool.eq_false_iff];intro h2;have e2:=congrArg (fun l=>aD l k) (qh h2)
 have hk:k∉bU.filter fun q=>decide (q≠k):=by simp
 simp only [yh,mM,if_neg hk] at e2;rw [hx,hr] at e2
 cases e2
end
theorem Ow.ai9{E n c b i:Nat}{a:Option Addr}{xs:List Rec}{r:Rec}{Z:Nat→Prop}{w:World}(h:Ow RR.fl E 8 Z w a n c xs) (hle:xs.length≤140737488355328) (ha:a=some ⟨b,0,none⟩) (hx:xs[i]?=some r):w.rangeAt b (0+i*8) r.key.cells:=by
 obtain⟨b',row,ha',_,⟨q1,q2,q3,rfl,_,_⟩,hr⟩:=Ow.at h hle hx
 obtain rfl:b=b':=by rw [ha] at ha';simpa using ha'
 exact fun j v hj=>by
  cases j with
  | zero=>exact hr 0 v hj
  | succ j=>
   cases j with
   | zero=>exact hr 1 v hj
   | succ j=>simp [Key.cells] at hj
end Go.Rc

