/- Base of the proof: frames, memory, ownership, and the plain meaning of rule systems. Conditions: as each lemma says. -/
import Derived.Test.YtjpagoacbadijaaGreatDoorVBg
import Derived.Test.YtjpagoacbadijaaGreatDoorVBf
import Derived.Shelf.SlSortCmp.WholeK
set_option linter.all false
namespace Go.Rc
open Go
def nU(l:List et) (b:dP) (a:Key):Prop:=az a=true∨(kC l a=true∧aA a=true)∨aJ b a=true
section
variable {x b b':dP}{l l' p q:List et}{f g:et}{k a:Key}
theorem tq:gu x l k=false↔az k=true∨kC l k=true∨aJ x k=true:=by
 unfold gu aJ
 grind
theorem vM:dH x l [] k=if (!aA k && kC l k)=true then 3 else if gu x l k=true then 1 else 0:=by grind [dH,kC]
theorem zG(h1:dH x l [] k≠1) (h3:dH x l [] k≠3):nU l x k:=by
 rw [vM] at h1 h3
 by_cases hA:(!aA k && kC l k)=true
 ·
  grind
 rw [if_neg hA] at h1
 by_cases hn:gu x l k=true
 ·
  grind
 rcases tq.1 (by simpa using hn) with h | h | h
 ·
  exact .inl h
 ·
  exact .inr (.inl ⟨h,by rw [h] at hA;simpa using hA⟩)
 exact .inr (.inr h)
theorem OH(h:dH x l [] k=1):kC l k=false∧az k=false∧aJ x k=false:=by
 rw [vM] at h
 by_cases hA:(!aA k && kC l k)=true
 ·
  rw [if_pos hA] at h;cases h
 rw [if_neg hA] at h
 by_cases hn:gu x l k=true
 ·
  have kV:¬(az k=true∨kC l k=true∨aJ x k=true):=fun h=>by grind [tq]
  grind
 rw [if_neg hn] at h;cases h
theorem I2(h:dH x l [] k=3):aA k=false∧kC l k=true:=by
 rw [vM] at h
 grind
theorem jQ:kC (p++q) k=(kC p k || kC q k):=by simp [kC]
theorem rC:kC [f] k=decide (f.key=k):=by simp [kC]
theorem I3{z:et}{p1:List et}(h:p++[z]=p1++g::q):(q=[]∧p1=p∧g=z)∨∃q',q=q'++[z]∧p=p1++g::q':=by
 rcases List.eq_nil_or_concat q with rfl | ⟨q',y,rfl⟩
 ·
  simp_all
 rw [List.concat_eq_append,← List.cons_append,← List.append_assoc] at h;obtain⟨h1,h2⟩:=List.append_inj' h rfl
 grind
end
inductive FS (ab:List aG) (val:Key→ByteArray) (b:dP) (p:List et) (f:et):dP→List et→List Key→Int→Prop where
 | stay:FS ab val b p f b (p++[f]) [] 0
 | full:f.running=true→(aN ab f.key f.ah).done=true→(!(aB b.ak f.key).isSome && decide (4000≤b.ak.length))=true→FS ab val b p f b (p++[f]) [] 45
 | put:f.running=true→(aN ab f.key f.ah).done=true→FS ab val b p f {b with ak:=fP b.ak (dI b f.key (aN ab f.key f.ah).value f.reads)} p [f.key] 0
 | push:f.running=true→(aN ab f.key f.ah).done=false→dH b (p++[f]) [] (aN ab f.key f.ah).ask=1→FS ab val b p f b (p++[f]++[⟨(aN ab f.key f.ah).ask,false,0,[],[]⟩]) [] 0
 | cyc:f.running=true→(aN ab f.key f.ah).done=false→dH b (p++[f]) [] (aN ab f.key f.ah).ask=3→FS ab val b p f b (p++[f]) [] 43
 | read:f.running=true→(aN ab f.key f.ah).done=false→dH b (p++[f]) [] (aN ab f.key f.ah).ask≠1→dH b (p++[f]) [] (aN ab f.key f.ah).ask≠3→
   FS ab val b p f b (p++[{f with reads:=f.reads++[(aN ab f.key f.ah).ask],ah:=f.ah++[dz val b (aN ab f.key f.ah).ask]}]) [] 0
 | up:f.running=false→aJ b f.key=true→FS ab val b p f b p [] 0
 | start:f.running=false→aJ b f.key=false→(aB b.ak f.key=none∨(aH b.ak f.key).bS=true)→FS ab val b p f b (p++[{f with running:=true,at_:=0}]) [] 0
 | mark:f.running=false→Live b.ak b.ae f.key→(bW b.ak (aC b.ak b.ae f.key)).length≤f.at_.toNat→FS ab val b p f (dQ b (aC b.ak b.ae f.key) false) p [] 0
 | T8 (c:sg):f.running=false→Live b.ak b.ae f.key→(bW b.ak (aC b.ak b.ae f.key))[f.at_.toNat]?=some c→dH b (p++[f]) [] c.read=1→FS ab val b p f b (p++[f]++[⟨c.read,false,0,[],[]⟩]) [] 0
 | abH (c:sg):f.running=false→Live b.ak b.ae f.key→(bW b.ak (aC b.ak b.ae f.key))[f.at_.toNat]?=some c→dH b (p++[f]) [] c.read=3→FS ab val b p f b (p++[f]) [] 43
 | pass (c:sg):f.running=false→Live b.ak b.ae f.key→(bW b.ak (aC b.ak b.ae f.key))[f.at_.toNat]?=some c→dH b (p++[f]) [] c.read≠1→dH b (p++[f]) [] c.read≠3→
   bp val b c.read≤(aH b.ak c.eY).ax→FS ab val b p f b (p++[{f with at_:=f.at_+1}]) [] 0
 | fail (c:sg):f.running=false→Live b.ak b.ae f.key→(bW b.ak (aC b.ak b.ae f.key))[f.at_.toNat]?=some c→dH b (p++[f]) [] c.read≠1→dH b (p++[f]) [] c.read≠3→
   (aH b.ak c.eY).ax<bp val b c.read→FS ab val b p f (if aA f.key then dQ b (aC b.ak b.ae f.key) true else b) (p++[{f with running:=true,at_:=0}]) [] 0
section
variable {ab:List aG}{H:Int→List dy}{b0 b b':dP}{p q l l':List et}{f g:et}{cP:List Key}
structure FI (ab:List aG) (H:Int→List dy) (b0 b:dP) (p:List et) (f:et):Prop where
 key:∃i:Nat,i<ab.length∧f.key=aL ab (i:Int)
 new:kC p f.key=false
 low:∀i j:Nat,i<ab.length→j<ab.length→f.key=aL ab (i:Int)→kC p (aL ab (j:Int))=true→Lw ab i (qy ab j)
 run:f.running=true→cJ b.ak b.ae f.key=false∧aJ b f.key=false∧Nn (valOf ab b0.ad) b0 f.key∧(∀i:Nat,i<ab.length→f.key=aL ab (i:Int)→∃n,n≤dU ab i∧f.reads=(fZ (dt ab f.key) (valOf ab b0.ad) n).1∧f.ah=(fZ (dt ab f.key) (valOf ab b0.ad) n).2)∧∀a∈f.reads,nU (p++[f]) b a
 LM:f.running=false→f.reads=[]∧f.ah=[]∧0≤f.at_∧(Live b.ak b.ae f.key→∀j c,j<f.at_.toNat→(bW b.ak (aC b.ak b.ae f.key))[j]?=some c→valOf ab (H (aH b.ak c.eY).ax) c.read=valOf ab b0.ad c.read∧nU (p++[f]) b c.read∧bp (valOf ab b0.ad) b0 c.read≤(aH b.ak c.eY).ax)
structure TI (ab:List aG) (H:Int→List dy) (b0 b:dP) (l:List et) (cP:List Key):Prop where
 bi:Bi ab H (fun y=>kC l y && aA y) b
 wy:Wy ab b0 ⟨b,[],cP,0⟩
 fr:∀p f q,l=p++f::q→FI ab H b0 b p f
 nr:∀f∈l,f.key∉cP∧aJ b0 f.key=false
theorem nU.lF{N:Key→Prop}{a:Key}(h:nU l b a) (dL:kD (valOf ab b0.ad) N cP b.ae b.ak b'.ak) (hr:b'.ae=b.ae):nU l b' a:=
 h.imp id (Or.imp id (dL.aJ hr))
theorem nU.mono{a:Key}(h:nU l b a) (ho:∀k,kC l k=true→kC l' k=true):nU l' b a:=h.imp id (Or.imp (fun⟨x,y⟩=>⟨ho _ x,y⟩) id)
theorem FI.lF{N:Key→Prop}(h:FI ab H b0 b p g) (dL:kD (valOf ab b0.ad) N cP b.ae b.ak b'.ak) (hr:b'.ae=b.ae) (hN:¬N g.key):FI ab H b0 b' p g:=by
 refine⟨h.key,h.new,h.low,fun hg=>?_,fun hg=>?_⟩
 ·
  obtain⟨h1,h2,h3,h4,h5⟩:=h.run hg
  have sn:aB b'.ak g.key=aB b.ak g.key:=by
   rcases dL.pt g.key with e | ⟨e0,r,e1,e2,e3,_⟩ | ⟨⟨_,e0⟩,_⟩
   ·
    exact e
   ·
    grind [cD]
   exact absurd e0 hN
  refine⟨?_,?_,h3,h4,fun a ha=>(h5 a ha).lF dL hr⟩
  ·
   grind [cJ,aH]
  grind [aJ,aH]
 obtain⟨h1,h2,h3,h4⟩:=h.LM hg;refine⟨h1,h2,h3,fun hl j c hj hc=>?_⟩;rw [hr] at hl hc;rw [dL.OC hl] at hc;obtain⟨p1,p2,p3⟩:=h4 (dL.T4 hl) j c hj hc;have hm:=(eF.1 (List.mem_of_getElem? hc)).1
 have e:aH b'.ak c.eY=aH b.ak c.eY:=by
  unfold aH
  rw [(dL.group hl).2 _ hm]
 rw [e];exact⟨p1,p2.lF dL hr,p3⟩
theorem TI.top(h:TI ab H b0 b (p++[f]) cP):FI ab H b0 b p f:=h.fr p f [] rfl
theorem TI.under(h:TI ab H b0 b (p++[f]) cP) {p1:List et}(hp:p=p1++g::q):FI ab H b0 b p1 g∧g.key≠f.key:=by
 refine⟨h.fr p1 g (q++[f]) (by rw [hp];simp),fun e=>?_⟩;have h1:=h.top.new
 grind [kC]
theorem TI.snoc(h:∀p1 g q,p=p1++g::q→FI ab H b0 b p1 g) (hf:FI ab H b0 b p f):∀p1 g q,p++[f]=p1++g::q→FI ab H b0 b p1 g:=fun p1 g q hp=>by grind [I3]
theorem I4(hR:aw ab) {rk:List Key}{er:Int}(h:TI ab H b0 b (p++[f]) cP) (hg:Good ab b0.ad ⟨b,[],[],0⟩) (hs:FS ab (valOf ab b0.ad) b p f b' l' rk er):er=0∧TI ab H b0 b' l' (cP++rk):=by
 have rS:=hR.len;have hB:=h.bi;have hW:=h.wy;have V8:b.ae=b0.ae:=hW.rev;have ij:b.ad=b0.ad:=hW.aF;have hT:=h.top;obtain⟨i,hi,sP⟩:=hT.key
 have qt:az f.key=false:=by grind [eh]
 have RU:∀j:Nat,j<ab.length→kC (p++[f]) (aL ab (j:Int))=true→j=i∨Lw ab i (qy ab j):=fun j hj ho=>by
  rw [jQ,rC] at ho;simp only [Bool.or_eq_true,decide_eq_true_eq] at ho
  rcases ho with ho | ho
  ·
   exact .inr (hT.low i j hi hj sP ho)
  grind [fo]
 have Wf:∀{b2:dP}{rn:List Key},kD (valOf ab b0.ad) (fun y=>y=f.key) rn b.ae b.ak b2.ak→(∀y∈cP,y∈rn)→b2.ae=b.ae→b2.ad=b.ad→(∀y r,aB b2.ak y=some r→r.bS=true→(aH b0.ak y).bS=true∨RQ (valOf ab b0.ad) b0 y)→(∀y∈rn,Nn (valOf ab b0.ad) b0 y)→(∀y∈rn,y∈cP∨aJ b2 y=true)→(∀y,aJ b y=false→aJ b2 y=true→y∈rn∨¬RQ (valOf ab b0.ad) b0 y)→rn.Nodup→Wy ab b0 ⟨b2,[],rn,0⟩:=fun dL KS h1 h2 h3 h4 h5 h6 h7=>
  hW.step h1 h2 (by rw [← V8];exact dL.mono (fun _ h=>h) fun _ _=>trivial) KS h3 h4 h5 h6 h7
 -- a frame is ahH
 have abI:∀a,gG ab a→dH b (p++[f]) [] a=1→(∀m:Nat,m<ab.length→a=aL ab (m:Int)→∀j:Nat,j<ab.length→kC (p++[f]) (aL ab (j:Int))=true→Lw ab m (qy ab j))→TI ab H b0 b (p++[f]++[⟨a,false,0,[],[]⟩]) cP:=fun a pI hl Bv=>by
  obtain⟨h1,h2,h3⟩:=OH hl;obtain⟨m,hm,VZ,_⟩:=pI.jE h2;refine⟨hB.T5 fun y hy=>?_,hW,TI.snoc h.fr ⟨⟨m,hm,VZ⟩,h1,fun m' j QM hj e ho=>Bv m' QM e j hj ho,(fun hc=>by cases hc),fun _=>⟨rfl,rfl,Int.le_refl _,fun _ j c hj=>by simp at hj⟩⟩,fun g hg=>?_⟩
  rotate_left
  ·
   rcases List.mem_append.1 hg with hg | hg
   ·
    exact h.nr g hg
   rw [List.mem_singleton] at hg;subst hg;refine⟨fun hr=>?_,hW.zC h3⟩
   have:=hW.T6 a hr
   grind
  rw [Bool.and_eq_true] at hy ⊢;rw [jQ,hy.1];exact⟨rfl,hy.2⟩
 -- the last frame is agj one of the same key
 have sn:∀{g:et}{b2:dP}{rn:List Key},g.key=f.key→Bi ab H (fun y=>kC (p++[f]) y && aA y) b2→Wy ab b0 ⟨b2,[],rn,0⟩→kD (valOf ab b0.ad) (fun y=>y=f.key) rn b.ae b.ak b2.ak→b2.ae=b.ae→(∀y∈rn,y∈cP)→FI ab H b0 b2 p g→TI ab H b0 b2 (p++[g]) rn:=fun {g b2 rn} hk Bw Wg dL hr KS hF=>by
  refine⟨?_,Wg,TI.snoc (fun p1 g q hp=>?_) hF,fun q hq=>?_⟩
  ·
   have e:(fun y=>kC (p++[g]) y && aA y)=fun y=>kC (p++[f]) y && aA y:=by
    funext y
    grind [jQ,rC]
   rw [e];exact Bw
  ·
   obtain⟨h1,h2⟩:=h.under hp;exact h1.lF dL hr h2
  rcases List.mem_append.1 hq with hq | hq
  ·
   have:=h.nr q (List.mem_append_left _ hq)
   grind
  rw [List.mem_singleton] at hq;subst hq
  have:=h.nr f (by simp)
  grind
 have RW:∀{g:et},g.key=f.key→∀k,kC (p++[f]) k=true→kC (p++[g]) k=true:=fun hk k nc=>by grind [jQ,rC]
 -- the last frame is done
 have Wh:∀{b2:dP}{rn:List Key},Bi ab H (fun y=>kC (p++[f]) y && aA y) b2→aJ b2 f.key=true→Wy ab b0 ⟨b2,[],rn,0⟩→kD (valOf ab b0.ad) (fun y=>y=f.key) rn b.ae b.ak b2.ak→b2.ae=b.ae→(∀y∈rn,y∈cP∨y=f.key)→TI ab H b0 b2 p rn:=fun {b2 rn} Bw hu Wg dL hr KS=>by
  refine⟨Bw.off hu fun y hy=>?_,Wg,fun p1 g q hp=>?_,fun g hg=>?_⟩
  ·
   rw [Bool.and_eq_true,jQ,rC] at hy
   grind
  ·
   obtain⟨h1,h2⟩:=h.under hp;exact h1.lF dL hr h2
  have h1:=h.nr g (List.mem_append_left _ hg);refine⟨fun h3=>?_,h1.2⟩
  rcases KS _ h3 with h4 | h4
  ·
   exact h1.1 h4
  obtain⟨p1,q1,hp⟩:=List.append_of_mem hg;exact(h.under hp).2 h4
 have OI:∀n,f.ah=(fZ (dt ab f.key) (valOf ab b0.ad) n).2→aN ab f.key f.ah=dt ab (aL ab (i:Int)) (Ma ab b0.ad i n):=fun n hn=>by
  rw [hn,sP,gP hi (by omega)]
  rfl
 have Ir:∀{y},kC (p++[f]) y=true→∃j:Nat,j<ab.length∧y=aL ab (j:Int):=fun {y} hy=>by
  rw [jQ,rC] at hy;simp only [Bool.or_eq_true,decide_eq_true_eq] at hy
  rcases hy with hy | hy
  ·
   unfold kC at hy
   obtain⟨g,hgm,H8⟩:=List.any_eq_true.1 hy;obtain⟨p1,q1,hp⟩:=List.append_of_mem hgm;obtain⟨j,hj,e⟩:=(h.under hp).1.key
   grind
  grind
 have aqa:∀a,(∀m:Nat,m<ab.length→a=aL ab (m:Int)→∀j:Nat,j<ab.length→kC (p++[f]) (aL ab (j:Int))=true→Lw ab m (qy ab j))→dH b (p++[f]) [] a≠3:=fun a Bv hl=>by
  obtain⟨h1,h2⟩:=I2 hl;obtain⟨j,hj,rfl⟩:=Ir h2;have h3:=Bv j hj rfl j hj h2
  grind [bZ,Lw,qy]
 have abJ:∀n,n<dU ab i→∀m:Nat,m<ab.length→tn ab b0.ad i n=aL ab (m:Int)→∀j:Nat,j<ab.length→kC (p++[f]) (aL ab (j:Int))=true→Lw ab m (qy ab j):=fun n hn m hm e j hj ho=>by
  obtain⟨h1,h2⟩:=(vL hR hi (List.mem_of_getElem? (lh (aF:=b0.ad) hn))).2 m hm e
  grind
 have anu:Live b.ak b.ae f.key→∀c∈bW b.ak (aC b.ak b.ae f.key),gG ab c.read∧∀m:Nat,m<ab.length→c.read=aL ab (m:Int)→∀j:Nat,j<ab.length→kC (p++[f]) (aL ab (j:Int))=true→Lw ab m (qy ab j):=fun hl c hc=>by
  obtain⟨hm,ha,Bu⟩:=eF.1 hc;obtain⟨j,hj,ej⟩:=hB.key (mj hl hm);obtain⟨rm,g1,g2,g3⟩:=mj hl hm;have h1:=(hB.c.vr rm (aT g1).1).2;rw [(aT g1).2,ej,jM hR hj] at h1;rw [bD g1,h1] at ha;have Bv:=vL hR hj ha;refine⟨Bv.1.QL hR,fun m kI e q hq ho=>?_⟩;obtain⟨h4,h5⟩:=Bv.2 m kI e;rw [sP] at hl hm;obtain⟨g4,g5⟩:=KO hR hB hi hj hl (ej ▸ hm)
  grind
 have abG:∀{a},nU (p++[f]) b a→az a=true∨((kC (p++[f]) a && aA a)=true∧aA a=true)∨aJ b a=true:=fun {a} h=>h.imp id (Or.imp (fun⟨x,y⟩=>⟨by rw [x,y];rfl,y⟩) id)
 have I5:∀{b2:dP},f.running=false→Bi ab H (fun y=>kC (p++[f]) y && aA y) b2→Wy ab b0 ⟨b2,[],cP,0⟩→kD (valOf ab b0.ad) (fun y=>y=f.key) cP b.ae b.ak b2.ak→b2.ae=b.ae→cJ b2.ak b2.ae f.key=false→aJ b2 f.key=false→Nn (valOf ab b0.ad) b0 f.key→TI ab H b0 b2 (p++[{f with running:=true,at_:=0}]) cP:=fun {b2} hr Bw Wg dL ahI ho hu hw=>by
  obtain⟨c1,c2,_,_⟩:=hT.LM hr;refine sn (g:={f with running:=true,at_:=0}) rfl Bw Wg dL ahI (fun _ h=>h) ⟨⟨i,hi,sP⟩,hT.new,hT.low,fun _=>⟨ho,hu,hw,fun j hj e=>⟨0,Nat.zero_le _,c1,c2⟩,fun a ha=>?_⟩,fun hc=>by cases hc⟩
  grind
 have GK:Live b.ak b.ae f.key→aJ b f.key=false:=fun⟨r,h1,_,h2⟩=>mB h1 h2
 cases hs with
 | stay=>grind
 | full hr hd hn=>
  have:=hB.len
  simp at hn
  omega
 | put hr hd=>
  obtain⟨h1,h2,h3,h4,h5⟩:=hT.run hr;obtain⟨n,hn,rT,Wi⟩:=h4 i hi sP;have ht:=OI n Wi
  have hnq:n=dU ab i:=by grind [KH]
  rw [hnq,KI hR hi] at ht
  have mS:f.reads=dX ab b0.ad i:=by
   rw [rT,hnq,sP]
   rfl
  have hm:dI b f.key (aN ab f.key f.ah).value f.reads=dI b (aL ab (i:Int)) (valOf ab b0.ad (aL ab (i:Int))) (dX ab b0.ad i):=by rw [ht,mS,sP]
  rw [hm];have Bw:=hB.put hR hi (fun hc=>by grind [jQ,rC]) (by grind);rw [ij] at Bw
  have Bw:Bi ab H (fun y=>kC (p++[f]) y && aA y) ⟨b.ae,b.ad,fP b.ak (dI b (aL ab (i:Int)) (valOf ab b0.ad (aL ab (i:Int))) (dX ab b0.ad i))⟩:=by rw [ij];exact Bw
  have dL:kD (valOf ab b0.ad) (fun y=>y=f.key) (cP++[f.key]) b.ae b.ak (fP b.ak (dI b (aL ab (i:Int)) (valOf ab b0.ad (aL ab (i:Int))) (dX ab b0.ad i))):=by
   rw [sP] at h1 h2;refine kD.put h1 (fun r hr=>?_) ⟨by simp [dI,sP],sP.symm⟩ rfl rfl rfl (fun r hr=>?_) fun hn=>?_
   ·
    have h1:=(hB.c.KJ r (aT hr).1).1
    have h6:r.ax≠b.ae:=fun e=>by
     have:aJ b (aL ab (i:Int))=true:=cB.2 ⟨r,hr,e⟩
     grind
    omega
   ·
    have jg:aB b.ak (aL ab (i:Int))=some r:=hr
    unfold dI
    simp only [jg,bD jg]
    grind
   grind [dI]
  have DU:aJ {b with ak:=fP b.ak (dI b (aL ab (i:Int)) (valOf ab b0.ad (aL ab (i:Int))) (dX ab b0.ad i))} f.key=true:=by
   rw [sP];exact tg (r:=dI b (aL ab (i:Int)) (valOf ab b0.ad (aL ab (i:Int))) (dX ab b0.ad i)) rfl
  refine⟨rfl,Wh Bw DU (Wf dL (fun y hy=>by simp [hy]) rfl rfl (fun y r hf hd=>?_) (fun y hy=>?_) (fun y hy=>?_) (fun y hu I0=>?_) (CO hW.mE fun hr=>by have:=hW.T6 _ hr;rw [h2] at this;cases this)) dL rfl fun y hy=>by simpa using hy⟩
  ·
   have DT:aB (fP b.ak (dI b (aL ab (i:Int)) (valOf ab b0.ad (aL ab (i:Int))) (dX ab b0.ad i))) y=some r:=hf;rw [gi] at DT
   split at DT
   ·
    have:=Option.some.inj DT
    subst this
    cases hd
   exact hW.QS y r DT hd
  ·
   rcases List.mem_append.1 hy with hy | hy
   ·
    exact hW.cP y hy
   grind
  ·
   grind
  refine .inl ?_
  by_cases e:y=f.key
  ·
   rw [e]
   simp
  obtain⟨r,hr,hv⟩:=cB.1 I0;have jg:aB (fP b.ak (dI b (aL ab (i:Int)) (valOf ab b0.ad (aL ab (i:Int))) (dX ab b0.ad i))) y=some r:=hr;rw [gi,if_neg (show ¬y=(dI b (aL ab (i:Int)) (valOf ab b0.ad (aL ab (i:Int))) (dX ab b0.ad i)).key from fun h=>e (h.trans sP.symm))] at jg
  grind [cB]
 | push hr hd hl=>
  obtain⟨h1,h2,h3,h4,h5⟩:=hT.run hr;obtain⟨n,hn,rT,Wi⟩:=h4 i hi sP;have ht:=OI n Wi
  have dZ:n<dU ab i:=by grind [KI]
  rw [KH hR hi dZ] at ht;rw [ht] at hl ⊢;rw [List.append_nil];exact⟨rfl,abI _ (GI hR hi dZ) hl (abJ n dZ)⟩
 | cyc hr hd hl=>
  obtain⟨h1,h2,h3,h4,h5⟩:=hT.run hr;obtain⟨n,hn,rT,Wi⟩:=h4 i hi sP
  grind [KI,KH]
 | read hr hd jF Me=>
  obtain⟨h1,h2,h3,h4,h5⟩:=hT.run hr;obtain⟨n,hn,rT,Wi⟩:=h4 i hi sP;have ht:=OI n Wi
  have dZ:n<dU ab i:=by grind [KI]
  rw [KH hR hi dZ] at ht;rw [ht] at jF Me ⊢;rw [List.append_nil];have Kh:=zG jF Me
  have We:dz (valOf ab b0.ad) b (tn ab b0.ad i n)=valOf ab b0.ad (tn ab b0.ad i n):=by
   rw [← ij];refine hB.answer (by grind [GI]) ?_
   grind
  refine⟨rfl,sn (g:={f with reads:=f.reads++[tn ab b0.ad i n],ah:=f.ah++[dz (valOf ab b0.ad) b (tn ab b0.ad i n)]}) rfl hB hW (.refl _) rfl (fun _ h=>h) ⟨⟨i,hi,sP⟩,hT.new,hT.low,fun _=>⟨h1,h2,h3,fun j hj e=>?_,fun a ha=>?_⟩,fun hc=>?_⟩⟩
  ·
   have:=fo hR hj hi (e.symm.trans sP)
   subst this;refine⟨n+1,dZ,?_,?_⟩
   ·
    show f.reads++[tn ab b0.ad j n]=_
    rw [rT,sP]
    rfl
   show f.ah++[dz (valOf ab b0.ad) b (tn ab b0.ad j n)]=_
   rw [We,Wi,sP]
   rfl
  ·
   rcases List.mem_append.1 ha with ha | ha
   ·
    exact(h5 a ha).mono (RW rfl)
   rw [List.mem_singleton] at ha;rw [ha];exact Kh.mono (RW rfl)
  grind
 | up hr hu=>
  rw [List.append_nil];exact⟨rfl,Wh hB hu hW (.refl _) rfl fun _ h=>.inl h⟩
 | start hr hu hx=>
  rw [List.append_nil];refine⟨rfl,I5 hr hB hW (.refl _) rfl ?_ hu ⟨qt,hW.zC hu,?_⟩⟩
  ·
   rw [Bool.eq_false_iff]
   grind [cD,bD]
  cases hf:aB b.ak f.key with
  | none=>exact .inl (hW.none hf)
  | some r=>
   refine .inr ?_
   rcases hx with hx | hx
   ·
    rw [hf] at hx
    cases hx
   rw [bD hf] at hx;exact hW.QS _ r hf hx
 | mark hr hl hn=>
  obtain⟨c1,c2,c3,c4⟩:=hT.LM hr;have c4:=c4 hl;have dL:kD (valOf ab b0.ad) (fun y=>y=f.key) cP b.ae b.ak (dQ b (aC b.ak b.ae f.key) false).ak:=kD.mark hl false (.inr rfl)
  have Bw:=hB.mark hR hl fun m hm a ha Bu=>by
   have kH:(⟨m,a⟩:sg)∈bW b.ak (aC b.ak b.ae f.key):=eF.2 ⟨hm,ha,Bu⟩;obtain⟨j,hj⟩:=List.mem_iff_getElem?.1 kH;have h1:=(List.getElem?_eq_some_iff.1 hj).1;obtain⟨h2,h3,_⟩:=c4 j ⟨m,a⟩ (by omega) hj
   grind
  have wF:=hW.T7 hl fun m hm a ha Bu=>by
   have kH:(⟨m,a⟩:sg)∈bW b.ak (aC b.ak b.ae f.key):=eF.2 ⟨hm,ha,Bu⟩;obtain⟨j,hj⟩:=List.mem_iff_getElem?.1 kH
   grind
  rw [List.append_nil];refine⟨rfl,Wh Bw ?_ (Wf dL (fun _ h=>h) rfl rfl (fun y r' hf hd=>?_) hW.cP (fun _ h=>.inl h) (fun y hu I0=>.inr (wF y (KN hu I0))) hW.mE) dL rfl fun _ h=>.inl h⟩
  ·
   obtain⟨r,h1,_⟩:=hl
   grind [uu,lJ]
  have DT:(aB b.ak y).map (cL b.ae (aC b.ak b.ae f.key) false)=some r':=eS.symm.trans hf;obtain⟨r,hr,rfl⟩:=Option.map_eq_some_iff.1 DT;rw [wY] at hd;exact hW.QS y r hr hd
 | T8 c hr hl hc hk=>grind
 | abH c hr hl hc hk=>grind
 | pass c hr hl hc sk wT hle=>
  obtain⟨c1,c2,c3,c4⟩:=hT.LM hr;have Kh:=zG sk wT;rw [List.append_nil];refine⟨rfl,sn (g:={f with at_:=f.at_+1}) rfl hB hW (.refl _) rfl (fun _ h=>h) ⟨⟨i,hi,sP⟩,hT.new,hT.low,fun hc=>?_,fun _=>⟨c1,c2,by show 0≤f.at_+1;omega,fun _ j c' hj OE=>?_⟩⟩⟩
  ·
   grind
  have hj':j<f.at_.toNat+1:=by grind
  rcases Nat.lt_or_ge j f.at_.toNat with dZ | qi
  ·
   obtain⟨p1,p2,p3⟩:=c4 hl j c' dZ OE;exact⟨p1,p2.mono (RW rfl),p3⟩
  have e:j=f.at_.toNat:=by omega
  subst e;have abK:(bW b.ak (aC b.ak b.ae f.key))[f.at_.toNat]?=some c':=OE;rw [hc] at abK
  have:=Option.some.inj abK
  subst this;refine⟨?_,Kh.mono (RW rfl),by rw [← hW.changed hB c.read];exact hle⟩;obtain⟨hm,ha,Bu⟩:=eF.1 (List.mem_of_getElem? hc);obtain⟨rm,g1,g2,g3⟩:=mj hl hm;rw [bD g1] at hle ha ⊢;have h1:=hB.c.changed (aT g1).1 g3 ha (by rw [ij];exact hle);rw [ij] at h1;exact h1
 | fail c hr hl hc sk wT dZ=>
  obtain⟨hm,ha,Bu⟩:=eF.1 (List.mem_of_getElem? hc);have OG:=hW.Wb hB hl hm ha Bu dZ;have I1:Nn (valOf ab b0.ad) b0 f.key:=⟨qt,hW.zC (GK hl),.inr (.inr (OG _ lJ))⟩;rw [List.append_nil]
  cases tk:aA f.key with
  | false=>
   simp only [Bool.false_eq_true,if_false];refine⟨trivial,I5 hr hB hW (.refl _) rfl ?_ (GK hl) I1⟩;rw [Bool.eq_false_iff]
   grind [cD]
  | true=>
   simp only [if_true];have dL:kD (valOf ab b0.ad) (fun y=>y=f.key) cP b.ae b.ak (dQ b (aC b.ak b.ae f.key) true).ak:=kD.mark hl true (.inl tk);obtain⟨r,f1,f2,f3⟩:=id hl
   have hfk:aB (dQ b (aC b.ak b.ae f.key) true).ak f.key=some {r with bS:=true}:=by
    refine eS.trans ?_;rw [f1]
    show some (cL _ _ _ r)=_
    unfold cL
    rw [if_pos (by rw [(aT f1).2];exact lJ)]
    rfl
   refine⟨trivial,I5 hr (hB.bS fun m hm=>mj hl hm) (Wf dL (fun _ h=>h) rfl rfl (fun y r' hf hd=>?_) hW.cP (fun _ h=>.inl h) (fun y hu I0=>by grind [GJ]) hW.mE) dL rfl ?_ (mB hfk f3) I1⟩
   ·
    have DT:(aB b.ak y).map (cL b.ae (aC b.ak b.ae f.key) true)=some r':=eS.symm.trans hf;obtain⟨q,hq,rfl⟩:=Option.map_eq_some_iff.1 DT
    by_cases hy:y∈aC b.ak b.ae f.key
    ·
     exact .inr (OG y hy)
    unfold cL at hd
    rw [if_neg (by rw [(aT hq).2];exact hy)] at hd;exact hW.QS y q hq hd
   rw [Bool.eq_false_iff]
   grind [cD]
end
end Go.Rc

namespace Go.Rc
open Go
theorem As.exc{A:As}{Z:Nat→Prop}{w w':World}(h:A.ok Z w) (c:aV [] w w'):A.ok Z w':=A.st c.size (fun x _ hx=>c.block x hx (by simp)) h
theorem abL{k:Key}(h:gT k):aA k=decide (k.kind=32):=by
 have e:(decide (1≤k.kind) && decide (k.kind≤22))=false:=by
  rcases h with h | h
  ·
   grind
  grind
 unfold aA
 grind
/-! ### records in blocks -/
structure RL where
 b:Nat
 a:Option Addr
 n:Nat
 c:Nat
def WD.wc(D:WD) (v:Nat) (rev:Int) (ra:Option Addr) (rn rc:Nat):List Value:=
 [.slice D.ar D.r D.cr,.int .i64 rev,.slice D.a1 D.n1 D.c1,.slice D.a2 D.n2 D.c2,.map (some D.m),.pointer (some ⟨v,0,none⟩),.slice ra rn rc]
def As.oT(RT:Nat) (lf:Key→RL) (l:List Rec):As where
 fp x:=∃k r,aB l k=some r∧x=(lf k).b
 ok Z w:=(∀k r,aB l k=some r→cV w (lf k).b RT (r.row (lf k).a (lf k).n (lf k).c)∧Rd RR.key 2 Z w (lf k).a (lf k).n (lf k).c r.reads∧r.reads.length≤4000)∧∀k k' r r',aB l k=some r→aB l k'=some r'→(lf k).b=(lf k').b→k=k'
 lt h x hx:=by
  obtain⟨k,r,hk,rfl⟩:=hx;exact(h.1 k r hk).1.lt
 mono hZ h:=⟨fun k r hk=>by
  obtain⟨hb,hr,h4⟩:=h.1 k r hk;exact⟨hb,hr.mono hZ,h4⟩,h.2⟩
 st hs hc h:=⟨fun k r hk=>by
  obtain⟨hb,hr,h4⟩:=h.1 k r hk;exact⟨(As.blk (lf k).b RT (r.row (lf k).a (lf k).n (lf k).c)).st (Z:=fun _=>False) hs (fun x hx hl=>hc x (.inl ⟨k,r,hk,by rcases hx with hx | hx;exact hx;exact hx.elim⟩) hl) hb,hr.st hs (fun x hx=>hc x (.inr hx)),h4⟩,h.2⟩
theorem As.KT{RT:Nat}{lf:Key→RL}{l:List Rec}{Z:Nat→Prop}{w:World}(h:(As.oT RT lf l).ok Z w):(As.oT RT lf l).ok Z w:=h
def jR(l:List Rec) (lf:Key→RL) (ml:List (Key × Value)):Prop:=∀k,bX ml k=(aB l k).map fun _=>Value.pointer (some ⟨(lf k).b,0,none⟩)
theorem jR.nil(lf:Key→RL):jR [] lf []:=fun _=>rfl
theorem jR.no{l:List Rec}{lf:Key→RL}{ml:List (Key × Value)}{k:Key}(h:jR l lf ml) (hf:aB l k=none):(bX ml k).getD (.pointer none)=.pointer none:=by rw [h k,hf];rfl
theorem jR.yes{l:List Rec}{lf:Key→RL}{ml:List (Key × Value)}{k:Key}{r:Rec}(h:jR l lf ml) (hf:aB l k=some r):bX ml k=some (.pointer (some ⟨(lf k).b,0,none⟩)):=by rw [h k,hf];rfl
def OJ(lf:Key→RL) (k:Key) (q:RL):Key→RL:=fun y=>if y=k then q else lf y
theorem oH{lf:Key→RL}{k:Key}{q:RL}:OJ lf k q k=q:=if_pos rfl
theorem pf{lf:Key→RL}{k y:Key}{q:RL}(h:¬y=k):OJ lf k q y=lf y:=if_neg h
theorem jR.put{l l':List Rec}{lf:Key→RL}{ml:List (Key × Value)}{r:Rec}{q:RL}(h:jR l lf ml) (hl:∀y,aB l' y=if y=r.key then some r else aB l y):jR l' (OJ lf r.key q) (dC ml r.key (.pointer (some ⟨q.b,0,none⟩))):=fun k=>by
 rw [fy,hl k]
 by_cases e:k=r.key
 ·
  subst e;rw [if_pos rfl,if_pos rfl,oH]
  rfl
 rw [if_neg fun h=>e h.symm,if_neg e,pf e,h k]
section
variable {RT:Nat}{q:RL}{lf:Key→RL}{l l':List Rec}{r:Rec}{w0 w:World}{M Z:Nat→Prop}{L:List As}
theorem St.ahJ(h:St w0 M Z w L) (RT:Nat) (lf:Key→RL):St w0 M Z w (As.oT RT lf []::L):=h.fact (B:=As.oT RT lf []) ⟨fun k r hk=>(by cases hk),fun k k' r r' hk=>(by cases hk)⟩ fun x hx=>by obtain⟨k,r,hk,_⟩:=hx;cases hk
theorem St.Wj(h:St w0 M Z w (As.blk q.b RT (r.row q.a q.n q.c)::As.oT RT lf l::L)) (hr:Rd RR.key 2 Z w q.a q.n q.c r.reads) (h4:r.reads.length≤4000) (hl:∀y,aB l' y=if y=r.key then some r else aB l y):St w0 M Z w (As.oT RT (OJ lf r.key q) l'::L):=by
 have hB:cV w q.b RT (r.row q.a q.n q.c):=h.g0;have hR:(As.oT RT lf l).ok Z w:=h.g1;have hd:∀k r',aB l k=some r'→q.b≠(lf k).b:=fun k r' hk e=>(List.pairwise_cons.1 h.vA).1 (As.oT RT lf l) M0 q.b rfl ⟨k,r',hk,e⟩;refine h.join (C:=As.oT RT (OJ lf r.key q) l') ⟨fun k r' hk=>?_,fun k k' r1 r2 h1 h2 e=>?_⟩ fun x hx=>?_
 ·
  rw [hl k] at hk
  by_cases e:k=r.key
  ·
   rw [if_pos e] at hk
   grind [oH]
  rw [if_neg e] at hk;rw [pf e];exact hR.1 k r' hk
 ·
  rw [hl k] at h1;rw [hl k'] at h2
  by_cases e1:k=r.key
  ·
   by_cases e2:k'=r.key
   ·
    rw [e1,e2]
   rw [if_neg e2] at h2
   grind [oH,pf]
  rw [if_neg e1] at h1
  by_cases e2:k'=r.key
  ·
   rw [pf e1,e2,oH] at e;exact absurd e.symm (hd k _ h1)
  rw [if_neg e2] at h2;rw [pf e1,pf e2] at e;exact hR.2 k k' _ _ h1 h2 e
 obtain⟨k,r',hk,rfl⟩:=hx;rw [hl k] at hk
 by_cases e:k=r.key
 ·
  rw [e,oH];exact .inl rfl
 rw [if_neg e] at hk;rw [pf e];exact .inr ⟨k,r',hk,rfl⟩
theorem Ow.z{α:Type}{f:α→List Value}{E k n c:Nat}{a:Option Addr}{xs:List α}{Z':Nat→Prop}(h:Ow (RR.flat f) E k Z' w a n c xs):Ow (RR.flat f) E k Z w a n c xs:=by
 obtain⟨hn,rows,hl,hk,h1,hx⟩:=h;exact⟨hn,rows,hl,hk,h1,hx⟩
theorem St.unz{A:As}{Z':Nat→Prop}(h:St w0 M Z' w [A]) (hz:∀x,Z x→Z' x) (hA:A.ok Z w):St w0 M Z w [A]:=
 ⟨h.cW,fun x hx=>h.ma x (hz x hx),fun B hB x hx QI=>h.o5 B hB x hx (hz x QI),h.qc,h.vA,fun B hB=>by grind⟩
end
theorem I6{l:List Rec}{r:Rec}(h:∀x∈l,x.key≠r.key) (y:Key):aB (l++[r]) y=if y=r.key then some r else aB l y:=by
 unfold aB
 grind
/-! ### entries of maps that are changed in place -/
section
variable {κ:Type} [DecidableEq κ] {enc:κ→Value}{P:Program}{kt:TypeId}{w w':World}{b:Nat}{l:List (κ × Value)}
def Wk{κ:Type}(enc:κ→Value) (w:World) (b:Nat) (l:List (κ × Value)) (k:κ) (z:Int):Prop:=
 ∃es clock,w.heap[b]?=some (.map es clock)∧(es.toList.map (fun e=>(e.key,e.val))=l.map (fun p=>(enc p.1,p.2))∧(l.map (·.1)).Nodup∧(∀e∈es.toList,e.born<clock)∧(es.toList.map (·.born)).Nodup)∧∃(j:Nat) (v:Value) (e:MapEntry),l[j]?=some (k,v)∧es[j]?=some e∧(e.born:Int)=z
def As.I7{κ:Type}(enc:κ→Value) (b:Nat) (l:List (κ × Value)) (k:κ) (z:Int):As where
 fp x:=x=b
 ok _ w:=Wk enc w b l k z
 lt h x hx:=by
  subst hx;obtain⟨es,c,h,_⟩:=h
  grind
 mono _ h:=h
 st hs hc h:=by
  obtain⟨es,c,h,r⟩:=h;exact⟨es,c,(hc b (.inl rfl) (Array.getElem?_eq_some_iff.1 h).1).trans h,r⟩
theorem As.gmb{κ:Type}{enc:κ→Value}{b:Nat}{l:List (κ × Value)}{k:κ}{z:Int}{Z:Nat→Prop}{w:World}(h:(As.I7 enc b l k z).ok Z w):Wk enc w b l k z:=h
theorem DV{e T:TypeId}{zv:Value}(hK:KK P kt enc) (hT:P.underlying T=some (.map kt e)) (hz:∀w,(zeroValue e).run P w=.ok zv w) (hb:KM enc w b l) (k:κ) :
  ∃(z:Int) (w':World),(Instr.mapEntry T (.map (some b)) (enc k)).run P w=.ok (.tuple #[(bX l k).getD zv,.int .i64 z]) w'∧aV [b] w w'∧Wk enc w' b (dC l k ((bX l k).getD zv)) k z:=by
 obtain⟨es,clock,hm,he,hn,ZT,F5⟩:=hb;have yI:b<w.heap.size:=(Array.getElem?_eq_some_iff.1 hm).1
 have hlen:es.toList.length=l.length:=by simpa using congrArg List.length he
 cases hx:sT l k 0 with
 | none=>
  obtain⟨h1,h2⟩:=mx hx;refine⟨(clock:Int),_,?_,kg w b (.map (es.push {key:=enc k,val:=zv,born:=clock}) (clock+1)),?_⟩
  ·
   rw [h1];simp only [Instr.mapEntry,Sem.run_bind,run_underlying hT,Result.andThen_ok,MapKept.run_getObj_map hm,hK.check,hK.find l es.toList k w he,hx,hz,MapKept.run_setObj_map _ hm,Option.getD_none]
   rfl
  rw [h1,h2];refine⟨_,_,by first | (simp [yI];done) | (simp [yI];exact⟨rfl,rfl⟩),⟨by simp [he],by grind [iq],?_,?_⟩,l.length,zv,{key:=enc k,val:=zv,born:=clock},by simp,?_,rfl⟩
  ·
   grind
  ·
   grind
  grind
 | some p=>
  obtain⟨j,v0⟩:=p;obtain⟨m,h1,h2,h3,h4,_⟩:=kW hx
  have pD:j=m:=by omega
  subst pD
  have TM:j<es.size:=by grind
  obtain⟨y,hy⟩:∃y,es[j]?=some y:=⟨_,Array.getElem?_eq_getElem TM⟩
  have hye:y.key=enc k∧y.val=v0:=by
   have:=congrArg (fun x=>x[j]?) he
   grind
  have Ir:(((es[j]?).map (·.key)).getD (enc k))=enc k:=by rw [hy];exact hye.1
  have abM:(((es[j]?).map fun x=>(x.born:Int)).getD 0)=(y.born:Int):=by rw [hy];rfl
  refine⟨(y.born:Int),_,?_,kg w b (.map (es.modify j fun e=>{e with key:=enc k}) clock),?_⟩
  ·
   rw [h3];simp only [Instr.mapEntry,Sem.run_bind,run_underlying hT,Result.andThen_ok,MapKept.run_getObj_map hm,hK.check,hK.find l es.toList k w he,hx,Instr.keyThatStays,Ir,hK.same,if_true,Sem.run_pure,MapKept.run_setObj_map _ hm,Option.getD_some,abM]
   rfl
  rw [h3]
  have F6:(es.modify j fun e=>{e with key:=enc k}).toList.map (fun e=>(e.key,e.val))=(l.set j (k,v0)).map (fun p=>(enc p.1,p.2))∧(es.modify j fun e=>{e with key:=enc k}).toList.map (·.born)=es.toList.map (·.born):=by
   constructor
   ·
    apply List.ext_getElem?
    intro i;have hi:=congrArg (fun x=>x[i]?) he
    grind
   apply List.ext_getElem?
   grind
  refine⟨_,_,by first | (simp [yI];done) | (simp [yI];exact⟨rfl,rfl⟩),⟨by grind,iq hn k _,?_,by rw [F6.2];exact F5⟩,j,v0,{y with key:=enc k},?_,?_,rfl⟩
  ·
   intro x hx
   have:x.born∈(es.modify j fun e=>{e with key:=enc k}).toList.map (·.born):=List.mem_map.2 ⟨x,hx,rfl⟩
   grind
  ·
   grind
  grind
theorem zH{α:Type}:∀{l:List α},l.Nodup→∀{i j:Nat}{x:α},l[i]?=some x→l[j]?=some x→i=j:=fun {l} h {i j x} h1 h2=>by
 obtain⟨hi,e1⟩:=List.getElem?_eq_some_iff.1 h1;obtain⟨hj,e2⟩:=List.getElem?_eq_some_iff.1 h2
 rcases Nat.lt_trichotomy i j with g | g | g
 ·
  exact absurd (e1.trans e2.symm) (List.pairwise_iff_getElem.1 h i j hi hj g)
 ·
  exact g
 exact absurd (e2.trans e1.symm) (List.pairwise_iff_getElem.1 h j i hj hi g)
theorem zI{T:TypeId}{k:κ}{z:Int}(hb:Wk enc w b l k z) (v:Value) :
  ∃w':World,(Instr.entryStore T (.map (some b)) (.int .i64 z) v).run P w=.ok () w'∧aV [b] w w'∧KM enc w' b (dC l k v):=by
 obtain⟨es,clock,hm,⟨he,hn,ZT,F5⟩,j,v0,y,hj,hy,hz⟩:=hb;have yI:b<w.heap.size:=(Array.getElem?_eq_some_iff.1 hm).1;have TM:j<es.size:=(Array.getElem?_eq_some_iff.1 hy).1
 have TQ:es.findIdx? (fun e=>(e.born:Int) == z)=some j:=by
  rw [Array.findIdx?_eq_some_iff_getElem]
  have hyj:es[j]=y:=by grind
  refine⟨TM,by rw [hyj];simpa using hz,fun i hi=>?_⟩
  have kV:(es[i]'(by omega)).born≠y.born:=fun e=>by
   have h1:(es.toList.map (·.born))[i]?=some y.born:=by grind
   have h2:(es.toList.map (·.born))[j]?=some y.born:=by simp [hy]
   grind [zH]
  grind
 have Wl:∃(j':Nat),sT l k 0=some (j',v0)∧j'=j:=by
  cases hx:sT l k 0 with
  | none=>
   have h1:=(mx hx).1;exact absurd (List.mem_map.2 ⟨(k,v0),List.mem_of_getElem? hj,rfl⟩) (Ck.1 h1)
  | some p=>
   obtain⟨j',v1⟩:=p;obtain⟨m,h1,h2,_⟩:=kW hx
   have h3:(l.map (·.1))[m]?=some k:=by rw [List.getElem?_map,h2];rfl
   have h4:(l.map (·.1))[j]?=some k:=by rw [List.getElem?_map,hj];rfl
   have h5:=zH hn h3 h4
   grind
 obtain⟨j',hx,hjj⟩:=Wl;subst hjj;obtain⟨m,h1,h2,h3,h4,_⟩:=kW hx
 have pD:j'=m:=by omega
 subst pD;refine⟨_,?_,kg w b (.map (es.modify j' fun e=>{e with val:=v}) clock),?_⟩
 ·
  simp only [Instr.entryStore,Sem.run_bind,Result.andThen_ok,MapKept.run_getObj_map hm,asInt,asIntOf,Sem.run_pure,TQ,MapKept.run_setObj_map _ hm]
 have hyk:y.key=enc k:=by
  have:=congrArg (fun x=>x[j']?) he
  grind
 have F6:(es.modify j' fun e=>{e with val:=v}).toList.map (fun e=>(e.key,e.val))=(l.set j' (k,v)).map (fun p=>(enc p.1,p.2))∧(es.modify j' fun e=>{e with val:=v}).toList.map (·.born)=es.toList.map (·.born):=by
  constructor
  ·
   apply List.ext_getElem?
   intro i;have hi:=congrArg (fun x=>x[i]?) he
   grind
  apply List.ext_getElem?
  grind
 refine⟨_,_,by first | (simp [yI];done) | (simp [yI];exact⟨rfl,rfl⟩),by rw [h4];exact F6.1,iq hn k v,?_,by rw [F6.2];exact F5⟩;intro x hx
 have:x.born∈(es.modify j' fun e=>{e with val:=v}).toList.map (·.born):=List.mem_map.2 ⟨x,hx,rfl⟩
 grind
variable {n:Nat}{kv:KV}{K:KV→World→Prop}{d:Tmp}{ty:TypeId}{pos:String}{af:Array Edge}{g:Option (Nat × Bool)}{T e:TypeId}
theorem OX.mapEntry{zv v:Value}{k:κ}(hK:KK P kt enc) (hT:P.underlying T=some (.map kt e)) (hz:∀w,(zeroValue e).run P w=.ok zv w) (hb:KM enc w b l) (hv:(bX l k).getD zv=v) {x y:Operand}(hx:ev kv x=some (.map (some b))) (hy:ev kv y=some (enc k)) (hd:Nat.blt d n=true)
  (h:∀(z:Int) w',aV [b] w w'→Wk enc w' b (dC l k v) k z→K ((d,.tuple #[v,.int .i64 z])::kv) w'):OX P ⟨some d,.mapEntry T x y,ty,pos,af,g⟩ n kv w K:=by
 obtain⟨z,w',hr,h1,h2⟩:=DV hK hT hz hb k;rw [hv] at hr h2;refine⟨rfl,hd,by simp [known,opers,hx,hy],?_⟩
 have jg:(execOp (lX kv) ⟨some d,.mapEntry T x y,ty,pos,af,g⟩).run P w=.ok (.value (.tuple #[v,.int .i64 z])) w':=by
  simp only [execOp,aK hx,aK hy,Sem.run_bind,hr,Result.andThen_ok];rfl
 rw [jg];exact h z _ h1 h2
theorem OX.entryStore{k:κ}{z:Int}{v:Value}(hb:Wk enc w b l k z) {x y u:Operand}(hx:ev kv x=some (.map (some b))) (hy:ev kv y=some (.int .i64 z)) (hu:ev kv u=some v)
  (h:∀w',aV [b] w w'→KM enc w' b (dC l k v)→K kv w'):OX P ⟨none,.entryStore T x y u,ty,pos,af,g⟩ n kv w K:=by
 obtain⟨w',hr,h1,h2⟩:=zI (P:=P) (T:=T) hb v;refine⟨rfl,rfl,by simp [known,opers,hx,hy,hu],?_⟩
 have jg:(execOp (lX kv) ⟨none,.entryStore T x y u,ty,pos,af,g⟩).run P w=.ok .skip w':=by
  simp only [execOp,aK hx,aK hy,aK hu,Sem.run_bind,hr,Result.andThen_ok];rfl
 rw [jg];exact h _ h1 h2
end
section
variable {κ:Type}{enc:κ→Value}{w0 w w':World}{M Z:Nat→Prop}{L:List As}{b:Nat}{l l':List (κ × Value)}{k:κ}{z:Int}
theorem St.abN(h:St w0 M Z w (As.map enc b l::L)) (s:aV [b] w w') (hm:Wk enc w' b l' k z):St w0 M Z w' (As.I7 enc b l' k z::L):=h.nN (s.p.mono fun x _ hx=>by simpa [As.map] using hx) hm fun x hx=>.inl hx
theorem St.abO(h:St w0 M Z w (As.I7 enc b l k z::L)) (s:aV [b] w w') (hm:KM enc w' b l'):St w0 M Z w' (As.map enc b l'::L):=h.nN (s.p.mono fun x _ hx=>by simpa [As.I7] using hx) hm fun x hx=>.inl hx
end
/-! ### a map to owned slices -/
def mc(L:List RE) (k:Key):Option RE:=L.find? fun e=>decide (e.key=k)
def kn(L:List RE) (k:Key):List Key:=((mc L k).map (·.reads)).getD []
def xR(L:List RE) (ml:List (Key × Value)):Prop:=∀k,bX ml k=(mc L k).map fun e=>Value.slice e.a e.n e.c
def uz(bg:Key→List Key) (x y:Key):Key→List Key:=fun z=>if z=x then bg z++[y] else bg z
def rest(L:List RE) (x:Key):List RE:=L.filter fun e=>decide (e.key≠x)
section
variable {L:List RE}{ml:List (Key × Value)}{x y:Key}{e:RE}{a:Option Addr}{n c:Nat}{v:Value}
theorem CQ(h:mc L x=some e):e∈L∧e.key=x:=by grind [mc]
theorem xR.nil:xR [] []:=fun _=>rfl
theorem vN(ys:List Key) (z:Key):mc (⟨x,a,n,c,ys⟩::rest L x) z=if z=x then some ⟨x,a,n,c,ys⟩ else mc L z:=by
 unfold mc rest
 grind
theorem xR.put(h:xR L ml) (ys:List Key):xR (⟨x,a,n,c,ys⟩::rest L x) (dC (dC ml x v) x (.slice a n c)):=fun z=>by
 rw [fy,vN]
 by_cases e:x=z
 ·
  subst e
  simp
 rw [if_neg e,if_neg fun h=>e h.symm,fy,if_neg e];exact h z
theorem OK(z:Key):kn (⟨x,a,n,c,kn L x++[y]⟩::rest L x) z=uz (kn L) x y z:=by
 unfold uz
 by_cases h:z=x
 ·
  subst h;rw [if_pos rfl]
  show((mc _ z).map _).getD []=_
  rw [vN,if_pos rfl]
  rfl
 rw [if_neg h]
 show((mc _ z).map _).getD []=((mc L z).map _).getD []
 rw [vN,if_neg h]
theorem RX:kn (⟨x,a,n,c,kn L x++[y]⟩::rest L x)=uz (kn L) x y:=funext OK
theorem I8(h:(L.map (·.key)).Nodup) (ys:List Key):(((⟨x,a,n,c,ys⟩:RE)::rest L x).map (·.key)).Nodup:=by
 rw [List.map_cons,List.nodup_cons];refine⟨fun h2=>?_,((List.filter_sublist (l:=L)).map (·.key)).nodup h⟩;obtain⟨e,he,h3⟩:=List.mem_map.1 h2
 have:=(List.mem_filter.1 he).2
 simp at this
 exact this h3
theorem CS:∀{L:List RE},(L.map (·.key)).Nodup→mc L x=some e→L.Perm (e::rest L x)
 | [],_,h=>by cases h
 | q::L,hn,h=>by
  rw [List.map_cons,List.nodup_cons] at hn
  unfold mc at h
  by_cases hq:q.key=x
  ·
   rw [List.find?_cons_of_pos (by simpa using hq)] at h
   cases h
   have:rest (e::L) x=L:=by
    unfold rest
    simp_all
   rw [this]
  rw [List.find?_cons_of_neg (by simpa using hq)] at h
  have h2:rest (q::L) x=q::rest L x:=by
   unfold rest
   grind
  rw [h2];exact((CS hn.2 h).cons q).trans (.swap _ _ _)
variable {w0 w:World}{M Z:Nat→Prop}{l:List As}{EK:Nat}
theorem St.abP(hn:(L.map (·.key)).Nodup) (hm:xR L ml) (x:Key) (h:St w0 M Z w (As.many (L.map (RE.as EK))::l)):∃(a:Option Addr) (n c:Nat),(bX ml x).getD (.slice none 0 0)=.slice a n c∧St w0 M Z w (As.os RR.key EK 2 a n c (kn L x)::As.many ((rest L x).map (RE.as EK))::l):=by
 cases hf:mc L x with
 | none=>
  refine⟨none,0,0,by rw [hm x,hf];rfl,?_⟩
  have e1:kn L x=[]:=by unfold kn;rw [hf];rfl
  have e2:rest L x=L:=by
   unfold rest
   rw [List.filter_eq_self];intro e he
   have:=List.find?_eq_none.1 hf e he
   simpa using this
  rw [e1,e2];exact h.eR _ _ _
 | some e=>
  refine⟨e.a,e.n,e.c,by rw [hm x,hf];rfl,?_⟩
  have e1:kn L x=e.reads:=by unfold kn;rw [hf];rfl
  rw [e1];exact(St.aby ((CS hn hf).map (RE.as EK)) h).RJ
theorem St.ahL{ys:List Key}(h:St w0 M Z w (As.os RR.key EK 2 a n c ys::As.many ((rest L x).map (RE.as EK))::l)):St w0 M Z w (As.many (((⟨x,a,n,c,ys⟩:RE)::rest L x).map (RE.as EK))::l):=h.V6
def FBK(L:List RE):FZ where
 p Z w:=∀e∈L,Rd RR.key 2 Z w e.a e.n e.c e.reads
 mono hZ h:=fun e he=>(h e he).mono hZ
 st hs hc h:=fun e he=>(h e he).st hs hc
theorem St.bkF(hl:∀e∈L,e.reads.length≤140737488355328) (h:St w0 M Z w (As.many (L.map (RE.as EK))::l)):St w0 M (fun x=>Z x∨(As.many (L.map (RE.as EK))).fp x) w (As.fz (FBK L)::l):=by
 have hm:(As.many (L.map (RE.as EK))).ok Z w:=h.ok _ M0
 refine h.freeze (B:=As.fz (FBK L)) (fun e he=>?_) fun x hx=>hx
 have h3:Ow RR.key EK 2 Z w e.a e.n e.c e.reads:=As.gs (hm.2 _ (List.mem_map_of_mem (f:=RE.as EK) he))
 exact(h3.rd (hl e he)).mono fun x hx=>hx.imp id fun hx=>⟨_,List.mem_map_of_mem (f:=RE.as EK) he,hx⟩
theorem xR.read(hm:xR L ml) (hf:(FBK L).p Z w) (x:Key):∃(a:Option Addr) (n c:Nat),(bX ml x).getD (.slice none 0 0)=.slice a n c∧Rd RR.key 2 Z w a n c (kn L x):=by
 cases hx:mc L x with
 | none=>
  refine⟨none,0,0,by rw [hm x,hx];rfl,?_⟩
  grind [kn,Rd.nil]
 | some e=>
  refine⟨e.a,e.n,e.c,by rw [hm x,hx];rfl,?_⟩
  have e1:kn L x=e.reads:=by unfold kn;rw [hx];rfl
  rw [e1];exact hf e (CQ hx).1
theorem OM(hn:(L.map (·.key)).Nodup) (he:e∈L):kn L e.key=e.reads:=by
 have:mc L e.key=some e:=by
  cases hf:mc L e.key with
  | none=>
   have:=List.find?_eq_none.1 hf e he
   simp at this
  | some q=>
   obtain⟨h1,h2⟩:=CQ hf;obtain⟨i,hi⟩:=List.mem_iff_getElem?.1 h1;obtain⟨j,hj⟩:=List.mem_iff_getElem?.1 he
   have g1:(L.map (·.key))[i]?=some e.key:=by grind
   have g2:(L.map (·.key))[j]?=some e.key:=by rw [List.getElem?_map,hj];rfl
   grind [zH]
 unfold kn
 rw [this]
 rfl
end
/-! ### a search there and back -/
section
variable {l:List Rec}{rev:Int}{k:Key}{bg:Key→List Key}{L:List Key}{i q:Nat}{x y:Key}
structure xS (l:List Rec) (rev:Int) (k:Key) (bg:Key→List Key) (L:List Key) (i q:Nat):Prop where
 mE:L.Nodup
 mem:k∈L
 sub:∀x∈L,x=k∨cA l rev k x
 cl:∀j y,j<i→L[j]?=some y→∀x,Ld l rev y x→x∈L∧y∈bg x
 cur:∀y,L[i]?=some y→∀x∈(aH l y).reads.take q,cJ l rev x=true→x∈L∧y∈bg x
 bk:∀x y,y∈bg x→y∈L∧Ld l rev y x
 len:∀x,(bg x).length≤4000*i+q
theorem xS.start(h:∀x,bg x=[]):xS l rev k bg [k] 0 0:=
 ⟨by simp,by simp,by simp,fun j y h=>by omega,fun y _ x hx=>by simp at hx,fun x y hy=>(by rw [h] at hy;cases hy),fun x=>by rw [h];simp⟩
theorem xS.op(h:xS l rev k bg L i q) (ho:cJ l rev k=true) (hx:x∈L):cJ l rev x=true:=by
 rcases h.sub x hx with rfl | h1
 ·
  exact ho
 exact h1.iK
theorem xS.le(h:xS l rev k bg L i q) (ho:cJ l rev k=true):L.length≤l.length:=by
 have:=iI h.mE fun x hx=>qv (h.op ho hx)
 simpa using this
theorem xS.skip(h:xS l rev k bg L i q) (hy:L[i]?=some y) (hx:(aH l y).reads[q]?=some x) (gR:cJ l rev x=false):xS l rev k bg L i (q+1):=
 {h with
  cur:=fun y' vO x' Mf ho=>by
   rw [hy] at vO
   cases vO
   rcases qC hx Mf with h1 | rfl
   ·
    exact h.cur y hy x' h1 ho
   rw [gR] at ho;cases ho
  len:=fun x=>by have:=h.len x;omega}
theorem uA{z u:Key}(h:u∈bg z):u∈uz bg x y z:=by grind [uz]
theorem CT:y∈uz bg x y x:=by unfold uz;simp
theorem zJ{z u:Key}(h:u∈uz bg x y z):u∈bg z∨(z=x∧u=y):=by grind [uz]
theorem GL(z:Key):(uz bg x y z).length≤(bg z).length+1:=by
 unfold uz
 split <;> simp
theorem xS.vq(h:xS l rev k bg L i q) (hy:L[i]?=some y) (hx:(aH l y).reads[q]?=some x) (ho:cJ l rev x=true) (hm:x∈L):xS l rev k (uz bg x y) L i (q+1):=
 {h with
  cl:=fun j y' hj vO x' hl=>⟨(h.cl j y' hj vO x' hl).1,uA (h.cl j y' hj vO x' hl).2⟩
  cur:=fun y' vO x' Mf H2=>by
   rw [hy] at vO
   cases vO
   rcases qC hx Mf with h1 | rfl
   ·
    have:=h.cur y hy x' h1 H2
    grind [uA]
   exact⟨hm,CT⟩
  bk:=fun z u hu=>by
   rcases zJ hu with h1 | ⟨rfl,rfl⟩
   ·
    exact h.bk z u h1
   exact⟨List.mem_of_getElem? hy,List.mem_of_getElem? hx,ho⟩
  len:=fun z=>by have:=h.len z;grind [GL]}
theorem xS.new(h:xS l rev k bg L i q) (hy:L[i]?=some y) (hx:(aH l y).reads[q]?=some x) (ho:cJ l rev x=true) (hm:x∉L):xS l rev k (uz bg x y) (L++[x]) i (q+1):=by
 have Bg:i<L.length:=(List.getElem?_eq_some_iff.1 hy).1;have TN:Ld l rev y x:=⟨List.mem_of_getElem? hx,ho⟩
 have vq:∀{j z},j≤i→(L++[x])[j]?=some z→L[j]?=some z:=fun hj h2=>by grind
 refine⟨by grind [mE],by simp [h.mem],fun z hz=>?_,fun j y' hj vO x' hl=>?_,fun y' vO x' Mf H2=>?_,fun z u hu=>?_,fun z=>?_⟩
 ·
  rcases List.mem_append.1 hz with hz | hz
  ·
   exact h.sub z hz
  rw [List.mem_singleton] at hz;subst hz
  rcases h.sub y (List.mem_of_getElem? hy) with rfl | h1
  ·
   exact .inr (.one TN)
  exact .inr (.step h1 TN)
 ·
  have h1:=h.cl j y' hj (vq (by omega) vO) x' hl
  grind [uA]
 ·
  have Mg:=vq (Nat.le_refl _) vO;rw [hy] at Mg
  cases Mg
  rcases qC hx Mf with h1 | rfl
  ·
   have:=h.cur y hy x' h1 H2
   grind [uA]
  exact⟨by simp,CT⟩
 ·
  rcases zJ hu with h1 | ⟨rfl,rfl⟩
  ·
   have:=h.bk z u h1
   grind
  grind
 have:=h.len z
 grind [GL]
theorem xS.next(h:xS l rev k bg L i q) (hy:L[i]?=some y) (hq:(aH l y).reads.length≤q) (h4:q≤4000):xS l rev k bg L (i+1) 0:=
 {h with
  cl:=fun j y' hj vO x' hl=>by
   rcases Nat.lt_or_ge j i with h1 | h1
   ·
    exact h.cl j y' h1 vO x' hl
   have e:j=i:=by omega
   subst e;rw [hy] at vO
   cases vO
   exact h.cur y hy x' (by rw [List.take_of_length_le hq];exact hl.1) hl.2
  cur:=fun _ _ x hx=>by simp at hx
  len:=fun x=>by have:=h.len x;omega}
theorem xS.done(h:xS l rev k bg L i q) (hi:L.length≤i) (x:Key):x∈L↔x=k∨cA l rev k x:=by
 have vo:∀y∈L,∀x,Ld l rev y x→x∈L∧y∈bg x:=fun y hy x hl=>by
  obtain⟨j,hj⟩:=List.mem_iff_getElem?.1 hy
  have:=(List.getElem?_eq_some_iff.1 hj).1
  exact h.cl j y (by omega) hj x hl
 refine⟨h.sub x,?_⟩;rintro(rfl | h1)
 ·
  exact h.mem
 induction h1 with
 | one h1=>exact(vo _ h.mem _ h1).1
 | step _ h2 ih=>exact(vo _ ih _ h2).1
theorem xS.ahN(h:xS l rev k bg L i q) (hi:L.length≤i) (x y:Key):y∈bg x↔(y=k∨cA l rev k y)∧Ld l rev y x:=by
 rw [← h.done hi y];refine⟨h.bk x y,fun⟨h1,h2⟩=>?_⟩;obtain⟨j,hj⟩:=List.mem_iff_getElem?.1 h1
 have:=(List.getElem?_eq_some_iff.1 hj).1
 exact(h.cl j y (by omega) hj x h2).2
structure CU (l:List Rec) (rev:Int) (k:Key) (bg:Key→List Key) (L:List Key) (i q:Nat):Prop where
 mE:L.Nodup
 mem:k∈L
 sub:∀x∈L,x=k∨CL l rev k x
 cl:∀j y,j<i→L[j]?=some y→∀x∈bg y,x∈L
 cur:∀y,L[i]?=some y→∀x∈(bg y).take q,x∈L
theorem CU.start:CU l rev k bg [k] 0 0:=⟨by simp,by simp,by simp,fun j y h=>by omega,fun y _ x hx=>by simp at hx⟩
theorem CU.le(h:CU l rev k bg L i q) (ho:cJ l rev k=true):L.length≤l.length:=by
 have:=iI h.mE fun x hx=>qv (l:=l) (rev:=rev) (by
  rcases h.sub x hx with rfl | h1
  ·
   exact ho
  exact h1.iK)
 simpa using this
theorem CU.has(h:CU l rev k bg L i q) (hy:L[i]?=some y) (hx:(bg y)[q]?=some x) (hm:x∈L):CU l rev k bg L i (q+1):=
 {h with
  cur:=fun y' vO x' Mf=>by
   rw [hy] at vO
   cases vO
   rcases qC hx Mf with h1 | rfl
   ·
    exact h.cur y hy x' h1
   exact hm}
theorem CU.add(h:CU l rev k bg L i q) (Vx:∀x y,y∈bg x↔(y=k∨cA l rev k y)∧Ld l rev y x) (hy:L[i]?=some y) (hx:(bg y)[q]?=some x) (hm:x∉L):CU l rev k bg (L++[x]) i (q+1):=by
 have Bg:i<L.length:=(List.getElem?_eq_some_iff.1 hy).1;obtain⟨h1,h2⟩:=(Vx y x).1 (List.mem_of_getElem? hx)
 have hkx:cA l rev k x:=by grind [mem]
 have hxk:cA l rev x k:=by
  rcases h.sub y (List.mem_of_getElem? hy) with rfl | h3
  ·
   exact .one h2
  exact(cA.one h2).trans h3.2
 have vq:∀{j z},j≤i→(L++[x])[j]?=some z→L[j]?=some z:=fun hj h2=>by grind
 refine⟨by grind [mE],by simp [h.mem],fun z hz=>?_,fun j y' hj vO x' Mf=>by simp [h.cl j y' hj (vq (by omega) vO) x' Mf],fun y' vO x' Mf=>?_⟩
 ·
  rcases List.mem_append.1 hz with hz | hz
  ·
   exact h.sub z hz
  rw [List.mem_singleton] at hz;subst hz;exact .inr ⟨hkx,hxk⟩
 have Mg:=vq (Nat.le_refl _) vO;rw [hy] at Mg
 cases Mg
 rcases qC hx Mf with h3 | rfl
 ·
  simp [h.cur y hy x' h3]
 simp
theorem CU.next(h:CU l rev k bg L i q) (hy:L[i]?=some y) (hq:(bg y).length≤q):CU l rev k bg L (i+1) 0:=
 {h with
  cl:=fun j y' hj vO x' Mf=>by
   rcases Nat.lt_or_ge j i with h1 | h1
   ·
    exact h.cl j y' h1 vO x' Mf
   have e:j=i:=by omega
   subst e;rw [hy] at vO
   cases vO
   exact h.cur y hy x' (by grind [List.take_of_length_le])
  cur:=fun _ _ x hx=>by simp at hx}
theorem CU.done(h:CU l rev k bg L i q) (ho:cJ l rev k=true) (Vx:∀x y,y∈bg x↔(y=k∨cA l rev k y)∧Ld l rev y x) (hi:L.length≤i) (x:Key):x∈L↔x∈aC l rev k:=by
 have vo:∀y∈L,∀x∈bg y,x∈L:=fun y hy x hx=>by
  obtain⟨j,hj⟩:=List.mem_iff_getElem?.1 hy
  have:=(List.getElem?_eq_some_iff.1 hj).1
  exact h.cl j y (by omega) hj x hx
 rw [dG]
 constructor
 ·
  intro hx
  exact(h.sub x hx).imp id fun h1=>⟨ho,h1⟩
 rintro(rfl | ⟨_,h1,h2⟩)
 ·
  exact h.mem
 have key:∀{x y:Key},cA l rev x y→(x=k∨cA l rev k x)→y∈L→x∈L:=by
  intro x y h2 h1
  induction h2 with
  | one h3=>grind
  | step h3 h4 ih=>
   refine fun hy=>ih (vo _ hy _ ((Vx _ _).2 ⟨.inr ?_,h4⟩))
   rcases h1 with rfl | h1
   ·
    exact h3
   exact h1.trans h3
 exact key h2 (.inr h1) h.mem
theorem CU.group(h:CU l rev k bg L i q) (ho:cJ l rev k=true) (Vx:∀x y,y∈bg x↔(y=k∨cA l rev k y)∧Ld l rev y x) (hi:L.length≤i) {L':List Key}(hs:Wa L') (hp:L'.Perm L):L'=aC l rev k:=
 IX hs (vK _ _ _) fun x=>(hp.mem_iff).trans (h.done ho Vx hi x)
end
/-! ### what has changed, and why a key would be run -/
section
variable {val:Key→ByteArray}{x:dP}{k:Key}{r:Rec}
theorem Wm(hi:az k=true):bp val x k=(cZ x.ad k).changed:=by unfold bp;rw [if_pos hi]
theorem Wn(hi:az k=false) (h:aB x.ak k=none):bp val x k=x.ae:=by grind [bp]
theorem Wo(hi:az k=false) (h:aB x.ak k=some r) (hv:r.ax=x.ae):bp val x k=r.changed:=by grind [bp,bD]
theorem KU(hi:az k=false) (h:aB x.ak k=some r) (hv:¬r.ax=x.ae):bp val x k=if val k=r.value then r.changed else x.ae:=by
 unfold bp
 rw [hi,bD h,h]
 grind
def KW(val:Key→ByteArray) (x:dP) (c:sg):Bool:=decide ((aH x.ak c.eY).ax<bp val x c.read)
noncomputable def gX(val:Key→ByteArray) (x:dP) (k:Key):Int × Key:=
 if (az k || aJ x k)=true then (0,dn)
 else match aB x.ak k with
  | none=>(1,dn)
  | some r=>if r.bS=true then (3,dn) else
   match (bW x.ak (aC x.ak x.ae k)).find? (KW val x) with
   | none=>(0,dn)
   | some c=>(if c.eY=k then 2 else 3,c.read)
def rD(p:Int × Key):List Value:=[.int .i64 p.1,.int .i64 p.2.kind,.string p.2.text]
theorem I9(h:(az k || aJ x k)=true):gX val x k=(0,dn):=by unfold gX;rw [if_pos h]
theorem Ja(h:(az k || aJ x k)=false) (hf:aB x.ak k=none):gX val x k=(1,dn):=by unfold gX;rw [if_neg (by rw [h];simp),hf]
theorem CV(h:(az k || aJ x k)=false) (hf:aB x.ak k=some r) (hd:r.bS=true):gX val x k=(3,dn):=by
 unfold gX
 grind
theorem GM(h:(az k || aJ x k)=false) (hf:aB x.ak k=some r) (hd:r.bS=false) (hn:∀j c,j<(bW x.ak (aC x.ak x.ae k)).length→(bW x.ak (aC x.ak x.ae k))[j]?=some c→KW val x c=false):gX val x k=(0,dn):=by
 unfold gX
 rw [if_neg (by rw [h];simp),hf]
 simp only
 rw [if_neg (by rw [hd];simp),uf (Nat.le_refl _) hn]
theorem RY(h:(az k || aJ x k)=false) (hf:aB x.ak k=some r) (hd:r.bS=false) {q:Nat}{c:sg}(hc:(bW x.ak (aC x.ak x.ae k))[q]?=some c) (hn:∀j c,j<q→(bW x.ak (aC x.ak x.ae k))[j]?=some c→KW val x c=false) (hq:KW val x c=true):gX val x k=(if c.eY=k then 2 else 3,c.read):=by
 obtain⟨h1,rfl⟩:=List.getElem?_eq_some_iff.1 hc
 unfold gX
 rw [if_neg (by rw [h];simp),hf]
 simp only
 rw [if_neg (by rw [hd];simp),lE h1 hn hq]
def KR(ab:List aG) (l:List Rec):Prop:=∀r∈l,gG ab r.key∧az r.key=false∧∀a∈r.reads,gG ab a
theorem KR.ahP{ab:List aG}{l:List Rec}(h:KR ab l):∀r∈l,gT r.key:=fun r hr=>(h r hr).1.gT
theorem KR.aF{ab:List aG}{l:List Rec}(h:KR ab l) (hi:az k=true):aB l k=none:=by
 cases hf:aB l k with
 | none=>rfl
 | some r=>
  obtain⟨h1,h2⟩:=aT hf
  have:=(h r h1).2.1
  grind
theorem RZ{l:List Rec}{rev:Int}(hf:aB l k=some r):∀m∈aC l rev k,∃q,aB l m=some q:=fun m hm=>by
 rcases dG.1 hm with rfl | ⟨_,h⟩
 ·
  exact⟨r,hf⟩
 obtain⟨q,hq,_⟩:=cD.1 h.iK;exact⟨q,hq⟩
theorem Mh{l:List Rec}(hr:∀r∈l,r.reads.length≤4000) {group:List Key}(hg:group.length≤4001) (i:Nat):((group.take i).flatMap fun m=>dW group m (aH l m).reads).length≤100000000:=by
 have h1:∀s:List Key,(s.flatMap fun m=>dW group m (aH l m).reads).length≤s.length*4000:=by
  intro s
  induction s with
  | nil=>simp
  | cons m s ih=>
   simp only [List.flatMap_cons,List.length_append,List.length_cons];have h2:=mh group m (aH l m).reads
   have h3:(aH l m).reads.length≤4000:=by
    cases hf:aB l m with
    | none=>grind [aH,se]
    | some r=>grind [bD,aT]
   rw [Nat.add_mul]
   omega
 grind
end
end Go.Rc

namespace Go.Rc
open Go
theorem qE(n:dy):∀l:List dy,(ig n l false).find? (fun x=>x.key == n.key)=some n
 | []=>by simp [ig]
 | x::xs=>by
  by_cases h:0≤cv x.key n.key
  ·
   simp [ig,h]
  have h0:¬cv x.key n.key=0:=by omega
  have kV:(x.key == n.key)=false:=by
   rw [beq_eq_false_iff_ne];intro e;rw [e,k8] at h0;exact h0 rfl
  have:=qE n xs
  simp [ig,h,h0,kV,this]
theorem qF(n:dy) (l:List dy):cZ (ig n l false) n.key=n:=by grind [cZ,qE]
structure ApR (x:dP) (l:List Change) (y:dP):Prop where
 same:∀k,(∀c∈l,c.key≠k)→cZ y.ad k=cZ x.ad k
 how:(y.ae=x.ae∧y.ad=x.ad)∨(y.ae=x.ae+1∧∀k,cZ y.ad k=cZ x.ad k∨(cZ y.ad k).changed=x.ae+1)
theorem ApR.refl(x:dP) (l:List Change):ApR x l x:=⟨fun _ _=>rfl,.inl ⟨rfl,rfl⟩⟩
theorem R0{rev:Int}{l li:List dy}(h:∀k,cZ li k=cZ l k∨(cZ li k).changed=rev) (n:dy) (hn:n.changed=rev) (k:Key):cZ (ig n li false) k=cZ l k∨(cZ (ig n li false) k).changed=rev:=by
 by_cases e:n.key=k
 ·
  grind [qF]
 rw [vI e];exact h k
/-! ### tasks -/
section
variable {ab:List aG}{H:Int→List dy}{x b:dP}{cP:List Key}{k:Key}
theorem TI.begin(hR:aw ab) (h:TI ab H x b [] cP) (hk:gG ab k) (hn:gu b [] k=true):TI ab H x b [⟨k,false,0,[],[]⟩] cP:=by
 have kV:¬(az k=true∨kC [] k=true∨aJ b k=true):=fun h=>by grind [tq]
 have h1:az k=false:=by grind
 have h2:aJ b k=false:=by grind
 obtain⟨m,hm,VZ,_⟩:=hk.jE h1;refine⟨h.bi.T5 fun y hy=>?_,h.wy,?_,fun f hf=>?_⟩
 ·
  simp [kC] at hy
 ·
  have:=TI.snoc (ab:=ab) (H:=H) (b0:=x) (b:=b) (p:=[]) (f:=⟨k,false,0,[],[]⟩) (fun p1 g q hp=>by cases p1 <;> cases hp) ⟨⟨m,hm,VZ⟩,rfl,fun i j _ _ _ ho=>(by simp [kC] at ho),fun hc=>(by cases hc),fun _=>⟨rfl,rfl,Int.le_refl _,fun _ j c hj=>(by simp at hj)⟩⟩
  exact this
 rw [List.mem_singleton] at hf;subst hf;refine⟨fun hr=>?_,h.wy.zC h2⟩
 have:=h.wy.T6 k hr
 grind
def TO(ab:List aG) (x:dP) (t:vJ):Prop:=∃H:Int→List dy,TI ab H x t.base t.stack t.cP
theorem TO.of{t:vJ}(h:Bh ab t.base) (hs:t.stack=[]) (hr:t.cP=[]):TO ab t.base t:=by
 obtain⟨H,h⟩:=h;refine⟨H,?_⟩;rw [hs,hr];exact⟨h.T5 fun k hk=>(by cases hk),Wy.start _,fun p f q hp=>(by cases p <;> cases hp),fun f hf=>(by cases hf)⟩
theorem R1{aF:List dy}{rev:Int}(hb:BK ab aF rev b) (hnu:aJ b k=false) (hd:(!(aB b.ak k).isSome || (aH b.ak k).bS)=false):Live b.ak b.ae k:=by
 cases hf:aB b.ak k with
 | none=>rw [hf] at hd;cases hd
 | some r=>
  rw [hf,bD hf] at hd;have hv:r.ax≤b.ae:=(hb.zw.v r (aT hf).1).2
  have kV:r.ax≠b.ae:=fun e=>by grind [cB]
  exact⟨r,hf,by simpa using hd,by omega⟩
theorem TO.begin{t:vJ}(hR:aw ab) (h:TO ab x t) (hs:t.stack=[]) (hk:gG ab k) (hn:gu t.base [] k=true) (g:List Key):TO ab x {t with goals:=g,stack:=[⟨k,false,0,[],[]⟩]}:=by
 obtain⟨H,h⟩:=h;rw [hs] at h;exact⟨H,h.begin hR hk hn⟩
theorem TO.goals{t:vJ}(h:TO ab x t) (g:List Key):TO ab x {t with goals:=g}:=h
theorem TO.OO{t:vJ}{b':dP}{l':List et}{rk:List Key}{er:Int}(hR:aw ab) (h:TO ab x t) (hg:Good ab x.ad ⟨t.base,[],[],0⟩) (hfs:∃p f,p++[f]=t.stack∧FS ab (valOf ab x.ad) t.base p f b' l' rk er):er=0∧TO ab x {t with base:=b',stack:=l',cP:=t.cP++rk}:=by
 obtain⟨H,h⟩:=h;obtain⟨p,f,hp,hfs⟩:=hfs;rw [← hp] at h;obtain⟨h1,h2⟩:=I4 hR h hg hfs;exact⟨h1,H,h2⟩
/-! ### cancelled tasks -/
def gI(l:List et) (rs:List Rec):List Rec:=l.foldl (fun rs f=>if aA f.key then jn rs f.key else rs) rs
theorem uB(l:List et) (f:et) (rs:List Rec):gI (l++[f]) rs=if aA f.key then jn (gI l rs) f.key else gI l rs:=by grind [gI]
theorem Jb(rs:List Rec) (k:Key):(jn rs k).Sublist rs:=by grind [jn,List.filter_sublist]
theorem qG:∀(l:List et) (rs:List Rec),(gI l rs).Sublist rs∧∀r,r∈gI l rs↔r∈rs∧(kC l r.key && aA r.key)=false
 | [],rs=>⟨List.Sublist.refl _,fun r=>by simp [gI,kC]⟩
 | f::l,rs=>by
  have e:gI (f::l) rs=gI l (if aA f.key then jn rs f.key else rs):=rfl;obtain⟨h1,h2⟩:=qG l (if aA f.key then jn rs f.key else rs);rw [e];refine⟨h1.trans ?_,fun r=>?_⟩
  ·
   grind [Jb]
  rw [h2 r]
  have ho:kC (f::l) r.key=(decide (f.key=r.key) || kC l r.key):=by simp [kC]
  rw [ho]
  by_cases hc:aA f.key=true
  ·
   rw [if_pos hc]
   unfold jn
   grind
  grind
theorem TO.cancel{t:vJ}(h:TO ab x t):Bh ab ⟨t.base.ae,t.base.ad,gI t.stack t.base.ak⟩∧(∀y∈t.cP,aJ ⟨t.base.ae,t.base.ad,gI t.stack t.base.ak⟩ y=true)∧(∀y,aJ x y=true→aJ ⟨t.base.ae,t.base.ad,gI t.stack t.base.ak⟩ y=true)∧(∀y∈t.cP,az y=false∧aJ x y=false)∧t.cP.Nodup:=by
 obtain⟨H,h⟩:=h;obtain⟨h1,h2⟩:=qG t.stack t.base.ak
 have hb:=h.bi.drop h1 fun r hr=>((h2 r).1 hr).2
 have bJ:vF (gI t.stack t.base.ak):=hb.st
 have lF:∀y,aJ t.base y=true→kC t.stack y=false→aJ ⟨t.base.ae,t.base.ad,gI t.stack t.base.ak⟩ y=true:=fun y hu hn=>by
  obtain⟨r,hr,hv⟩:=cB.1 hu;obtain⟨g1,g2⟩:=aT hr
  grind [cB,lK]
 have IL:∀y,(∀f∈t.stack,f.key≠y)→kC t.stack y=false:=fun y hy=>by grind [kC]
 refine⟨⟨H,hb⟩,fun y hy=>lF y (h.wy.T6 y hy) (IL y fun f hf e=>?_),fun y hy=>lF y ?_ (IL y fun f hf e=>?_),fun y hy=>⟨(h.wy.cP y hy).1,(h.wy.cP y hy).2.1⟩,h.wy.mE⟩
 ·
  rw [← e] at hy;exact(h.nr f hf).1 hy
 ·
  have:=h.wy.ev
  have h4:t.base.ae=x.ae:=h.wy.rev;exact this.aJ h4 hy
 have:=(h.nr f hf).2
 rw [e,hy] at this
 cases this
/-! ### bases of the mill -/
structure LC (ab:List aG) (x:dP):Prop where
 lb:LB ab x
 bh:Bh ab x
theorem LC.apply(h:LC ab x) {y:dP}{l:List Change}(ha:ApR x l y) (hr:y.ak=x.ak) (h0:x.ae≤y.ae) (h1:y.ae≤1073741824) (hG:lI y.ae y.ad) (h6:y.ad.length≤64):LC ab y:=by
 refine⟨h.lb.apply hr h0 h1 hG h6,?_⟩
 rcases ha.how with⟨e1,e2⟩ | ⟨e1,e2⟩
 ·
  obtain⟨yr,yi,yc⟩:=y;simp only at hr e1 e2;subst hr e1 e2;exact h.bh
 exact h.bh.apply hr e1 fun k=>by rw [e1];exact e2 k
theorem LC.sub(h:LC ab x) {rs:List Rec}(hs:rs.Sublist x.ak):LC ab ⟨x.ae,x.ad,rs⟩:=⟨h.lb.sub hs,h.bh.drop hs⟩
theorem LC.task{t:vJ}(h:LC ab x) (hb:BK ab x.ad x.ae t.base) (ht:TO ab x t):LC ab ⟨t.base.ae,t.base.ad,gI t.stack t.base.ak⟩:=⟨h.lb.task hb (qG _ _).1,ht.cancel.1⟩
theorem LC.Z0(hR:aw ab) (h:LC ab x) {goals:List Key}(hg:∀k∈goals,o4 ab k) (V9:goals.length≤32):∃(f:Nat) (s':ES),gV ab x goals=0∧Good ab x.ad ⟨x,[],[],0⟩∧(∀k∈goals,gG ab k)∧eD ab (valOf ab x.ad) f ⟨x,[],[],0⟩ goals=some s'∧s'.cP.length≤1000000∧LC ab (s'.base x)∧(s'.base x).ae=x.ae∧s'.e=0∧s'.base x=s'.b∧Wy ab x s'∧(∀k∈goals,az k=false→aJ s'.b k=true)∧∀r∈s'.b.ak,r.ax=s'.b.ae→r.value=valOf ab x.ad r.key:=by
 obtain⟨f,s',h1,h2,h3,h4,h5,h6,h7⟩:=h.lb.Z0 hR hg V9;obtain⟨g1,g2,g3,g4,g5,g6⟩:=h.bh.request hR h2 h3 h4
 have e:s'.base x=s'.b:=by unfold ES.base;rw [if_pos g1]
 exact⟨f,s',h1,h2,h3,h4,h5,⟨h6,by rw [e];exact g2⟩,h7,g1,e,g3,g5,g6⟩
theorem LC.nil(ab:List aG) (y:dP) (hr:y.ak=[]) (h0:0≤y.ae) (h1:y.ae≤1073741824) (hG:lI y.ae y.ad) (h6:y.ad.length≤64):LC ab y:=by
 refine⟨LB.nil y hr h0 h1 hG h6,?_⟩;obtain⟨yr,yi,yc⟩:=y
 grind [Bh.new]
end
/-! ### reasons -/
section
variable {ab:List aG}{x y:dP}{k:Key}{s:ES}
theorem KX{val:Key→ByteArray}:(gX val x k).1≠0↔Nn val x k:=by
 unfold Nn
 cases mA:az k || aJ x k with
 | true=>
  rw [I9 mA]
  grind
 | false=>
  have abR:=mA;rw [Bool.or_eq_false_iff] at mA
  cases hf:aB x.ak k with
  | none=>
   rw [Ja abR hf]
   grind
  | some r=>
   cases hd:r.bS with
   | true=>grind [CV,bD]
   | false=>
    by_cases cY:∀c∈bW x.ak (aC x.ak x.ae k),KW val x c=false
    ·
     rw [GM abR hf hd fun j c _ hc=>cY c (List.mem_of_getElem? hc)];refine⟨fun h=>absurd rfl h,?_⟩;rintro⟨_,_,h | h | ⟨m,a,h1,h2,h3,h4⟩⟩
     ·
      cases h
     ·
      grind [bD]
     have:=cY ⟨m,a⟩ (eF.2 ⟨h1,h2,h3⟩)
     grind [KW]
    have hex:∃c,c∈bW x.ak (aC x.ak x.ae k)∧KW val x c=true:=Classical.byContradiction fun hn=>cY fun c hc=>by grind
    have hw:(gX val x k).1≠0:=by
     unfold gX
     grind
    refine⟨fun _=>⟨mA.1,mA.2,.inr (.inr ?_)⟩,fun _=>hw⟩;obtain⟨c,hc,hcd⟩:=hex;obtain⟨h1,h2,h3⟩:=eF.1 hc;exact⟨c.eY,c.read,h1,h2,h3,by unfold KW at hcd;exact of_decide_eq_true hcd⟩
theorem Wy.runs(h:Wy ab x s) (hw:Nn (valOf ab x.ad) x k) (hu:aJ s.b k=true):k∈s.cP:=by
 obtain⟨_,hn,hc⟩:=hw
 rcases h.mrk k hn hu with h1 | h1
 ·
  exact h1
 have Q7:=h.ev.pt k
 have KS:∀r,aB s.b.ak k=some r→r.ax=x.ae:=fun r hr=>by grind [cB,rev]
 rcases Q7 with e | ⟨_,r,e1,e2,e3,_⟩ | ⟨⟨e1,_⟩,_⟩
 ·
  grind [cB]
 ·
  grind [bD]
 exact e1
end
end Go.Rc

namespace Go.Rc
open Go
structure AO (x:dP) (l:List Change) (y:dP):Prop where
 one:∀c,l=[c]→(cZ x.ad c.key).value≠c.value→x.ae+1≤1073741824→y=⟨x.ae+1,ig ⟨c.key,c.value,x.ae+1⟩ x.ad false,x.ak⟩
 Wb:∀k,cZ y.ad k=cZ x.ad k∨(cZ y.ad k).value≠(cZ x.ad k).value
structure Mi (x:dP) (l:List Change) (i:Nat) (ch:Bool) (li:List dy):Prop where
 one:∀c,l=[c]→(i=0∧ch=false∧li=x.ad)∨(i=1∧((cZ x.ad c.key).value=c.value∨(ch=true∧li=ig ⟨c.key,c.value,x.ae+1⟩ x.ad false)))
 Wb:∀k,cZ li k=cZ x.ad k∨(cZ li k).value≠(cZ x.ad k).value
section
variable {x:dP}{l:List Change}{i:Nat}{ch:Bool}{li:List dy}
theorem Mi.start:Mi x l 0 false x.ad:=⟨fun _ _=>.inl ⟨rfl,rfl,rfl⟩,fun _=>.inl rfl⟩
theorem Mi.skip(h:Mi x l i ch li) (hi:i<l.length) {la:Bool}(h1:l.length=i+1→la=true) (g:(!la || decide ((cZ x.ad l[i].key).value=l[i].value))=true):Mi x l (i+1) ch li:=by
 refine⟨fun c e=>?_,h.Wb⟩;subst e
 have h0:i=0:=by simpa using hi
 subst h0;rw [h1 rfl] at g;exact .inr ⟨rfl,.inl (by simpa using g)⟩
theorem Mi.put(h:Mi x l i ch li) (hi:i<l.length) {la:Bool}(g:(!la || decide ((cZ x.ad l[i].key).value=l[i].value))=false):Mi x l (i+1) true (ig ⟨l[i].key,l[i].value,x.ae+1⟩ li false):=by
 refine⟨fun c e=>?_,fun k=>?_⟩
 ·
  subst e
  have h0:i=0:=by simpa using hi
  subst h0
  rcases h.one c rfl with⟨_,_,e⟩ | ⟨e,_⟩
  ·
   subst e;exact .inr ⟨rfl,.inr ⟨rfl,rfl⟩⟩
  cases e
 by_cases e:l[i].key=k
 ·
  subst e;have h2:=qF ⟨l[i].key,l[i].value,x.ae+1⟩ li;simp only at h2;rw [h2]
  simp at g
  exact .inr fun e=>g.2 e.symm
 rw [vI e];exact h.Wb k
theorem Mi.same(h:Mi x l i ch li) (hi:l.length≤i) (hc:ch=false):AO x l x:=by
 refine⟨fun c e hv _=>?_,fun _=>.inl rfl⟩;subst e
 rcases h.one c rfl with⟨e,_⟩ | ⟨_,e | ⟨e,_⟩⟩
 ·
  subst e;simp at hi
 ·
  exact absurd e hv
 rw [hc] at e;cases e
theorem Mi.done(h:Mi x l i ch li) (hi:l.length≤i):AO x l ⟨x.ae+1,li,x.ak⟩:=by
 refine⟨fun c e hv _=>?_,h.Wb⟩;subst e
 rcases h.one c rfl with⟨e,_⟩ | ⟨_,e | ⟨_,e⟩⟩
 ·
  subst e;simp at hi
 ·
  exact absurd e hv
 rw [e]
end
end Go.Rc

namespace Go.Rc
open Go
instance:Inhabited Key:=⟨dn⟩
theorem Mj{w w':World}(h:aV [] w w'):∃q os,w'=Sort.grow (w.drewN q) os:=by
 refine⟨w'.drawn - w.drawn,w'.heap.extract w.heap.size w'.heap.size,?_⟩;obtain⟨ho,ht,hu,hs,hd,hb⟩:=h
 have hh:w'.heap=w.heap++w'.heap.extract w.heap.size w'.heap.size:=by grind
 have T9:w'.drawn=w.drawn+(w'.drawn - w.drawn):=by omega
 generalize w'.heap.extract w.heap.size w'.heap.size=os at hh
 generalize w'.drawn - w.drawn=q at T9
 cases w'
 cases w
 simp only at ho ht hu hh T9;subst ho ht hu hh T9
 rfl
section
variable {α:Type} [Inhabited α] {row:α→List Value}{k:Nat}{key:α→Key}
theorem R2:Sort.SWO (Proofs.ltOf fun x y=>cv (key x) (key y)):=by
 refine⟨fun x=>?_,fun x y z h1 h2=>?_,fun x y z h1 h2=>?_⟩
 ·
  grind [Proofs.ltOf,k8]
 ·
  unfold Proofs.ltOf at *
  rw [decide_eq_true_eq] at *;exact jP h1 h2
 grind [Proofs.ltOf,k9,jP,pd]
theorem DX(hk:∀x,(row x).length=k) (l:List α):(l.map row).flatten.length=l.length*k:=by
 induction l with
 | nil=>simp
 | cons x r ih=>simp only [List.map_cons,List.flatten_cons,List.length_append,List.length_cons,Nat.add_mul,ih,hk];omega
theorem GN(hk:∀x,(row x).length=k) (l:List α) (t:Nat) (ht:t<l.length*k):(l.map row).flatten[t]?=some ((row (l.toArray[t / k]!))[t % k]!):=by
 have h0:0<k:=by rcases Nat.eq_zero_or_pos k with h | h;subst h;omega;exact h
 have hi:t / k<l.length:=(Nat.div_lt_iff_lt_mul h0).2 ht
 have hr:(l.map row)[t / k]?=some (row l[t / k]):=by grind
 have e:t=t / k*k+t % k:=by rw [Nat.mul_comm];exact(Nat.div_add_mod t k).symm
 have h1:(l.toArray[t / k]!)=l[t / k]:=by simp [hi]
 rw [h1];have hm:t % k<k:=Nat.mod_lt _ h0
 have h:=qk (l.map row) k (t / k) _ (fun r hr=>by obtain⟨x,_,rfl⟩:=List.mem_map.1 hr;exact hk x) hr (t % k) ((row l[t / k])[t % k]!) (by
  rw [List.getElem?_eq_getElem (by rw [hk];exact hm),getElem!_pos])
 rw [← e] at h;exact h
theorem Mk(hk:∀x,(row x).length=k) {w:World}{b E:Nat}{cur:Array Value}{l:List α}(hb:w.heap[b]?=some (.cells cur E (0,0))) (ht:cur.toList.take (l.length*k)=(l.map row).flatten):Sort.HoldsK row k w b 0 l.toArray:=by
 unfold Sort.HoldsK
 intro j hj;rw [Sort.size_flatK,List.size_toArray] at hj;have h1:=GN hk l j hj;rw [← ht,List.getElem?_take,if_pos hj,Array.getElem?_toList] at h1;refine⟨?_,?_⟩
 ·
  unfold World.cell?
  simp only [hb,Nat.zero_add]
  grind [Sort.get_flatK]
 grind [World.frozen?]
theorem R6(hk:∀x,(row x).length=k) {w:World}{b E m:Nat}{os:Array Obj}{cur:Array Value}{l l':List α}(hb:w.heap[b]?=some (.cells cur E (0,0))) (ht:cur.toList.take (l.length*k)=(l.map row).flatten) (hl:l'.length=l.length):∃sS:Array Value,(Proofs.sortWorldK row k w b 0 m l'.toArray os).heap[b]?=some (.cells sS E (0,0))∧sS.size=cur.size∧sS.toList.take (l'.length*k)=(l'.map row).flatten:=by
 have dZ:b<w.heap.size:=(Array.getElem?_eq_some_iff.1 hb).1;refine⟨Sort.putCells id 0 (Sort.flatK row k l'.toArray) cur,?_,by unfold Sort.putCells;simp,?_⟩
 ·
  unfold Proofs.sortWorldK
  rw [Sort.heap_grow_old _ _ (by grind [Sort.putRowK,Sort.putRow,Sort.mapBlock,Sort.ahead])]
  unfold Sort.putRowK Sort.putRow Sort.mapBlock Sort.ahead
  simp only [Array.getElem?_modify,if_true,hb]
  rfl
 have hlen:l.length*k≤cur.size:=by
  have h1:=congrArg List.length ht;have h2:=DX hk l
  grind
 apply List.ext_getElem?
 intro t
 by_cases h:t<l'.length*k
 ·
  rw [GN hk l' t h,List.getElem?_take,if_pos h,Array.getElem?_toList]
  unfold Sort.putCells
  rw [hl] at h;rw [Array.getElem?_mapIdx,Array.getElem?_eq_getElem (by omega),Option.map_some];rw [if_pos ⟨Nat.zero_le _,by simp_all⟩,Nat.sub_zero,Sort.get_flatK _ _ _ _ (by rw [List.size_toArray,hl];exact h)]
  rfl
 rw [List.getElem?_eq_none (by rw [List.length_take];omega),List.getElem?_eq_none (by rw [DX hk];omega)]
theorem OP{w:World}{b m:Nat}{os:Array Obj}{d:Array α}:aV [b] w (Proofs.sortWorldK row k w b 0 m d os):=by
 refine⟨rfl,rfl,rfl,?_,?_,fun k hk hn=>?_⟩
 ·
  unfold Proofs.sortWorldK Sort.grow Sort.putRowK Sort.putRow Sort.mapBlock Sort.ahead
  simp
 ·
  exact Nat.le_add_right _ _
 unfold Proofs.sortWorldK
 rw [Sort.heap_grow_old _ _ (by grind [Sort.putRowK,Sort.putRow,Sort.mapBlock,Sort.ahead])]
 unfold Sort.putRowK Sort.putRow Sort.mapBlock Sort.ahead
 grind
theorem Ml{P:Program}{F g E:Nat}(hk:∀x,(row x).length=k) (h1:∀x,∀v∈row x,v.oneCell'=true) (abS:∀(blk cap:Nat) (d:Array α) (w:World),Proofs.CmpLays P g #[] row k (fun x y=>cv (key x) (key y)) blk 0 d.size w→Sort.HoldsK row k w blk 0 d→blk<w.heap.size→d.size<4611686018427387904→Calls P F #[.slice (some ⟨blk,0,none⟩) d.size cap,.func (.func g) #[] #[]] w fun e w'=>e=.returned (.tuple #[])∧∃d' n os,Sort.PermIn 0 d.size d d'∧Sort.SortedIn (Proofs.ltOf fun x y=>cv (key x) (key y)) 0 d.size d'∧w'=Proofs.sortWorldK row k w blk 0 n d' os)
  (hcmp:∀(x y:α) (w:World),Calls P g #[.agg (row x).toArray,.agg (row y).toArray] w fun e w'=>e=.returned (.int .i64 (cv (key x) (key y)))∧aV [] w w')
  {l:List α}{a:Option Addr}{n c:Nat}{w:World}{M Z:Nat→Prop}(bJ:St w M Z w [As.os (RR.flat row) E k a n c l]) (h0:l≠[]) (hn:l.length≤1000000):Calls P F #[.slice a n c,.func (.func g) #[] #[]] w fun e w'=>e=.returned (.tuple #[])∧∃l',l'.Perm l∧(l'.Pairwise fun x y=>¬cv (key y) (key x)<0)∧St w M Z w' [As.os (RR.flat row) E k a n c l']:=by
 have ho:=As.gs bJ.g0;obtain⟨l4,rows,Nh,hrk,Ua,hrr⟩:=id ho
 have abT:rows=l.map row:=by
  apply List.ext_getElem?
  intro i;rw [List.getElem?_map]
  by_cases hi:i<l.length
  ·
   rw [List.getElem?_eq_getElem (by omega),List.getElem?_eq_getElem hi]
   have:=hrr i l[i] rows[i] (List.getElem?_eq_getElem hi) (List.getElem?_eq_getElem (by omega))
   rw [RR.cG this]
   rfl
  grind
 rcases Ua.cases with⟨g1,g2,_⟩ | ⟨b,cur,rfl,Mm,hb,hnc,Vw,ZR,ht⟩
 ·
  grind
 rw [abT,l4] at ht;have Nk:b<w.heap.size:=(Array.getElem?_eq_some_iff.1 hb).1
 have hc:Proofs.CmpLays P g #[] row k (fun x y=>cv (key x) (key y)) b 0 l.toArray.size w:=fun m os dk _ x y=>(hcmp x y _).mono fun e w' ⟨h1,h2⟩=>⟨h1,Mj h2⟩
 have hs:=abS b c l.toArray w hc (Mk hk hb ht) Nk (by rw [List.size_toArray];omega);rw [List.size_toArray,← l4] at hs;refine hs.mono ?_;rintro e w' ⟨rfl,d',m,os,⟨Ro,_,hd3⟩,hd4,rfl⟩;rw [l4] at hd3 hd4
 have Ro:d'.size=l.length:=by rw [Ro,List.size_toArray]
 have hd5:d'.toList.Perm l:=by grind [Array.extract_size]
 obtain⟨l',rfl⟩:∃l':List α,d'=l'.toArray:=⟨d'.toList,by simp⟩
 have hl:l'.length=l.length:=by simpa using Ro
 simp only at hd5;obtain⟨sS,g1,g2,g3⟩:=R6 hk (m:=m) (os:=os) hb ht hl;refine⟨rfl,l',hd5,?_,?_⟩
 ·
  rw [List.pairwise_iff_getElem];intro i j hi hj hij;have h1:=hd4 i j (Nat.zero_le _) hij (by omega)
  grind [Proofs.ltOf]
 refine bJ.jk (w':=Proofs.sortWorldK row k w b 0 m l'.toArray os) (OP.mono fun x hx=>by simpa [aI] using hx) ?_ (fun x hx=>.inl hx);refine⟨by omega,l'.map row,by simp,fun r hr=>by obtain⟨x,_,rfl⟩:=List.mem_map.1 hr;exact hk x,?_,fun i x r hx hr=>?_⟩
 ·
  refine⟨fun u hu=>?_,?_,.inr ⟨b,c,sS,rfl,Nat.zero_le _,g1,hnc,Vw,by rw [g2];exact ZR,by grind⟩⟩
  ·
   obtain⟨r,hr,hu⟩:=List.mem_flatten.1 hu;obtain⟨x,_,rfl⟩:=List.mem_map.1 hr;exact h1 x u hu
  rw [DX hk]
  grind
 rw [List.getElem?_map,hx] at hr
 cases hr
 rfl
end
end Go.Rc

namespace Go.Rc
open Go
section
variable {w0 w:World}{M Z:Nat→Prop}{l:List As}
end
section
variable {α:Type}{R:RR α}{P:Program}{E k n c b i:Nat}{a:Option Addr}{xs:List α}{Z:Nat→Prop}{w:World}
variable {N:Nat}{kv:KV}{K:KV→World→Prop}{ty:TypeId}{pos:String}{af:Array Edge}{g:Option (Nat × Bool)}{T:TypeId}
end
section
variable {p:Rec→Bool}{xs xs1:List Rec}{i j:Nat}{x:Rec}
end
theorem qA.kr{ab:List aG}{x:dP}(h:qA ab x):KR ab x.ak:=fun r hr=>by
 obtain⟨h1,h2,h3,_⟩:=h.2.2.2.2.2.1 r hr;exact⟨h1,h2,h3⟩
theorem qA.r4{ab:List aG}{x:dP}(h:qA ab x):∀r∈x.ak,r.reads.length≤4000:=fun r hr=>by
 obtain⟨_,_,_,h4⟩:=h.2.2.2.2.2.1 r hr
 grind [gH]
section
variable {ab:List aG}{x:dP}{s:ES}
end
section
variable {ab:List aG}{x y:dP}{s:ES}{kp:List (List Key)}{l:List Key}
end
end Go.Rc

namespace Go.Rc
open Go
section
variable {ab:List aG}{x y:dP}{cP:List Key}{k:Key}{r:Rec}
end
end Go.Rc

namespace Go.Rc
open Go
section
variable {val:Key→ByteArray}{x:dP}{i:Nat}{k:Key}{o:List Key}
noncomputable def l5(val:Key→ByteArray) (x:dP) (i:Nat):List Key:=((x.ak.take i).filter fun r=>decide ((gX val x r.key).1≠0)).map (·.key)
noncomputable def lj(val:Key→ByteArray) (x:dP):List Key:=(x.ak.filter fun r=>decide ((gX val x r.key).1≠0)).map (·.key)
theorem GO:l5 val x 0=[]:=rfl
theorem Jc(val:Key→ByteArray) (x:dP) (i:Nat):(l5 val x i).length≤i:=by grind [l5]
theorem Jd(hi:i<x.ak.length) (h:(gX val x x.ak[i].key).1≠0):l5 val x (i+1)=l5 val x i++[x.ak[i].key]:=by
 unfold l5
 rw [List.take_succ_eq_append_getElem hi,List.filter_append,List.map_append,List.filter_cons,if_pos (decide_eq_true h)]
 rfl
theorem Mn(hi:i<x.ak.length) (h:(gX val x x.ak[i].key).1=0):l5 val x (i+1)=l5 val x i:=by
 unfold l5
 rw [List.take_succ_eq_append_getElem hi,List.filter_append,List.map_append,List.filter_cons,if_neg (by simpa using h)]
 simp
theorem Je(hi:x.ak.length≤i):l5 val x i=lj val x:=by grind [l5,lj,List.take_of_length_le]
theorem Mo:k∈lj val x↔(∃r∈x.ak,r.key=k)∧(gX val x k).1≠0:=by
 unfold lj
 grind
noncomputable def jS(val:Key→ByteArray) (x:dP):Nat→Key→List Key→List Key
 | 0,_,o=>o
 | n+1,k,o=>if k=dn∨k∈o then o else jS val x n (gX val x k).2 (o++[k])
theorem Jf(h:k=dn∨k∈o) (n:Nat):jS val x n k o=o:=by
 cases n with
 | zero=>rfl
 | succ n=>unfold jS;rw [if_pos h]
theorem pg(h:¬(k=dn∨k∈o)) (n:Nat):jS val x (n+1) k o=jS val x n (gX val x k).2 (o++[k]):=by
 rw [jS,if_neg h]
theorem Wp(h:(gX val x k).2≠dn):k∈x.ak.map (·.key):=by
 unfold gX at h
 split at h
 ·
  exact absurd rfl h
 split at h
 ·
  exact absurd rfl h
 rename_i r hr
 exact List.mem_map.2 ⟨r,(aT hr).1,(aT hr).2⟩
structure OQ (val:Key→ByteArray) (x:dP) (k0 k:Key) (o:List Key) (n:Nat):Prop where
 mE:o.Nodup
 rcs:k=dn∨∀y∈o,y∈x.ak.map (·.key)
 fuel:o.length+n=x.ak.length+1
 eq:jS val x n k o=jS val x (x.ak.length+1) k0 []
theorem OQ.start:OQ val x k k [] (x.ak.length+1):=⟨.nil,.inr fun y hy=>(by cases hy),by simp,rfl⟩
theorem OQ.pos{k0:Key}{n:Nat}(h:OQ val x k0 k o n) (hk:k≠dn):o.length≤x.ak.length∧0<n:=by
 have h1:=iI h.mE (h.rcs.resolve_left hk)
 grind [fuel]
theorem OQ.next{k0:Key}{n:Nat}(h:OQ val x k0 k o (n+1)) (hk:k≠dn) (ho:k∉o):OQ val x k0 (gX val x k).2 (o++[k]) n:=by
 refine⟨?_,?_,by grind [fuel],by rw [← pg (fun e=>e.elim hk ho)];exact h.eq⟩
 ·
  grind [mE]
 by_cases hb:(gX val x k).2=dn
 ·
  exact .inl hb
 refine .inr fun y hy=>?_
 rcases List.mem_append.1 hy with hy | hy
 ·
  exact h.rcs.resolve_left hk y hy
 grind [Wp]
theorem OQ.done{k0:Key}{n:Nat}(h:OQ val x k0 k o n) (hs:k=dn∨k∈o):o=jS val x (x.ak.length+1) k0 []:=by
 rw [← h.eq,Jf hs]
end
end Go.Rc
namespace Go.Rc
open Go
theorem PV.Wq{P:Program}{kv:KV}{w:World}{T ty:TypeId}{f off k:Nat}{fs:List Field}{fd:Field}(hu:P.underlying T=some (.struct fs.toArray)) (hf:fs[f]?=some fd) (ho:fd.offset=off) (h1:∀w,(isAgg fd.type).run P w=.ok true w) (h2:∀w,(sizeOf fd.type).run P w=.ok k w)
  {x:Operand}{us vs:List Value}(hx:ev kv x=some (.agg us.toArray)) (hv:(us.drop off).take k=vs):PV P (.field T x f) ty kv w (.agg vs.toArray):=by
 subst ho
 have DT:fs.toArray[f]?=some fd:=by simpa using hf
 refine⟨rfl,by simp [known,opers,hx],fun _ _ _ _=>?_⟩
 simp [execOp,aK hx,Instr.field,run_underlying hu,DT,part,h1 w,h2 w,asAgg]
 exact hv
end Go.Rc

namespace Go.Rc
open Go
def r3:aG:=⟨false,[],1,3⟩
abbrev K0:Key:=⟨31,itoa ((0:Nat):Int)⟩
abbrev v3:ByteArray:=itoa 3
theorem Wr:∀y∈[r3],RB y:=fun y hy=>by simp at hy;subst hy;exact⟨rfl,rfl,rfl,by decide,by decide⟩
theorem abU:aL [r3] ((0:Nat):Int)=K0:=RB.key (by simp) (by omega) (Wr _ (by simp))
theorem R7:lH ⟨0,[],[]⟩:=⟨fun i y h=>by simp at h,fun i r h=>by simp at h,by decide,by decide,by simp,by simp,fun i x h=>by simp at h⟩
theorem abV{ab:List aG}:Good ab [] ⟨⟨0,[],[]⟩,[],[],0⟩:=⟨rfl,by simp,by simp,by simp,by simp,fun k=>.inl rfl⟩
abbrev s1:ES:=⟨⟨0,[],[V0 0 v3]⟩,[],[K0],0⟩
end Go.Rc
namespace Go.Rc
open Go
abbrev v4:ByteArray:=⟨#[52]⟩
end Go.Rc

namespace Go.Rc
open Go
section
variable {P:Program}{kv:KV}{w:World}{T U ty:TypeId}{x y:Operand}
theorem PV.Ws{p q:Bool}(hT:P.underlying T=some .bool) (hx:ev kv x=some (.bool p)) (hy:ev kv y=some (.bool q)) (h:p=q):PV P (.binOp .neq T x y U) ty kv w (.bool false):=by
 refine⟨rfl,by simp [known,opers,hx,hy],fun _ _ _ _=>?_⟩
 have he:(Op.equalIn 10000 T (.bool p) (.bool q)).run P w=.ok (p == q) w:=by
  rw [show(10000:Nat)=9999+1 from rfl]
  unfold Op.equalIn
  simp [run_underlying hT]
 subst h;simp only [execOp,aK hx,aK hy]
 simp [eqGuard,binOp,Op.equal,Op.maxDepth,he]
end
end Go.Rc
namespace Go.Rc
open Go
end Go.Rc

namespace Go.Rc
open Go
theorem Me{v:ByteArray}:∀k∈[K0],∃i:Nat,i < [r3].length∧k=aL [r3] (i:Int)∧(aB (⟨0,[],[V0 0 v]⟩:dP).ak k).isSome=true:=fun k hk=>⟨0,by simp,by rw [List.mem_singleton.1 hk];exact abU.symm,by grind [aB,V0]⟩
end Go.Rc

namespace Go.Rc
open Go
abbrev q0:aG:=⟨false,[⟨true,false,0,0⟩],1,0⟩
abbrev q1:aG:=⟨false,[⟨false,false,0,0⟩],1,0⟩
abbrev Q2:List aG:=[q0,q1]
abbrev K1:Key:=⟨31,itoa ((1:Nat):Int)⟩
abbrev C0:Key:=dx ((0:Nat):Int)
theorem KY:C0=⟨30,⟨#[48]⟩⟩:=by simp [dx,itoa,Lib.itoa,Lib.decDigits]
theorem zK:K0=⟨31,⟨#[48]⟩⟩:=by simp [itoa,Lib.itoa,Lib.decDigits]
theorem CW:K1=⟨31,⟨#[49]⟩⟩:=by simp [itoa,Lib.itoa,Lib.decDigits]
theorem sr:aw Q2:=by
 refine⟨by simp,fun i r h=>?_⟩
 have hi:i=0∨i=1:=by have:=(List.getElem?_eq_some_iff.1 h).1;simp at this;omega
 rcases hi with rfl | rfl
 ·
  simp at h;subst h
  refine⟨by simp,fun k x hx=>?_,rfl⟩
  have hk:k=0:=by have:=(List.getElem?_eq_some_iff.1 hx).1;simp at this;omega
  subst hk;simp at hx;subst hx;decide
 simp at h;subst h
 refine⟨by simp,fun k x hx=>?_,rfl⟩
 have hk:k=0:=by have:=(List.getElem?_eq_some_iff.1 hx).1;simp at this;omega
 subst hk;simp at hx;subst hx;decide
theorem CX:aL Q2 ((0:Nat):Int)=K0:=by
 unfold aL
 rw [if_neg (by simp)]
 simp [aD]
theorem zL:aL Q2 ((1:Nat):Int)=K1:=by
 unfold aL
 rw [if_neg (by simp)]
 simp [aD]
theorem DY:number K0=((0:Nat):Int):=by rw [← CX];exact dw (by simp) (by omega)
theorem zM:number K1=((1:Nat):Int):=by rw [← zL];exact dw (by simp) (by omega)
theorem Wt:gG Q2 K0:=by rw [← CX];exact .gF (by simp) (by omega)
theorem OS:gG Q2 K1:=by rw [← zL];exact .gF (by simp) (by omega)
theorem OT:js Q2 K1=true:=by
 have h:=zL
 simp [js,gN,zM] at h ⊢
 exact h
theorem Wu:gV Q2 ⟨0,[],[]⟩ [K1]=0:=by
 unfold gV
 rw [if_neg (fun h=>h sr),if_neg (fun h=>h R7),if_neg (by simp),if_pos (by simp [OT])]
theorem t0a:dt Q2 K0 []=⟨false,⟨#[]⟩,C0⟩:=by
 rw [oA (i:=0) DY (by simp) (by rw [DY];exact CX) (by simp)]
 rfl
theorem t0b(v:ByteArray):dt Q2 K0 [v]=⟨true,itoa (eX 1 0 [dE v]),dn⟩:=by
 rw [oz (i:=0) DY (by simp) (by rw [DY];exact CX) (by simp)]
 rfl
theorem t1a:dt Q2 K1 []=⟨false,⟨#[]⟩,K0⟩:=by
 rw [oA (i:=1) zM (by simp) (by rw [zM];exact zL) (by simp)];rw [← CX];rfl
theorem t1b(v:ByteArray):dt Q2 K1 [v]=⟨true,itoa (eX 1 0 [dE v]),dn⟩:=by
 rw [oz (i:=1) zM (by simp) (by rw [zM];exact zL) (by simp)]
 rfl
abbrev z0:ByteArray:=⟨#[48]⟩
abbrev z5:ByteArray:=⟨#[53]⟩
theorem it0:itoa ((0:Nat):Int)=z0:=by simp [itoa,Lib.itoa,Lib.decDigits]
theorem it5:itoa ((5:Nat):Int)=z5:=by simp [itoa,Lib.itoa,Lib.decDigits]
theorem fv(v:ByteArray) (n:Nat) (h:dE v=n) (hn:n<1000):itoa (eX 1 0 [dE v])=itoa n:=by
 rw [h];simp [eX,xK,Nat.mod_eq_of_lt hn]
theorem vs0:dE z0=0:=by decide
theorem vs5:dE z5=5:=by decide
theorem vsE:dE ⟨#[]⟩=0:=by decide
theorem abW{aF:List dy}{n:Nat}(h:dE (cellOf aF C0)=n) (hn:n<1000):valOf Q2 aF K0=itoa n:=by
 have e:=jd (aF:=aF) sr (i:=0) (by simp);rw [show dU Q2 0=1 from rfl,CX] at e;simp only [fZ,List.nil_append] at e;rw [t0a,t0b,Gl (by omega),fv _ n h hn] at e
 injection e with _ e2 _
 exact e2.symm
abbrev lL(i:Nat) (a:Key):Rec:=⟨⟨31,itoa (i:Int)⟩,z0,[a],0,0,2,false⟩
abbrev bQ:dP:=⟨0,[],[lL 0 C0,lL 1 K0]⟩
abbrev sQ:ES:=⟨bQ,[],[K0,K1],0⟩
theorem u0a:aN Q2 K0 []=⟨false,⟨#[]⟩,C0⟩:=by unfold aN;rw [if_pos (.inl rfl)];exact t0a
theorem u0b:aN Q2 K0 [⟨#[]⟩]=⟨true,z0,dn⟩:=by unfold aN;rw [if_pos (.inl rfl),t0b,fv _ 0 vsE (by omega),it0]
theorem u1a:aN Q2 K1 []=⟨false,⟨#[]⟩,K0⟩:=by unfold aN;rw [if_pos (.inl rfl)];exact t1a
theorem u1b:aN Q2 K1 [z0]=⟨true,z0,dn⟩:=by unfold aN;rw [if_pos (.inl rfl),t1b,fv _ 0 vs0 (by omega),it0]
theorem R8:az C0=true:=cO (n:=0) (by omega)
theorem R9:az K0=false:=rfl
theorem ahS:az K1=false:=rfl
theorem Wv:(K0 == K1)=false:=by rw [zK,CW];decide
theorem ahT:(K1 == K0)=false:=by rw [zK,CW];decide
theorem kpC(val:Key→ByteArray):dz val ⟨0,[],[]⟩ C0=⟨#[]⟩:=by
 unfold dz uo
 rw [if_neg (by rw [KY];decide),if_pos R8]
 rfl
theorem fQ0:aB [lL 0 C0] K0=some (lL 0 C0):=by simp [aB]
theorem kpK(val:Key→ByteArray):dz val ⟨0,[],[lL 0 C0]⟩ K0=z0:=by
 have h:nQ ⟨0,[],[lL 0 C0]⟩ K0=true:=by unfold nQ;rw [R9,fQ0,bD fQ0];rfl
 unfold dz uo
 rw [if_neg (by rw [zK];decide),if_neg (by rw [R9];simp),if_pos h,bD fQ0]
theorem ahV:dI ⟨0,[],[]⟩ K0 z0 [C0]=lL 0 C0:=rfl
theorem ahW:dI ⟨0,[],[lL 0 C0]⟩ K1 z0 [K0]=lL 1 K0:=by
 have h:aB [lL 0 C0] K1=none:=by simp only [aB,List.find?_cons];rw [show((lL 0 C0).key == K1)=false from Wv];rfl
 unfold dI
 simp only [h]
 rfl
theorem ahX:fP [] (lL 0 C0)=[lL 0 C0]:=rfl
theorem ahY:fP [lL 0 C0] (lL 1 K0)=[lL 0 C0,lL 1 K0]:=by
 have h:cv K0 K1 = -1:=by rw [zK,CW];decide
 unfold fP
 simp only [fY,h]
 rfl
section
variable {ab:List aG}{val:Key→ByteArray}{k c:Key}{z u:ByteArray}{s s':ES}{rs:List Key}{an:List ByteArray}{f:Nat}
theorem KZ(h0:s.e=0) (a1:aN ab k an=⟨false,⟨#[]⟩,c⟩) (hu:mb ab val f s c=some s') (h1:s'.e=0) (e:dz val s'.b c=u):gW ab val (f+1) s k rs an=gW ab val f s' k (rs++[c]) (an++[u]):=by
 rw [gW,if_neg (by rw [h0];simp),a1,if_neg (by simp),hu,Option.bind_some,if_pos h1,e]
theorem K2(h0:s.e=0) (a1:aN ab k an=⟨true,z,dn⟩) (hn:s.b.ak.length<4000) {r:Rec}{l:List Rec}(m:dI s.b k z rs=r) (p:fP s.b.ak r=l):gW ab val (f+1) s k rs an=some {s with b:={s.b with ak:=l},cP:=s.cP++[k]}:=by
 rw [gW,if_neg (by rw [h0];simp),a1,if_pos rfl,if_neg (by simp;omega),m,p]
theorem Ww(h:az k=true):mb ab val (f+1) s k=some s:=by rw [mb,if_pos (.inr h)]
theorem OU(h0:s.e=0) (hi:az k=false) (hf:aB s.b.ak k=none) (ho:s.on k=false) (hr:gW ab val (f+1) {s with busy:=dC s.busy k (.bool true)} k [] []=some s'):mb ab val (f+2) s k=some {s' with busy:=jJ s'.busy k}:=by
 have mA:aJ s.b k=false:=by unfold aJ;rw [hf];rfl
 rw [mb,if_neg (by rw [h0,hi];simp),if_neg (by rw [mA];simp),if_neg (by rw [ho];simp),dF,if_neg (by simp [h0]),if_pos (by simp [hf]),Option.bind_some,if_pos rfl,hr,Option.bind_some]
end
theorem ahZ{ab:List aG}{val:Key→ByteArray}{k0 k1 c:Key}{z u:ByteArray}{r0 r1:Rec}(a1:aN ab k0 []=⟨false,⟨#[]⟩,c⟩) (a2:aN ab k0 [u]=⟨true,z,dn⟩) (a3:aN ab k1 []=⟨false,⟨#[]⟩,k0⟩) (a4:aN ab k1 [z]=⟨true,z,dn⟩)
  (i0:az c=true) (i1:az k0=false) (i2:az k1=false) (e1:dz val ⟨0,[],[]⟩ c=u) (e2:dz val ⟨0,[],[r0]⟩ k0=z) (m0:dI ⟨0,[],[]⟩ k0 z [c]=r0) (m1:dI ⟨0,[],[r0]⟩ k1 z [k0]=r1)
  (p0:fP [] r0=[r0]) (p1:fP [r0] r1=[r0,r1]) (f1:aB [r0] k1=none) (nk:¬k1=k0):eD ab val 10 ⟨⟨0,[],[]⟩,[],[],0⟩ [k1]=some ⟨⟨0,[],[r0,r1]⟩,[],[k0,k1],0⟩:=by
 have h0:mb ab val 8 ⟨⟨0,[],[]⟩,[(k1,.bool true)],[],0⟩ k0=some ⟨⟨0,[],[r0]⟩,[(k1,.bool true)],[k0],0⟩:=by
  have h:=(KZ (rs:=[]) (an:=[]) (s:=⟨⟨0,[],[]⟩,dC [(k1,.bool true)] k0 (.bool true),[],0⟩) (f:=6) rfl a1 (Ww i0) rfl e1).trans (K2 rfl a2 (by simp) m0 p0);rw [OU (f:=6) (s':=_) rfl i1 rfl (by simp [ES.on,bX,nk]) h]
  simp [dC,jJ,nk]
 have h1:mb ab val 10 ⟨⟨0,[],[]⟩,[],[],0⟩ k1=some ⟨⟨0,[],[r0,r1]⟩,[],[k0,k1],0⟩:=by
  have h:=(KZ (rs:=[]) (an:=[]) (s:=⟨⟨0,[],[]⟩,[(k1,.bool true)],[],0⟩) (f:=8) rfl a3 h0 rfl e2).trans (K2 rfl a4 (by simp) m1 p1);rw [OU (f:=8) (s':=_) rfl i2 rfl rfl h]
  simp [jJ]
 simp only [eD,h1,Option.bind_some]
theorem abX(val:Key→ByteArray):eD Q2 val 10 ⟨⟨0,[],[]⟩,[],[],0⟩ [K1]=some sQ:=
 ahZ u0a u0b u1a u1b R8 R9 ahS (kpC val) (kpK val) ahV ahW ahX ahY (by simp only [aB,List.find?_cons];rw [show((lL 0 C0).key == K1)=false from Wv];rfl) (by have:=ahT;simpa using this)
end Go.Rc

namespace Go.Rc
open Go
section
variable {val:Key→ByteArray}{x:dP}{k a:Key}{r:Rec}
theorem GP(hc:aA k=false) (hi:az k=false) (hf:aB x.ak k=some r) (hd:r.bS=false) (hr:r.reads=[a]) (ha:a≠k) (hv:r.ax≠x.ae) (dZ:r.ax<bp val x a):gX val x k=(2,a):=by
 have hu:aJ x k=false:=by unfold aJ;rw [hf,bD hf];simp [hv]
 have pP:bW x.ak (aC x.ak x.ae k)=[⟨k,a⟩]:=by
  rw [nG hc]
  simp [bW,dW,bD hf,hr,ha]
 unfold gX
 rw [hi,hu,hf,pP]
 have Ub:KW val x ⟨k,a⟩=true:=by unfold KW;rw [bD hf];exact decide_eq_true dZ
 simp [hd,Ub]
end
abbrev iQ:List dy:=[⟨C0,z5,1⟩]
abbrev yQ:dP:=⟨1,iQ,[lL 0 C0,lL 1 K0]⟩
theorem nC0:C0≠dn:=by rw [KY];decide
theorem nK0:K0≠dn:=by rw [zK];decide
theorem nK1:K1≠dn:=by rw [CW];decide
theorem abY:C0≠K0:=by rw [KY,zK];decide
theorem ah0:C0≠K1:=by rw [KY,CW];decide
theorem abZ:K0≠K1:=by rw [zK,CW];decide
theorem fC:cZ iQ C0=⟨C0,z5,1⟩:=by unfold cZ;rw [List.find?_cons];simp
theorem v0:valOf Q2 iQ K0=z5:=by rw [abW (n:=5) (by unfold cellOf;rw [fC];exact vs5) (by omega),it5]
theorem f0:aB yQ.ak K0=some (lL 0 C0):=by simp [aB]
theorem f1:aB yQ.ak K1=some (lL 1 K0):=by simp only [aB,List.find?_cons];rw [show((lL 0 C0).key == K1)=false from Wv,show((lL 1 K0).key == K1)=true from beq_self_eq_true K1]
theorem cC:bp (valOf Q2 iQ) yQ C0=1:=by unfold bp;rw [if_pos R8,fC]
theorem cK:bp (valOf Q2 iQ) yQ K0=1:=by
 unfold bp
 rw [if_neg (by rw [R9];simp),if_neg];rw [bD f0,v0]
 simp
theorem ab0:gX (valOf Q2 iQ) yQ K1=(2,K0):=GP rfl rfl f1 rfl rfl abZ (by decide) (by rw [cK];decide)
theorem Wx:gX (valOf Q2 iQ) yQ K0=(2,C0):=GP rfl rfl f0 rfl rfl abY (by decide) (by rw [cC];decide)
theorem ah1:gX (valOf Q2 iQ) yQ C0=(0,dn):=I9 (by rw [R8];rfl)
theorem Wz:jS (valOf Q2 iQ) yQ (yQ.ak.length+1) K1 []=[K1,K0,C0]:=by
 show jS _ _ 3 _ _=_
 rw [pg (by simp [nK1]),ab0]
 show jS _ _ 2 K0 [K1]=_
 rw [pg (fun e=>e.elim nK0 fun h=>abZ (List.mem_singleton.1 h)),Wx]
 show jS _ _ 1 C0 [K1,K0]=_
 rw [pg (fun e=>e.elim nC0 fun h=>by(rcases List.mem_cons.1 h with h | h;exact ah0 h;exact abY (List.mem_singleton.1 h))),ah1]
 rfl
theorem Sa:lj (valOf Q2 iQ) yQ=[K0,K1]:=by
 unfold lj
 rw [List.filter_cons,if_pos (by rw [show(lL 0 C0).key=K0 from rfl,Wx];rfl),List.filter_cons,if_pos (by rw [show(lL 1 K0).key=K1 from rfl,ab0];rfl)]
 rfl
theorem aoQ{y:dP}(h:AO bQ [⟨C0,z5⟩] y):y=yQ:=h.one _ rfl (by decide) (by decide)
theorem lcQ:LC Q2 bQ:=by
 obtain⟨f,s',_,_,_,h4,_,h6,_⟩:=(LC.nil Q2 ⟨0,[],[]⟩ rfl (by decide) (by decide) (lI.nil _) (by simp)).Z0 sr (goals:=[K1]) (fun k hk=>.inr ⟨1,by simp,by rw [List.mem_singleton.1 hk];exact zL.symm⟩) (by simp);have e:=(pe (Nat.le_max_left f 10) h4).symm.trans (pe (Nat.le_max_right f 10) (abX _));have e2:s'=sQ:=Option.some.inj e;subst e2;exact h6
theorem smQ:∀c∈[(⟨C0,z5⟩:Change)],c.small:=fun c hc=>by
 rw [List.mem_singleton.1 hc];exact⟨⟨0,by omega,by omega,rfl⟩,by decide⟩
theorem Sb:sQ.base ⟨0,[],[]⟩=bQ:=rfl
end Go.Rc

