/- Base of the proof: frames, memory, ownership, and the plain meaning of rule systems. Conditions: as each lemma says. -/
import Derived.Test.YtjpagoacbadijaaGreatDoorNBg
import Derived.Test.YtjpagoacbadijaaGreatDoorNBf
import Derived.Shelf.SlSortCmp.WholeK
set_option linter.all false
namespace Go.Rc
open Go
def nZ(l:List et) (b:dQ) (a:Key):Prop:=az a=true∨(kI l a=true∧aA a=true)∨aK b a=true
section
variable {x b b':dQ}{l l' p q:List et}{f g:et}{k a:Key}
theorem tw:gw x l k=false↔az k=true∨kI l k=true∨aK x k=true:=by
 unfold gw aK
 grind
theorem vR:dJ x l [] k=if (!aA k && kI l k)=true then 3 else if gw x l k=true then 1 else 0:=by grind [dJ,kI]
theorem zO(h1:dJ x l [] k≠1) (h3:dJ x l [] k≠3):nZ l x k:=by
 rw [vR] at h1 h3
 by_cases hA:(!aA k && kI l k)=true
 ·
  grind
 rw [if_neg hA] at h1
 by_cases hn:gw x l k=true
 ·
  grind
 rcases tw.1 (by simpa using hn) with h | h | h
 ·
  exact .inl h
 ·
  exact .inr (.inl ⟨h,by rw [h] at hA;simpa using hA⟩)
 exact .inr (.inr h)
theorem OM(h:dJ x l [] k=1):kI l k=false∧az k=false∧aK x k=false:=by
 rw [vR] at h
 by_cases hA:(!aA k && kI l k)=true
 ·
  rw [if_pos hA] at h;cases h
 rw [if_neg hA] at h
 by_cases hn:gw x l k=true
 ·
  have kW:¬(az k=true∨kI l k=true∨aK x k=true):=fun h=>by grind [tw]
  grind
 rw [if_neg hn] at h;cases h
theorem I9(h:dJ x l [] k=3):aA k=false∧kI l k=true:=by
 rw [vR] at h
 grind
theorem jV:kI (p++q) k=(kI p k || kI q k):=by simp [kI]
theorem rD:kI [f] k=decide (f.key=k):=by simp [kI]
theorem Ja{z:et}{p1:List et}(h:p++[z]=p1++g::q):(q=[]∧p1=p∧g=z)∨∃q',q=q'++[z]∧p=p1++g::q':=by
 rcases List.eq_nil_or_concat q with rfl | ⟨q',y,rfl⟩
 ·
  simp_all
 rw [List.concat_eq_append,← List.cons_append,← List.append_assoc] at h;obtain⟨h1,h2⟩:=List.append_inj' h rfl
 grind
end
inductive FS (ab:List aG) (val:Key→ByteArray) (b:dQ) (p:List et) (f:et):dQ→List et→List Key→Int→Prop where
 | stay:FS ab val b p f b (p++[f]) [] 0
 | full:f.running=true→(aM ab f.key f.ah).done=true→(!(aC b.ak f.key).isSome && decide (4000≤b.ak.length))=true→FS ab val b p f b (p++[f]) [] 45
 | put:f.running=true→(aM ab f.key f.ah).done=true→FS ab val b p f {b with ak:=fR b.ak (dK b f.key (aM ab f.key f.ah).value f.reads)} p [f.key] 0
 | push:f.running=true→(aM ab f.key f.ah).done=false→dJ b (p++[f]) [] (aM ab f.key f.ah).ask=1→FS ab val b p f b (p++[f]++[⟨(aM ab f.key f.ah).ask,false,0,[],[]⟩]) [] 0
 | cyc:f.running=true→(aM ab f.key f.ah).done=false→dJ b (p++[f]) [] (aM ab f.key f.ah).ask=3→FS ab val b p f b (p++[f]) [] 43
 | read:f.running=true→(aM ab f.key f.ah).done=false→dJ b (p++[f]) [] (aM ab f.key f.ah).ask≠1→dJ b (p++[f]) [] (aM ab f.key f.ah).ask≠3→
   FS ab val b p f b (p++[{f with reads:=f.reads++[(aM ab f.key f.ah).ask],ah:=f.ah++[dC val b (aM ab f.key f.ah).ask]}]) [] 0
 | up:f.running=false→aK b f.key=true→FS ab val b p f b p [] 0
 | start:f.running=false→aK b f.key=false→(aC b.ak f.key=none∨(aH b.ak f.key).bU=true)→FS ab val b p f b (p++[{f with running:=true,at_:=0}]) [] 0
 | mark:f.running=false→Live b.ak b.ad f.key→(bP b.ak (aB b.ak b.ad f.key)).length≤f.at_.toNat→FS ab val b p f (dT b (aB b.ak b.ad f.key) false) p [] 0
 | Up (c:si):f.running=false→Live b.ak b.ad f.key→(bP b.ak (aB b.ak b.ad f.key))[f.at_.toNat]?=some c→dJ b (p++[f]) [] c.read=1→FS ab val b p f b (p++[f]++[⟨c.read,false,0,[],[]⟩]) [] 0
 | abR (c:si):f.running=false→Live b.ak b.ad f.key→(bP b.ak (aB b.ak b.ad f.key))[f.at_.toNat]?=some c→dJ b (p++[f]) [] c.read=3→FS ab val b p f b (p++[f]) [] 43
 | pass (c:si):f.running=false→Live b.ak b.ad f.key→(bP b.ak (aB b.ak b.ad f.key))[f.at_.toNat]?=some c→dJ b (p++[f]) [] c.read≠1→dJ b (p++[f]) [] c.read≠3→
   bp val b c.read≤(aH b.ak c.eR).ax→FS ab val b p f b (p++[{f with at_:=f.at_+1}]) [] 0
 | fail (c:si):f.running=false→Live b.ak b.ad f.key→(bP b.ak (aB b.ak b.ad f.key))[f.at_.toNat]?=some c→dJ b (p++[f]) [] c.read≠1→dJ b (p++[f]) [] c.read≠3→
   (aH b.ak c.eR).ax<bp val b c.read→FS ab val b p f (if aA f.key then dT b (aB b.ak b.ad f.key) true else b) (p++[{f with running:=true,at_:=0}]) [] 0
section
variable {ab:List aG}{H:Int→List dB}{b0 b b':dQ}{p q l l':List et}{f g:et}{cU:List Key}
structure FI (ab:List aG) (H:Int→List dB) (b0 b:dQ) (p:List et) (f:et):Prop where
 key:∃i:Nat,i<ab.length∧f.key=aN ab (i:Int)
 new:kI p f.key=false
 low:∀i j:Nat,i<ab.length→j<ab.length→f.key=aN ab (i:Int)→kI p (aN ab (j:Int))=true→Lw ab i (qA ab j)
 run:f.running=true→cI b.ak b.ad f.key=false∧aK b f.key=false∧OH (valOf ab b0.ae) b0 f.key∧(∀i:Nat,i<ab.length→f.key=aN ab (i:Int)→∃n,n≤dV ab i∧f.reads=(gh (dw ab f.key) (valOf ab b0.ae) n).1∧f.ah=(gh (dw ab f.key) (valOf ab b0.ae) n).2)∧∀a∈f.reads,nZ (p++[f]) b a
 LN:f.running=false→f.reads=[]∧f.ah=[]∧0≤f.at_∧(Live b.ak b.ad f.key→∀j c,j<f.at_.toNat→(bP b.ak (aB b.ak b.ad f.key))[j]?=some c→valOf ab (H (aH b.ak c.eR).ax) c.read=valOf ab b0.ae c.read∧nZ (p++[f]) b c.read∧bp (valOf ab b0.ae) b0 c.read≤(aH b.ak c.eR).ax)
structure TI (ab:List aG) (H:Int→List dB) (b0 b:dQ) (l:List et) (cU:List Key):Prop where
 bi:Bi ab H (fun y=>kI l y && aA y) b
 wy:Wy ab b0 ⟨b,[],cU,0⟩
 fr:∀p f q,l=p++f::q→FI ab H b0 b p f
 nr:∀f∈l,f.key∉cU∧aK b0 f.key=false
theorem nZ.lH{N:Key→Prop}{a:Key}(h:nZ l b a) (dO:kJ (valOf ab b0.ae) N cU b.ad b.ak b'.ak) (hr:b'.ad=b.ad):nZ l b' a:=
 h.imp id (Or.imp id (dO.aK hr))
theorem nZ.mono{a:Key}(h:nZ l b a) (ho:∀k,kI l k=true→kI l' k=true):nZ l' b a:=h.imp id (Or.imp (fun⟨x,y⟩=>⟨ho _ x,y⟩) id)
theorem FI.lH{N:Key→Prop}(h:FI ab H b0 b p g) (dO:kJ (valOf ab b0.ae) N cU b.ad b.ak b'.ak) (hr:b'.ad=b.ad) (hN:¬N g.key):FI ab H b0 b' p g:=by
 refine⟨h.key,h.new,h.low,fun hg=>?_,fun hg=>?_⟩
 ·
  obtain⟨h1,h2,h3,h4,h5⟩:=h.run hg
  have sq:aC b'.ak g.key=aC b.ak g.key:=by
   rcases dO.pt g.key with e | ⟨e0,r,e1,e2,e3,_⟩ | ⟨⟨_,e0⟩,_⟩
   ·
    exact e
   ·
    grind [cx]
   exact absurd e0 hN
  refine⟨?_,?_,h3,h4,fun a ha=>(h5 a ha).lH dO hr⟩
  ·
   grind [cI,aH]
  grind [aK,aH]
 obtain⟨h1,h2,h3,h4⟩:=h.LN hg;refine⟨h1,h2,h3,fun hl j c hj hc=>?_⟩;rw [hr] at hl hc;rw [dO.OG hl] at hc;obtain⟨p1,p2,p3⟩:=h4 (dO.Ul hl) j c hj hc;have hm:=(eH.1 (List.mem_of_getElem? hc)).1
 have e:aH b'.ak c.eR=aH b.ak c.eR:=by
  unfold aH
  rw [(dO.group hl).2 _ hm]
 rw [e];exact⟨p1,p2.lH dO hr,p3⟩
theorem TI.top(h:TI ab H b0 b (p++[f]) cU):FI ab H b0 b p f:=h.fr p f [] rfl
theorem TI.under(h:TI ab H b0 b (p++[f]) cU) {p1:List et}(hp:p=p1++g::q):FI ab H b0 b p1 g∧g.key≠f.key:=by
 refine⟨h.fr p1 g (q++[f]) (by rw [hp];simp),fun e=>?_⟩;have h1:=h.top.new
 grind [kI]
theorem TI.snoc(h:∀p1 g q,p=p1++g::q→FI ab H b0 b p1 g) (hf:FI ab H b0 b p f):∀p1 g q,p++[f]=p1++g::q→FI ab H b0 b p1 g:=fun p1 g q hp=>by grind [Ja]
theorem Jb(hR:aw ab) {rk:List Key}{er:Int}(h:TI ab H b0 b (p++[f]) cU) (hg:Good ab b0.ae ⟨b,[],[],0⟩) (hs:FS ab (valOf ab b0.ae) b p f b' l' rk er):er=0∧TI ab H b0 b' l' (cU++rk):=by
 have rT:=hR.len;have hB:=h.bi;have hW:=h.wy;have Wm:b.ad=b0.ad:=hW.rev;have iB:b.ae=b0.ae:=hW.aF;have hT:=h.top;obtain⟨i,hi,sT⟩:=hT.key
 have qv:az f.key=false:=by grind [eG]
 have R2:∀j:Nat,j<ab.length→kI (p++[f]) (aN ab (j:Int))=true→j=i∨Lw ab i (qA ab j):=fun j hj ho=>by
  rw [jV,rD] at ho;simp only [Bool.or_eq_true,decide_eq_true_eq] at ho
  rcases ho with ho | ho
  ·
   exact .inr (hT.low i j hi hj sT ho)
  grind [fq]
 have Wt:∀{b2:dQ}{rn:List Key},kJ (valOf ab b0.ae) (fun y=>y=f.key) rn b.ad b.ak b2.ak→(∀y∈cU,y∈rn)→b2.ad=b.ad→b2.ae=b.ae→(∀y r,aC b2.ak y=some r→r.bU=true→(aH b0.ak y).bU=true∨R1 (valOf ab b0.ae) b0 y)→(∀y∈rn,OH (valOf ab b0.ae) b0 y)→(∀y∈rn,y∈cU∨aK b2 y=true)→(∀y,aK b y=false→aK b2 y=true→y∈rn∨¬R1 (valOf ab b0.ae) b0 y)→rn.Nodup→Wy ab b0 ⟨b2,[],rn,0⟩:=fun dO Mf h1 h2 h3 h4 h5 h6 h7=>
  hW.step h1 h2 (by rw [← Wm];exact dO.mono (fun _ h=>h) fun _ _=>trivial) Mf h3 h4 h5 h6 h7
 -- a frame is ahS
 have abS:∀a,gA ab a→dJ b (p++[f]) [] a=1→(∀m:Nat,m<ab.length→a=aN ab (m:Int)→∀j:Nat,j<ab.length→kI (p++[f]) (aN ab (j:Int))=true→Lw ab m (qA ab j))→TI ab H b0 b (p++[f]++[⟨a,false,0,[],[]⟩]) cU:=fun a pN hl BG=>by
  obtain⟨h1,h2,h3⟩:=OM hl;obtain⟨m,hm,We,_⟩:=pN.jI h2;refine⟨hB.Um fun y hy=>?_,hW,TI.snoc h.fr ⟨⟨m,hm,We⟩,h1,fun m' j QS hj e ho=>BG m' QS e j hj ho,(fun hc=>by cases hc),fun _=>⟨rfl,rfl,Int.le_refl _,fun _ j c hj=>by simp at hj⟩⟩,fun g hg=>?_⟩
  rotate_left
  ·
   rcases List.mem_append.1 hg with hg | hg
   ·
    exact h.nr g hg
   rw [List.mem_singleton] at hg;subst hg;refine⟨fun hr=>?_,hW.zL h3⟩
   have:=hW.Un a hr
   grind
  rw [Bool.and_eq_true] at hy ⊢;rw [jV,hy.1];exact⟨rfl,hy.2⟩
 -- the last frame is agA one of the same key
 have sq:∀{g:et}{b2:dQ}{rn:List Key},g.key=f.key→Bi ab H (fun y=>kI (p++[f]) y && aA y) b2→Wy ab b0 ⟨b2,[],rn,0⟩→kJ (valOf ab b0.ae) (fun y=>y=f.key) rn b.ad b.ak b2.ak→b2.ad=b.ad→(∀y∈rn,y∈cU)→FI ab H b0 b2 p g→TI ab H b0 b2 (p++[g]) rn:=fun {g b2 rn} hk BH Wu dO hr Mf hF=>by
  refine⟨?_,Wu,TI.snoc (fun p1 g q hp=>?_) hF,fun q hq=>?_⟩
  ·
   have e:(fun y=>kI (p++[g]) y && aA y)=fun y=>kI (p++[f]) y && aA y:=by
    funext y
    grind [jV,rD]
   rw [e];exact BH
  ·
   obtain⟨h1,h2⟩:=h.under hp;exact h1.lH dO hr h2
  rcases List.mem_append.1 hq with hq | hq
  ·
   have:=h.nr q (List.mem_append_left _ hq)
   grind
  rw [List.mem_singleton] at hq;subst hq
  have:=h.nr f (by simp)
  grind
 have R6:∀{g:et},g.key=f.key→∀k,kI (p++[f]) k=true→kI (p++[g]) k=true:=fun hk k nj=>by grind [jV,rD]
 -- the last frame is done
 have Wv:∀{b2:dQ}{rn:List Key},Bi ab H (fun y=>kI (p++[f]) y && aA y) b2→aK b2 f.key=true→Wy ab b0 ⟨b2,[],rn,0⟩→kJ (valOf ab b0.ae) (fun y=>y=f.key) rn b.ad b.ak b2.ak→b2.ad=b.ad→(∀y∈rn,y∈cU∨y=f.key)→TI ab H b0 b2 p rn:=fun {b2 rn} BH hu Wu dO hr Mf=>by
  refine⟨BH.off hu fun y hy=>?_,Wu,fun p1 g q hp=>?_,fun g hg=>?_⟩
  ·
   rw [Bool.and_eq_true,jV,rD] at hy
   grind
  ·
   obtain⟨h1,h2⟩:=h.under hp;exact h1.lH dO hr h2
  have h1:=h.nr g (List.mem_append_left _ hg);refine⟨fun h3=>?_,h1.2⟩
  rcases Mf _ h3 with h4 | h4
  ·
   exact h1.1 h4
  obtain⟨p1,q1,hp⟩:=List.append_of_mem hg;exact(h.under hp).2 h4
 have OO:∀n,f.ah=(gh (dw ab f.key) (valOf ab b0.ae) n).2→aM ab f.key f.ah=dw ab (aN ab (i:Int)) (Mb ab b0.ae i n):=fun n hn=>by
  rw [hn,sT,gR hi (by omega)]
  rfl
 have Iz:∀{y},kI (p++[f]) y=true→∃j:Nat,j<ab.length∧y=aN ab (j:Int):=fun {y} hy=>by
  rw [jV,rD] at hy;simp only [Bool.or_eq_true,decide_eq_true_eq] at hy
  rcases hy with hy | hy
  ·
   unfold kI at hy
   obtain⟨g,hgm,Ih⟩:=List.any_eq_true.1 hy;obtain⟨p1,q1,hp⟩:=List.append_of_mem hgm;obtain⟨j,hj,e⟩:=(h.under hp).1.key
   grind
  grind
 have aqg:∀a,(∀m:Nat,m<ab.length→a=aN ab (m:Int)→∀j:Nat,j<ab.length→kI (p++[f]) (aN ab (j:Int))=true→Lw ab m (qA ab j))→dJ b (p++[f]) [] a≠3:=fun a BG hl=>by
  obtain⟨h1,h2⟩:=I9 hl;obtain⟨j,hj,rfl⟩:=Iz h2;have h3:=BG j hj rfl j hj h2
  grind [ck,Lw,qA]
 have abT:∀n,n<dV ab i→∀m:Nat,m<ab.length→tu ab b0.ae i n=aN ab (m:Int)→∀j:Nat,j<ab.length→kI (p++[f]) (aN ab (j:Int))=true→Lw ab m (qA ab j):=fun n hn m hm e j hj ho=>by
  obtain⟨h1,h2⟩:=(vQ hR hi (List.mem_of_getElem? (ll (aF:=b0.ae) hn))).2 m hm e
  grind
 have anC:Live b.ak b.ad f.key→∀c∈bP b.ak (aB b.ak b.ad f.key),gA ab c.read∧∀m:Nat,m<ab.length→c.read=aN ab (m:Int)→∀j:Nat,j<ab.length→kI (p++[f]) (aN ab (j:Int))=true→Lw ab m (qA ab j):=fun hl c hc=>by
  obtain⟨hm,ha,BF⟩:=eH.1 hc;obtain⟨j,hj,ej⟩:=hB.key (mj hl hm);obtain⟨rm,g1,g2,g3⟩:=mj hl hm;have h1:=(hB.c.vr rm (aX g1).1).2;rw [(aX g1).2,ej,jS hR hj] at h1;rw [bC g1,h1] at ha;have BG:=vQ hR hj ha;refine⟨BG.1.QR hR,fun m kM e q hq ho=>?_⟩;obtain⟨h4,h5⟩:=BG.2 m kM e;rw [sT] at hl hm;obtain⟨g4,g5⟩:=KT hR hB hi hj hl (ej ▸ hm)
  grind
 have abQ:∀{a},nZ (p++[f]) b a→az a=true∨((kI (p++[f]) a && aA a)=true∧aA a=true)∨aK b a=true:=fun {a} h=>h.imp id (Or.imp (fun⟨x,y⟩=>⟨by rw [x,y];rfl,y⟩) id)
 have Jc:∀{b2:dQ},f.running=false→Bi ab H (fun y=>kI (p++[f]) y && aA y) b2→Wy ab b0 ⟨b2,[],cU,0⟩→kJ (valOf ab b0.ae) (fun y=>y=f.key) cU b.ad b.ak b2.ak→b2.ad=b.ad→cI b2.ak b2.ad f.key=false→aK b2 f.key=false→OH (valOf ab b0.ae) b0 f.key→TI ab H b0 b2 (p++[{f with running:=true,at_:=0}]) cU:=fun {b2} hr BH Wu dO ahT ho hu hw=>by
  obtain⟨c1,c2,_,_⟩:=hT.LN hr;refine sq (g:={f with running:=true,at_:=0}) rfl BH Wu dO ahT (fun _ h=>h) ⟨⟨i,hi,sT⟩,hT.new,hT.low,fun _=>⟨ho,hu,hw,fun j hj e=>⟨0,Nat.zero_le _,c1,c2⟩,fun a ha=>?_⟩,fun hc=>by cases hc⟩
  grind
 have GQ:Live b.ak b.ad f.key→aK b f.key=false:=fun⟨r,h1,_,h2⟩=>mC h1 h2
 cases hs with
 | stay=>grind
 | full hr hd hn=>
  have:=hB.len
  simp at hn
  omega
 | put hr hd=>
  obtain⟨h1,h2,h3,h4,h5⟩:=hT.run hr;obtain⟨n,hn,rU,Ww⟩:=h4 i hi sT;have ht:=OO n Ww
  have hnq:n=dV ab i:=by grind [KN]
  rw [hnq,KO hR hi] at ht
  have mU:f.reads=eb ab b0.ae i:=by
   rw [rU,hnq,sT]
   rfl
  have hm:dK b f.key (aM ab f.key f.ah).value f.reads=dK b (aN ab (i:Int)) (valOf ab b0.ae (aN ab (i:Int))) (eb ab b0.ae i):=by rw [ht,mU,sT]
  rw [hm];have BH:=hB.put hR hi (fun hc=>by grind [jV,rD]) (by grind);rw [iB] at BH
  have BH:Bi ab H (fun y=>kI (p++[f]) y && aA y) ⟨b.ad,b.ae,fR b.ak (dK b (aN ab (i:Int)) (valOf ab b0.ae (aN ab (i:Int))) (eb ab b0.ae i))⟩:=by rw [iB];exact BH
  have dO:kJ (valOf ab b0.ae) (fun y=>y=f.key) (cU++[f.key]) b.ad b.ak (fR b.ak (dK b (aN ab (i:Int)) (valOf ab b0.ae (aN ab (i:Int))) (eb ab b0.ae i))):=by
   rw [sT] at h1 h2;refine kJ.put h1 (fun r hr=>?_) ⟨by simp [dK,sT],sT.symm⟩ rfl rfl rfl (fun r hr=>?_) fun hn=>?_
   ·
    have h1:=(hB.c.KP r (aX hr).1).1
    have h6:r.ax≠b.ad:=fun e=>by
     have:aK b (aN ab (i:Int))=true:=cL.2 ⟨r,hr,e⟩
     grind
    omega
   ·
    have jg:aC b.ak (aN ab (i:Int))=some r:=hr
    unfold dK
    simp only [jg,bC jg]
    grind
   grind [dK]
  have D3:aK {b with ak:=fR b.ak (dK b (aN ab (i:Int)) (valOf ab b0.ae (aN ab (i:Int))) (eb ab b0.ae i))} f.key=true:=by
   rw [sT];exact tk (r:=dK b (aN ab (i:Int)) (valOf ab b0.ae (aN ab (i:Int))) (eb ab b0.ae i)) rfl
  refine⟨rfl,Wv BH D3 (Wt dO (fun y hy=>by simp [hy]) rfl rfl (fun y r hf hd=>?_) (fun y hy=>?_) (fun y hy=>?_) (fun y hu I7=>?_) (CY hW.mF fun hr=>by have:=hW.Un _ hr;rw [h2] at this;cases this)) dO rfl fun y hy=>by simpa using hy⟩
  ·
   have D2:aC (fR b.ak (dK b (aN ab (i:Int)) (valOf ab b0.ae (aN ab (i:Int))) (eb ab b0.ae i))) y=some r:=hf;rw [gk] at D2
   split at D2
   ·
    have:=Option.some.inj D2
    subst this
    cases hd
   exact hW.QY y r D2 hd
  ·
   rcases List.mem_append.1 hy with hy | hy
   ·
    exact hW.cU y hy
   grind
  ·
   grind
  refine .inl ?_
  by_cases e:y=f.key
  ·
   rw [e]
   simp
  obtain⟨r,hr,hv⟩:=cL.1 I7;have jg:aC (fR b.ak (dK b (aN ab (i:Int)) (valOf ab b0.ae (aN ab (i:Int))) (eb ab b0.ae i))) y=some r:=hr;rw [gk,if_neg (show ¬y=(dK b (aN ab (i:Int)) (valOf ab b0.ae (aN ab (i:Int))) (eb ab b0.ae i)).key from fun h=>e (h.trans sT.symm))] at jg
  grind [cL]
 | push hr hd hl=>
  obtain⟨h1,h2,h3,h4,h5⟩:=hT.run hr;obtain⟨n,hn,rU,Ww⟩:=h4 i hi sT;have ht:=OO n Ww
  have ee:n<dV ab i:=by grind [KO]
  rw [KN hR hi ee] at ht;rw [ht] at hl ⊢;rw [List.append_nil];exact⟨rfl,abS _ (GO hR hi ee) hl (abT n ee)⟩
 | cyc hr hd hl=>
  obtain⟨h1,h2,h3,h4,h5⟩:=hT.run hr;obtain⟨n,hn,rU,Ww⟩:=h4 i hi sT
  grind [KO,KN]
 | read hr hd jJ Mg=>
  obtain⟨h1,h2,h3,h4,h5⟩:=hT.run hr;obtain⟨n,hn,rU,Ww⟩:=h4 i hi sT;have ht:=OO n Ww
  have ee:n<dV ab i:=by grind [KO]
  rw [KN hR hi ee] at ht;rw [ht] at jJ Mg ⊢;rw [List.append_nil];have Kl:=zO jJ Mg
  have Ws:dC (valOf ab b0.ae) b (tu ab b0.ae i n)=valOf ab b0.ae (tu ab b0.ae i n):=by
   rw [← iB];refine hB.answer (by grind [GO]) ?_
   grind
  refine⟨rfl,sq (g:={f with reads:=f.reads++[tu ab b0.ae i n],ah:=f.ah++[dC (valOf ab b0.ae) b (tu ab b0.ae i n)]}) rfl hB hW (.refl _) rfl (fun _ h=>h) ⟨⟨i,hi,sT⟩,hT.new,hT.low,fun _=>⟨h1,h2,h3,fun j hj e=>?_,fun a ha=>?_⟩,fun hc=>?_⟩⟩
  ·
   have:=fq hR hj hi (e.symm.trans sT)
   subst this;refine⟨n+1,ee,?_,?_⟩
   ·
    show f.reads++[tu ab b0.ae j n]=_
    rw [rU,sT]
    rfl
   show f.ah++[dC (valOf ab b0.ae) b (tu ab b0.ae j n)]=_
   rw [Ws,Ww,sT]
   rfl
  ·
   rcases List.mem_append.1 ha with ha | ha
   ·
    exact(h5 a ha).mono (R6 rfl)
   rw [List.mem_singleton] at ha;rw [ha];exact Kl.mono (R6 rfl)
  grind
 | up hr hu=>
  rw [List.append_nil];exact⟨rfl,Wv hB hu hW (.refl _) rfl fun _ h=>.inl h⟩
 | start hr hu hx=>
  rw [List.append_nil];refine⟨rfl,Jc hr hB hW (.refl _) rfl ?_ hu ⟨qv,hW.zL hu,?_⟩⟩
  ·
   rw [Bool.eq_false_iff]
   grind [cx,bC]
  cases hf:aC b.ak f.key with
  | none=>exact .inl (hW.none hf)
  | some r=>
   refine .inr ?_
   rcases hx with hx | hx
   ·
    rw [hf] at hx
    cases hx
   rw [bC hf] at hx;exact hW.QY _ r hf hx
 | mark hr hl hn=>
  obtain⟨c1,c2,c3,c4⟩:=hT.LN hr;have c4:=c4 hl;have dO:kJ (valOf ab b0.ae) (fun y=>y=f.key) cU b.ad b.ak (dT b (aB b.ak b.ad f.key) false).ak:=kJ.mark hl false (.inr rfl)
  have BH:=hB.mark hR hl fun m hm a ha BF=>by
   have kL:(⟨m,a⟩:si)∈bP b.ak (aB b.ak b.ad f.key):=eH.2 ⟨hm,ha,BF⟩;obtain⟨j,hj⟩:=List.mem_iff_getElem?.1 kL;have h1:=(List.getElem?_eq_some_iff.1 hj).1;obtain⟨h2,h3,_⟩:=c4 j ⟨m,a⟩ (by omega) hj
   grind
  have wL:=hW.Uo hl fun m hm a ha BF=>by
   have kL:(⟨m,a⟩:si)∈bP b.ak (aB b.ak b.ad f.key):=eH.2 ⟨hm,ha,BF⟩;obtain⟨j,hj⟩:=List.mem_iff_getElem?.1 kL
   grind
  rw [List.append_nil];refine⟨rfl,Wv BH ?_ (Wt dO (fun _ h=>h) rfl rfl (fun y r' hf hd=>?_) hW.cU (fun _ h=>.inl h) (fun y hu I7=>.inr (wL y (KS hu I7))) hW.mF) dO rfl fun _ h=>.inl h⟩
  ·
   obtain⟨r,h1,_⟩:=hl
   grind [uz,lL]
  have D2:(aC b.ak y).map (cO b.ad (aB b.ak b.ad f.key) false)=some r':=eS.symm.trans hf;obtain⟨r,hr,rfl⟩:=Option.map_eq_some_iff.1 D2;rw [xj] at hd;exact hW.QY y r hr hd
 | Up c hr hl hc hk=>grind
 | abR c hr hl hc hk=>grind
 | pass c hr hl hc sn xa hle=>
  obtain⟨c1,c2,c3,c4⟩:=hT.LN hr;have Kl:=zO sn xa;rw [List.append_nil];refine⟨rfl,sq (g:={f with at_:=f.at_+1}) rfl hB hW (.refl _) rfl (fun _ h=>h) ⟨⟨i,hi,sT⟩,hT.new,hT.low,fun hc=>?_,fun _=>⟨c1,c2,by show 0≤f.at_+1;omega,fun _ j c' hj OJ=>?_⟩⟩⟩
  ·
   grind
  have hj':j<f.at_.toNat+1:=by grind
  rcases Nat.lt_or_ge j f.at_.toNat with ee | qk
  ·
   obtain⟨p1,p2,p3⟩:=c4 hl j c' ee OJ;exact⟨p1,p2.mono (R6 rfl),p3⟩
  have e:j=f.at_.toNat:=by omega
  subst e;have abU:(bP b.ak (aB b.ak b.ad f.key))[f.at_.toNat]?=some c':=OJ;rw [hc] at abU
  have:=Option.some.inj abU
  subst this;refine⟨?_,Kl.mono (R6 rfl),by rw [← hW.changed hB c.read];exact hle⟩;obtain⟨hm,ha,BF⟩:=eH.1 (List.mem_of_getElem? hc);obtain⟨rm,g1,g2,g3⟩:=mj hl hm;rw [bC g1] at hle ha ⊢;have h1:=hB.c.changed (aX g1).1 g3 ha (by rw [iB];exact hle);rw [iB] at h1;exact h1
 | fail c hr hl hc sn xa ee=>
  obtain⟨hm,ha,BF⟩:=eH.1 (List.mem_of_getElem? hc);have OK:=hW.Wp hB hl hm ha BF ee;have I8:OH (valOf ab b0.ae) b0 f.key:=⟨qv,hW.zL (GQ hl),.inr (.inr (OK _ lL))⟩;rw [List.append_nil]
  cases tq:aA f.key with
  | false=>
   simp only [Bool.false_eq_true,if_false];refine⟨trivial,Jc hr hB hW (.refl _) rfl ?_ (GQ hl) I8⟩;rw [Bool.eq_false_iff]
   grind [cx]
  | true=>
   simp only [if_true];have dO:kJ (valOf ab b0.ae) (fun y=>y=f.key) cU b.ad b.ak (dT b (aB b.ak b.ad f.key) true).ak:=kJ.mark hl true (.inl tq);obtain⟨r,f1,f2,f3⟩:=id hl
   have hfk:aC (dT b (aB b.ak b.ad f.key) true).ak f.key=some {r with bU:=true}:=by
    refine eS.trans ?_;rw [f1]
    show some (cO _ _ _ r)=_
    unfold cO
    rw [if_pos (by rw [(aX f1).2];exact lL)]
    rfl
   refine⟨trivial,Jc hr (hB.bU fun m hm=>mj hl hm) (Wt dO (fun _ h=>h) rfl rfl (fun y r' hf hd=>?_) hW.cU (fun _ h=>.inl h) (fun y hu I7=>by grind [GP]) hW.mF) dO rfl ?_ (mC hfk f3) I8⟩
   ·
    have D2:(aC b.ak y).map (cO b.ad (aB b.ak b.ad f.key) true)=some r':=eS.symm.trans hf;obtain⟨q,hq,rfl⟩:=Option.map_eq_some_iff.1 D2
    by_cases hy:y∈aB b.ak b.ad f.key
    ·
     exact .inr (OK y hy)
    unfold cO at hd
    rw [if_neg (by rw [(aX hq).2];exact hy)] at hd;exact hW.QY y q hq hd
   rw [Bool.eq_false_iff]
   grind [cx]
end
end Go.Rc

namespace Go.Rc
open Go
theorem As.exc{A:As}{Z:Nat→Prop}{w w':World}(h:A.ok Z w) (c:aV [] w w'):A.ok Z w':=A.st c.size (fun x _ hx=>c.block x hx (by simp)) h
theorem abV{k:Key}(h:gY k):aA k=decide (k.kind=32):=by
 have e:(decide (1≤k.kind) && decide (k.kind≤22))=false:=by
  rcases h with h | h
  ·
   grind
  grind
 unfold aA
 grind
/-! ### records in blocks -/
structure RL where
 b:Nat
 a:Option Addr
 n:Nat
 c:Nat
def WD.wc(D:WD) (v:Nat) (rev:Int) (ra:Option Addr) (rn rc:Nat):List Value:=
 [.slice D.ar D.r D.cr,.int .i64 rev,.slice D.a1 D.n1 D.c1,.slice D.a2 D.n2 D.c2,.map (some D.m),.pointer (some ⟨v,0,none⟩),.slice ra rn rc]
def As.oX(RT:Nat) (lf:Key→RL) (l:List Rec):As where
 fp x:=∃k r,aC l k=some r∧x=(lf k).b
 ok Z w:=(∀k r,aC l k=some r→cW w (lf k).b RT (r.row (lf k).a (lf k).n (lf k).c)∧Rd RR.key 2 Z w (lf k).a (lf k).n (lf k).c r.reads∧r.reads.length≤4000)∧∀k k' r r',aC l k=some r→aC l k'=some r'→(lf k).b=(lf k').b→k=k'
 lt h x hx:=by
  obtain⟨k,r,hk,rfl⟩:=hx;exact(h.1 k r hk).1.lt
 mono hZ h:=⟨fun k r hk=>by
  obtain⟨hb,hr,h4⟩:=h.1 k r hk;exact⟨hb,hr.mono hZ,h4⟩,h.2⟩
 st hs hc h:=⟨fun k r hk=>by
  obtain⟨hb,hr,h4⟩:=h.1 k r hk;exact⟨(As.blk (lf k).b RT (r.row (lf k).a (lf k).n (lf k).c)).st (Z:=fun _=>False) hs (fun x hx hl=>hc x (.inl ⟨k,r,hk,by rcases hx with hx | hx;exact hx;exact hx.elim⟩) hl) hb,hr.st hs (fun x hx=>hc x (.inr hx)),h4⟩,h.2⟩
theorem As.KX{RT:Nat}{lf:Key→RL}{l:List Rec}{Z:Nat→Prop}{w:World}(h:(As.oX RT lf l).ok Z w):(As.oX RT lf l).ok Z w:=h
def jW(l:List Rec) (lf:Key→RL) (ml:List (Key × Value)):Prop:=∀k,bZ ml k=(aC l k).map fun _=>Value.pointer (some ⟨(lf k).b,0,none⟩)
theorem jW.nil(lf:Key→RL):jW [] lf []:=fun _=>rfl
theorem jW.no{l:List Rec}{lf:Key→RL}{ml:List (Key × Value)}{k:Key}(h:jW l lf ml) (hf:aC l k=none):(bZ ml k).getD (.pointer none)=.pointer none:=by rw [h k,hf];rfl
theorem jW.yes{l:List Rec}{lf:Key→RL}{ml:List (Key × Value)}{k:Key}{r:Rec}(h:jW l lf ml) (hf:aC l k=some r):bZ ml k=some (.pointer (some ⟨(lf k).b,0,none⟩)):=by rw [h k,hf];rfl
def OP(lf:Key→RL) (k:Key) (q:RL):Key→RL:=fun y=>if y=k then q else lf y
theorem oL{lf:Key→RL}{k:Key}{q:RL}:OP lf k q k=q:=if_pos rfl
theorem po{lf:Key→RL}{k y:Key}{q:RL}(h:¬y=k):OP lf k q y=lf y:=if_neg h
theorem jW.put{l l':List Rec}{lf:Key→RL}{ml:List (Key × Value)}{r:Rec}{q:RL}(h:jW l lf ml) (hl:∀y,aC l' y=if y=r.key then some r else aC l y):jW l' (OP lf r.key q) (dF ml r.key (.pointer (some ⟨q.b,0,none⟩))):=fun k=>by
 rw [fy,hl k]
 by_cases e:k=r.key
 ·
  subst e;rw [if_pos rfl,if_pos rfl,oL]
  rfl
 rw [if_neg fun h=>e h.symm,if_neg e,po e,h k]
section
variable {RT:Nat}{q:RL}{lf:Key→RL}{l l':List Rec}{r:Rec}{w0 w:World}{M Z:Nat→Prop}{L:List As}
theorem St.ahU(h:St w0 M Z w L) (RT:Nat) (lf:Key→RL):St w0 M Z w (As.oX RT lf []::L):=h.fact (B:=As.oX RT lf []) ⟨fun k r hk=>(by cases hk),fun k k' r r' hk=>(by cases hk)⟩ fun x hx=>by obtain⟨k,r,hk,_⟩:=hx;cases hk
theorem St.Wx(h:St w0 M Z w (As.blk q.b RT (r.row q.a q.n q.c)::As.oX RT lf l::L)) (hr:Rd RR.key 2 Z w q.a q.n q.c r.reads) (h4:r.reads.length≤4000) (hl:∀y,aC l' y=if y=r.key then some r else aC l y):St w0 M Z w (As.oX RT (OP lf r.key q) l'::L):=by
 have hB:cW w q.b RT (r.row q.a q.n q.c):=h.g0;have hR:(As.oX RT lf l).ok Z w:=h.g1;have hd:∀k r',aC l k=some r'→q.b≠(lf k).b:=fun k r' hk e=>(List.pairwise_cons.1 h.vD).1 (As.oX RT lf l) M0 q.b rfl ⟨k,r',hk,e⟩;refine h.join (C:=As.oX RT (OP lf r.key q) l') ⟨fun k r' hk=>?_,fun k k' r1 r2 h1 h2 e=>?_⟩ fun x hx=>?_
 ·
  rw [hl k] at hk
  by_cases e:k=r.key
  ·
   rw [if_pos e] at hk
   grind [oL]
  rw [if_neg e] at hk;rw [po e];exact hR.1 k r' hk
 ·
  rw [hl k] at h1;rw [hl k'] at h2
  by_cases e1:k=r.key
  ·
   by_cases e2:k'=r.key
   ·
    rw [e1,e2]
   rw [if_neg e2] at h2
   grind [oL,po]
  rw [if_neg e1] at h1
  by_cases e2:k'=r.key
  ·
   rw [po e1,e2,oL] at e;exact absurd e.symm (hd k _ h1)
  rw [if_neg e2] at h2;rw [po e1,po e2] at e;exact hR.2 k k' _ _ h1 h2 e
 obtain⟨k,r',hk,rfl⟩:=hx;rw [hl k] at hk
 by_cases e:k=r.key
 ·
  rw [e,oL];exact .inl rfl
 rw [if_neg e] at hk;rw [po e];exact .inr ⟨k,r',hk,rfl⟩
theorem Ow.z{α:Type}{f:α→List Value}{E k n c:Nat}{a:Option Addr}{xs:List α}{Z':Nat→Prop}(h:Ow (RR.flat f) E k Z' w a n c xs):Ow (RR.flat f) E k Z w a n c xs:=by
 obtain⟨hn,rows,hl,hk,h1,hx⟩:=h;exact⟨hn,rows,hl,hk,h1,hx⟩
theorem St.unz{A:As}{Z':Nat→Prop}(h:St w0 M Z' w [A]) (hz:∀x,Z x→Z' x) (hA:A.ok Z w):St w0 M Z w [A]:=
 ⟨h.cT,fun x hx=>h.ma x (hz x hx),fun B hB x hx QO=>h.o9 B hB x hx (hz x QO),h.qh,h.vD,fun B hB=>by grind⟩
end
theorem Jd{l:List Rec}{r:Rec}(h:∀x∈l,x.key≠r.key) (y:Key):aC (l++[r]) y=if y=r.key then some r else aC l y:=by
 unfold aC
 grind
/-! ### entries of maps that are changed in place -/
section
variable {κ:Type} [DecidableEq κ] {enc:κ→Value}{P:Program}{kt:TypeId}{w w':World}{b:Nat}{l:List (κ × Value)}
def Wz{κ:Type}(enc:κ→Value) (w:World) (b:Nat) (l:List (κ × Value)) (k:κ) (z:Int):Prop:=
 ∃es clock,w.heap[b]?=some (.map es clock)∧(es.toList.map (fun e=>(e.key,e.val))=l.map (fun p=>(enc p.1,p.2))∧(l.map (·.1)).Nodup∧(∀e∈es.toList,e.born<clock)∧(es.toList.map (·.born)).Nodup)∧∃(j:Nat) (v:Value) (e:MapEntry),l[j]?=some (k,v)∧es[j]?=some e∧(e.born:Int)=z
def As.Je{κ:Type}(enc:κ→Value) (b:Nat) (l:List (κ × Value)) (k:κ) (z:Int):As where
 fp x:=x=b
 ok _ w:=Wz enc w b l k z
 lt h x hx:=by
  subst hx;obtain⟨es,c,h,_⟩:=h
  grind
 mono _ h:=h
 st hs hc h:=by
  obtain⟨es,c,h,r⟩:=h;exact⟨es,c,(hc b (.inl rfl) (Array.getElem?_eq_some_iff.1 h).1).trans h,r⟩
theorem As.gmb{κ:Type}{enc:κ→Value}{b:Nat}{l:List (κ × Value)}{k:κ}{z:Int}{Z:Nat→Prop}{w:World}(h:(As.Je enc b l k z).ok Z w):Wz enc w b l k z:=h
theorem D4{e T:TypeId}{zv:Value}(hK:KK P kt enc) (hT:P.underlying T=some (.map kt e)) (hz:∀w,(zeroValue e).run P w=.ok zv w) (hb:KM enc w b l) (k:κ) :
  ∃(z:Int) (w':World),(Instr.mapEntry T (.map (some b)) (enc k)).run P w=.ok (.tuple #[(bZ l k).getD zv,.int .i64 z]) w'∧aV [b] w w'∧Wz enc w' b (dF l k ((bZ l k).getD zv)) k z:=by
 obtain⟨es,clock,hm,he,hn,hbo,Gc⟩:=hb;have yu:b<w.heap.size:=(Array.getElem?_eq_some_iff.1 hm).1
 have hlen:es.toList.length=l.length:=by simpa using congrArg List.length he
 cases hx:sX l k 0 with
 | none=>
  obtain⟨h1,h2⟩:=my hx;refine⟨(clock:Int),_,?_,kn w b (.map (es.push {key:=enc k,val:=zv,born:=clock}) (clock+1)),?_⟩
  ·
   rw [h1];simp only [Instr.mapEntry,Sem.run_bind,run_underlying hT,Result.andThen_ok,MapKept.run_getObj_map hm,hK.check,hK.find l es.toList k w he,hx,hz,MapKept.run_setObj_map _ hm,Option.getD_none]
   rfl
  rw [h1,h2];refine⟨_,_,by first | (simp [yu];done) | (simp [yu];exact⟨rfl,rfl⟩),⟨by simp [he],by grind [ir],?_,?_⟩,l.length,zv,{key:=enc k,val:=zv,born:=clock},by simp,?_,rfl⟩
  ·
   grind
  ·
   grind
  grind
 | some p=>
  obtain⟨j,v0⟩:=p;obtain⟨m,h1,h2,h3,h4,_⟩:=kX hx
  have pI:j=m:=by omega
  subst pI
  have T6:j<es.size:=by grind
  obtain⟨y,hy⟩:∃y,es[j]?=some y:=⟨_,Array.getElem?_eq_getElem T6⟩
  have hye:y.key=enc k∧y.val=v0:=by
   have:=congrArg (fun x=>x[j]?) he
   grind
  have Iz:(((es[j]?).map (·.key)).getD (enc k))=enc k:=by rw [hy];exact hye.1
  have abW:(((es[j]?).map fun x=>(x.born:Int)).getD 0)=(y.born:Int):=by rw [hy];rfl
  refine⟨(y.born:Int),_,?_,kn w b (.map (es.modify j fun e=>{e with key:=enc k}) clock),?_⟩
  ·
   rw [h3];simp only [Instr.mapEntry,Sem.run_bind,run_underlying hT,Result.andThen_ok,MapKept.run_getObj_map hm,hK.check,hK.find l es.toList k w he,hx,Instr.keyThatStays,Iz,hK.same,if_true,Sem.run_pure,MapKept.run_setObj_map _ hm,Option.getD_some,abW]
   rfl
  rw [h3]
  have Gd:(es.modify j fun e=>{e with key:=enc k}).toList.map (fun e=>(e.key,e.val))=(l.set j (k,v0)).map (fun p=>(enc p.1,p.2))∧(es.modify j fun e=>{e with key:=enc k}).toList.map (·.born)=es.toList.map (·.born):=by
   constructor
   ·
    apply List.ext_getElem?
    intro i;have hi:=congrArg (fun x=>x[i]?) he
    grind
   apply List.ext_getElem?
   grind
  refine⟨_,_,by first | (simp [yu];done) | (simp [yu];exact⟨rfl,rfl⟩),⟨by grind,ir hn k _,?_,by rw [Gd.2];exact Gc⟩,j,v0,{y with key:=enc k},?_,?_,rfl⟩
  ·
   intro x hx
   have:x.born∈(es.modify j fun e=>{e with key:=enc k}).toList.map (·.born):=List.mem_map.2 ⟨x,hx,rfl⟩
   grind
  ·
   grind
  grind
theorem zP{α:Type}:∀{l:List α},l.Nodup→∀{i j:Nat}{x:α},l[i]?=some x→l[j]?=some x→i=j:=fun {l} h {i j x} h1 h2=>by
 obtain⟨hi,e1⟩:=List.getElem?_eq_some_iff.1 h1;obtain⟨hj,e2⟩:=List.getElem?_eq_some_iff.1 h2
 rcases Nat.lt_trichotomy i j with g | g | g
 ·
  exact absurd (e1.trans e2.symm) (List.pairwise_iff_getElem.1 h i j hi hj g)
 ·
  exact g
 exact absurd (e2.trans e1.symm) (List.pairwise_iff_getElem.1 h j i hj hi g)
theorem zQ{T:TypeId}{k:κ}{z:Int}(hb:Wz enc w b l k z) (v:Value) :
  ∃w':World,(Instr.entryStore T (.map (some b)) (.int .i64 z) v).run P w=.ok () w'∧aV [b] w w'∧KM enc w' b (dF l k v):=by
 obtain⟨es,clock,hm,⟨he,hn,hbo,Gc⟩,j,v0,y,hj,hy,hz⟩:=hb;have yu:b<w.heap.size:=(Array.getElem?_eq_some_iff.1 hm).1;have T6:j<es.size:=(Array.getElem?_eq_some_iff.1 hy).1
 have T9:es.findIdx? (fun e=>(e.born:Int) == z)=some j:=by
  rw [Array.findIdx?_eq_some_iff_getElem]
  have hyj:es[j]=y:=by grind
  refine⟨T6,by rw [hyj];simpa using hz,fun i hi=>?_⟩
  have kW:(es[i]'(by omega)).born≠y.born:=fun e=>by
   have h1:(es.toList.map (·.born))[i]?=some y.born:=by grind
   have h2:(es.toList.map (·.born))[j]?=some y.born:=by simp [hy]
   grind [zP]
  grind
 have WA:∃(j':Nat),sX l k 0=some (j',v0)∧j'=j:=by
  cases hx:sX l k 0 with
  | none=>
   have h1:=(my hx).1;exact absurd (List.mem_map.2 ⟨(k,v0),List.mem_of_getElem? hj,rfl⟩) (Ct.1 h1)
  | some p=>
   obtain⟨j',v1⟩:=p;obtain⟨m,h1,h2,_⟩:=kX hx
   have h3:(l.map (·.1))[m]?=some k:=by rw [List.getElem?_map,h2];rfl
   have h4:(l.map (·.1))[j]?=some k:=by rw [List.getElem?_map,hj];rfl
   have h5:=zP hn h3 h4
   grind
 obtain⟨j',hx,hjj⟩:=WA;subst hjj;obtain⟨m,h1,h2,h3,h4,_⟩:=kX hx
 have pI:j'=m:=by omega
 subst pI;refine⟨_,?_,kn w b (.map (es.modify j' fun e=>{e with val:=v}) clock),?_⟩
 ·
  simp only [Instr.entryStore,Sem.run_bind,Result.andThen_ok,MapKept.run_getObj_map hm,asInt,asIntOf,Sem.run_pure,T9,MapKept.run_setObj_map _ hm]
 have hyk:y.key=enc k:=by
  have:=congrArg (fun x=>x[j']?) he
  grind
 have Gd:(es.modify j' fun e=>{e with val:=v}).toList.map (fun e=>(e.key,e.val))=(l.set j' (k,v)).map (fun p=>(enc p.1,p.2))∧(es.modify j' fun e=>{e with val:=v}).toList.map (·.born)=es.toList.map (·.born):=by
  constructor
  ·
   apply List.ext_getElem?
   intro i;have hi:=congrArg (fun x=>x[i]?) he
   grind
  apply List.ext_getElem?
  grind
 refine⟨_,_,by first | (simp [yu];done) | (simp [yu];exact⟨rfl,rfl⟩),by rw [h4];exact Gd.1,ir hn k v,?_,by rw [Gd.2];exact Gc⟩;intro x hx
 have:x.born∈(es.modify j' fun e=>{e with val:=v}).toList.map (·.born):=List.mem_map.2 ⟨x,hx,rfl⟩
 grind
variable {n:Nat}{kv:KV}{K:KV→World→Prop}{d:Tmp}{ty:TypeId}{pos:String}{af:Array Edge}{g:Option (Nat × Bool)}{T e:TypeId}
theorem OX.mapEntry{zv v:Value}{k:κ}(hK:KK P kt enc) (hT:P.underlying T=some (.map kt e)) (hz:∀w,(zeroValue e).run P w=.ok zv w) (hb:KM enc w b l) (hv:(bZ l k).getD zv=v) {x y:Operand}(hx:ev kv x=some (.map (some b))) (hy:ev kv y=some (enc k)) (hd:Nat.blt d n=true)
  (h:∀(z:Int) w',aV [b] w w'→Wz enc w' b (dF l k v) k z→K ((d,.tuple #[v,.int .i64 z])::kv) w'):OX P ⟨some d,.mapEntry T x y,ty,pos,af,g⟩ n kv w K:=by
 obtain⟨z,w',hr,h1,h2⟩:=D4 hK hT hz hb k;rw [hv] at hr h2;refine⟨rfl,hd,by simp [known,opers,hx,hy],?_⟩
 have jg:(execOp (lX kv) ⟨some d,.mapEntry T x y,ty,pos,af,g⟩).run P w=.ok (.value (.tuple #[v,.int .i64 z])) w':=by
  simp only [execOp,aJ hx,aJ hy,Sem.run_bind,hr,Result.andThen_ok];rfl
 rw [jg];exact h z _ h1 h2
theorem OX.entryStore{k:κ}{z:Int}{v:Value}(hb:Wz enc w b l k z) {x y u:Operand}(hx:ev kv x=some (.map (some b))) (hy:ev kv y=some (.int .i64 z)) (hu:ev kv u=some v)
  (h:∀w',aV [b] w w'→KM enc w' b (dF l k v)→K kv w'):OX P ⟨none,.entryStore T x y u,ty,pos,af,g⟩ n kv w K:=by
 obtain⟨w',hr,h1,h2⟩:=zQ (P:=P) (T:=T) hb v;refine⟨rfl,rfl,by simp [known,opers,hx,hy,hu],?_⟩
 have jg:(execOp (lX kv) ⟨none,.entryStore T x y u,ty,pos,af,g⟩).run P w=.ok .skip w':=by
  simp only [execOp,aJ hx,aJ hy,aJ hu,Sem.run_bind,hr,Result.andThen_ok];rfl
 rw [jg];exact h _ h1 h2
end
section
variable {κ:Type}{enc:κ→Value}{w0 w w':World}{M Z:Nat→Prop}{L:List As}{b:Nat}{l l':List (κ × Value)}{k:κ}{z:Int}
theorem St.abX(h:St w0 M Z w (As.map enc b l::L)) (s:aV [b] w w') (hm:Wz enc w' b l' k z):St w0 M Z w' (As.Je enc b l' k z::L):=h.nP (s.p.mono fun x _ hx=>by simpa [As.map] using hx) hm fun x hx=>.inl hx
theorem St.abY(h:St w0 M Z w (As.Je enc b l k z::L)) (s:aV [b] w w') (hm:KM enc w' b l'):St w0 M Z w' (As.map enc b l'::L):=h.nP (s.p.mono fun x _ hx=>by simpa [As.Je] using hx) hm fun x hx=>.inl hx
end
/-! ### a map to owned slices -/
def me(L:List RE) (k:Key):Option RE:=L.find? fun e=>decide (e.key=k)
def ks(L:List RE) (k:Key):List Key:=((me L k).map (·.reads)).getD []
def x7(L:List RE) (ml:List (Key × Value)):Prop:=∀k,bZ ml k=(me L k).map fun e=>Value.slice e.a e.n e.c
def uE(bg:Key→List Key) (x y:Key):Key→List Key:=fun z=>if z=x then bg z++[y] else bg z
def rest(L:List RE) (x:Key):List RE:=L.filter fun e=>decide (e.key≠x)
section
variable {L:List RE}{ml:List (Key × Value)}{x y:Key}{e:RE}{a:Option Addr}{n c:Nat}{v:Value}
theorem C1(h:me L x=some e):e∈L∧e.key=x:=by grind [me]
theorem x7.nil:x7 [] []:=fun _=>rfl
theorem vS(ys:List Key) (z:Key):me (⟨x,a,n,c,ys⟩::rest L x) z=if z=x then some ⟨x,a,n,c,ys⟩ else me L z:=by
 unfold me rest
 grind
theorem x7.put(h:x7 L ml) (ys:List Key):x7 (⟨x,a,n,c,ys⟩::rest L x) (dF (dF ml x v) x (.slice a n c)):=fun z=>by
 rw [fy,vS]
 by_cases e:x=z
 ·
  subst e
  simp
 rw [if_neg e,if_neg fun h=>e h.symm,fy,if_neg e];exact h z
theorem OQ(z:Key):ks (⟨x,a,n,c,ks L x++[y]⟩::rest L x) z=uE (ks L) x y z:=by
 unfold uE
 by_cases h:z=x
 ·
  subst h;rw [if_pos rfl]
  show((me _ z).map _).getD []=_
  rw [vS,if_pos rfl]
  rfl
 rw [if_neg h]
 show((me _ z).map _).getD []=((me L z).map _).getD []
 rw [vS,if_neg h]
theorem R7:ks (⟨x,a,n,c,ks L x++[y]⟩::rest L x)=uE (ks L) x y:=funext OQ
theorem Jf(h:(L.map (·.key)).Nodup) (ys:List Key):(((⟨x,a,n,c,ys⟩:RE)::rest L x).map (·.key)).Nodup:=by
 rw [List.map_cons,List.nodup_cons];refine⟨fun h2=>?_,((List.filter_sublist (l:=L)).map (·.key)).nodup h⟩;obtain⟨e,he,h3⟩:=List.mem_map.1 h2
 have:=(List.mem_filter.1 he).2
 simp at this
 exact this h3
theorem C2:∀{L:List RE},(L.map (·.key)).Nodup→me L x=some e→L.Perm (e::rest L x)
 | [],_,h=>by cases h
 | q::L,hn,h=>by
  rw [List.map_cons,List.nodup_cons] at hn
  unfold me at h
  by_cases hq:q.key=x
  ·
   rw [List.find?_cons_of_pos (by simpa using hq)] at h
   cases h
   have:rest (e::L) x=L:=by
    unfold rest
    simp_all
   rw [this]
  rw [List.find?_cons_of_neg (by simpa using hq)] at h
  have h2:rest (q::L) x=q::rest L x:=by
   unfold rest
   grind
  rw [h2];exact((C2 hn.2 h).cons q).trans (.swap _ _ _)
variable {w0 w:World}{M Z:Nat→Prop}{l:List As}{EK:Nat}
theorem St.abZ(hn:(L.map (·.key)).Nodup) (hm:x7 L ml) (x:Key) (h:St w0 M Z w (As.many (L.map (RE.as EK))::l)):∃(a:Option Addr) (n c:Nat),(bZ ml x).getD (.slice none 0 0)=.slice a n c∧St w0 M Z w (As.os RR.key EK 2 a n c (ks L x)::As.many ((rest L x).map (RE.as EK))::l):=by
 cases hf:me L x with
 | none=>
  refine⟨none,0,0,by rw [hm x,hf];rfl,?_⟩
  have e1:ks L x=[]:=by unfold ks;rw [hf];rfl
  have e2:rest L x=L:=by
   unfold rest
   rw [List.filter_eq_self];intro e he
   have:=List.find?_eq_none.1 hf e he
   simpa using this
  rw [e1,e2];exact h.eP _ _ _
 | some e=>
  refine⟨e.a,e.n,e.c,by rw [hm x,hf];rfl,?_⟩
  have e1:ks L x=e.reads:=by unfold ks;rw [hf];rfl
  rw [e1];exact(St.abI ((C2 hn hf).map (RE.as EK)) h).RW
theorem St.ahW{ys:List Key}(h:St w0 M Z w (As.os RR.key EK 2 a n c ys::As.many ((rest L x).map (RE.as EK))::l)):St w0 M Z w (As.many (((⟨x,a,n,c,ys⟩:RE)::rest L x).map (RE.as EK))::l):=h.Wk
def FBK(L:List RE):FZ where
 p Z w:=∀e∈L,Rd RR.key 2 Z w e.a e.n e.c e.reads
 mono hZ h:=fun e he=>(h e he).mono hZ
 st hs hc h:=fun e he=>(h e he).st hs hc
theorem St.bkF(hl:∀e∈L,e.reads.length≤140737488355328) (h:St w0 M Z w (As.many (L.map (RE.as EK))::l)):St w0 M (fun x=>Z x∨(As.many (L.map (RE.as EK))).fp x) w (As.fz (FBK L)::l):=by
 have hm:(As.many (L.map (RE.as EK))).ok Z w:=h.ok _ M0
 refine h.freeze (B:=As.fz (FBK L)) (fun e he=>?_) fun x hx=>hx
 have h3:Ow RR.key EK 2 Z w e.a e.n e.c e.reads:=As.gs (hm.2 _ (List.mem_map_of_mem (f:=RE.as EK) he))
 exact(h3.rd (hl e he)).mono fun x hx=>hx.imp id fun hx=>⟨_,List.mem_map_of_mem (f:=RE.as EK) he,hx⟩
theorem x7.read(hm:x7 L ml) (hf:(FBK L).p Z w) (x:Key):∃(a:Option Addr) (n c:Nat),(bZ ml x).getD (.slice none 0 0)=.slice a n c∧Rd RR.key 2 Z w a n c (ks L x):=by
 cases hx:me L x with
 | none=>
  refine⟨none,0,0,by rw [hm x,hx];rfl,?_⟩
  grind [ks,Rd.nil]
 | some e=>
  refine⟨e.a,e.n,e.c,by rw [hm x,hx];rfl,?_⟩
  have e1:ks L x=e.reads:=by unfold ks;rw [hx];rfl
  rw [e1];exact hf e (C1 hx).1
theorem OS(hn:(L.map (·.key)).Nodup) (he:e∈L):ks L e.key=e.reads:=by
 have:me L e.key=some e:=by
  cases hf:me L e.key with
  | none=>
   have:=List.find?_eq_none.1 hf e he
   simp at this
  | some q=>
   obtain⟨h1,h2⟩:=C1 hf;obtain⟨i,hi⟩:=List.mem_iff_getElem?.1 h1;obtain⟨j,hj⟩:=List.mem_iff_getElem?.1 he
   have g1:(L.map (·.key))[i]?=some e.key:=by grind
   have g2:(L.map (·.key))[j]?=some e.key:=by rw [List.getElem?_map,hj];rfl
   grind [zP]
 unfold ks
 rw [this]
 rfl
end
/-! ### a search there and back -/
section
variable {l:List Rec}{rev:Int}{k:Key}{bg:Key→List Key}{L:List Key}{i q:Nat}{x y:Key}
structure x8 (l:List Rec) (rev:Int) (k:Key) (bg:Key→List Key) (L:List Key) (i q:Nat):Prop where
 mF:L.Nodup
 mem:k∈L
 sub:∀x∈L,x=k∨cD l rev k x
 cl:∀j y,j<i→L[j]?=some y→∀x,Ld l rev y x→x∈L∧y∈bg x
 cur:∀y,L[i]?=some y→∀x∈(aH l y).reads.take q,cI l rev x=true→x∈L∧y∈bg x
 bk:∀x y,y∈bg x→y∈L∧Ld l rev y x
 len:∀x,(bg x).length≤4000*i+q
theorem x8.start(h:∀x,bg x=[]):x8 l rev k bg [k] 0 0:=
 ⟨by simp,by simp,by simp,fun j y h=>by omega,fun y _ x hx=>by simp at hx,fun x y hy=>(by rw [h] at hy;cases hy),fun x=>by rw [h];simp⟩
theorem x8.op(h:x8 l rev k bg L i q) (ho:cI l rev k=true) (hx:x∈L):cI l rev x=true:=by
 rcases h.sub x hx with rfl | h1
 ·
  exact ho
 exact h1.iE
theorem x8.le(h:x8 l rev k bg L i q) (ho:cI l rev k=true):L.length≤l.length:=by
 have:=iL h.mF fun x hx=>qx (h.op ho hx)
 simpa using this
theorem x8.skip(h:x8 l rev k bg L i q) (hy:L[i]?=some y) (hx:(aH l y).reads[q]?=some x) (gV:cI l rev x=false):x8 l rev k bg L i (q+1):=
 {h with
  cur:=fun y' vT x' Mh ho=>by
   rw [hy] at vT
   cases vT
   rcases qE hx Mh with h1 | rfl
   ·
    exact h.cur y hy x' h1 ho
   rw [gV] at ho;cases ho
  len:=fun x=>by have:=h.len x;omega}
theorem uF{z u:Key}(h:u∈bg z):u∈uE bg x y z:=by grind [uE]
theorem C3:y∈uE bg x y x:=by unfold uE;simp
theorem zR{z u:Key}(h:u∈uE bg x y z):u∈bg z∨(z=x∧u=y):=by grind [uE]
theorem GR(z:Key):(uE bg x y z).length≤(bg z).length+1:=by
 unfold uE
 split <;> simp
theorem x8.vw(h:x8 l rev k bg L i q) (hy:L[i]?=some y) (hx:(aH l y).reads[q]?=some x) (ho:cI l rev x=true) (hm:x∈L):x8 l rev k (uE bg x y) L i (q+1):=
 {h with
  cl:=fun j y' hj vT x' hl=>⟨(h.cl j y' hj vT x' hl).1,uF (h.cl j y' hj vT x' hl).2⟩
  cur:=fun y' vT x' Mh H9=>by
   rw [hy] at vT
   cases vT
   rcases qE hx Mh with h1 | rfl
   ·
    have:=h.cur y hy x' h1 H9
    grind [uF]
   exact⟨hm,C3⟩
  bk:=fun z u hu=>by
   rcases zR hu with h1 | ⟨rfl,rfl⟩
   ·
    exact h.bk z u h1
   exact⟨List.mem_of_getElem? hy,List.mem_of_getElem? hx,ho⟩
  len:=fun z=>by have:=h.len z;grind [GR]}
theorem x8.new(h:x8 l rev k bg L i q) (hy:L[i]?=some y) (hx:(aH l y).reads[q]?=some x) (ho:cI l rev x=true) (hm:x∉L):x8 l rev k (uE bg x y) (L++[x]) i (q+1):=by
 have Bs:i<L.length:=(List.getElem?_eq_some_iff.1 hy).1;have T7:Ld l rev y x:=⟨List.mem_of_getElem? hx,ho⟩
 have vw:∀{j z},j≤i→(L++[x])[j]?=some z→L[j]?=some z:=fun hj h2=>by grind
 refine⟨by grind [mF],by simp [h.mem],fun z hz=>?_,fun j y' hj vT x' hl=>?_,fun y' vT x' Mh H9=>?_,fun z u hu=>?_,fun z=>?_⟩
 ·
  rcases List.mem_append.1 hz with hz | hz
  ·
   exact h.sub z hz
  rw [List.mem_singleton] at hz;subst hz
  rcases h.sub y (List.mem_of_getElem? hy) with rfl | h1
  ·
   exact .inr (.one T7)
  exact .inr (.step h1 T7)
 ·
  have h1:=h.cl j y' hj (vw (by omega) vT) x' hl
  grind [uF]
 ·
  have Mi:=vw (Nat.le_refl _) vT;rw [hy] at Mi
  cases Mi
  rcases qE hx Mh with h1 | rfl
  ·
   have:=h.cur y hy x' h1 H9
   grind [uF]
  exact⟨by simp,C3⟩
 ·
  rcases zR hu with h1 | ⟨rfl,rfl⟩
  ·
   have:=h.bk z u h1
   grind
  grind
 have:=h.len z
 grind [GR]
theorem x8.next(h:x8 l rev k bg L i q) (hy:L[i]?=some y) (hq:(aH l y).reads.length≤q) (h4:q≤4000):x8 l rev k bg L (i+1) 0:=
 {h with
  cl:=fun j y' hj vT x' hl=>by
   rcases Nat.lt_or_ge j i with h1 | h1
   ·
    exact h.cl j y' h1 vT x' hl
   have e:j=i:=by omega
   subst e;rw [hy] at vT
   cases vT
   exact h.cur y hy x' (by rw [List.take_of_length_le hq];exact hl.1) hl.2
  cur:=fun _ _ x hx=>by simp at hx
  len:=fun x=>by have:=h.len x;omega}
theorem x8.done(h:x8 l rev k bg L i q) (hi:L.length≤i) (x:Key):x∈L↔x=k∨cD l rev k x:=by
 have vt:∀y∈L,∀x,Ld l rev y x→x∈L∧y∈bg x:=fun y hy x hl=>by
  obtain⟨j,hj⟩:=List.mem_iff_getElem?.1 hy
  have:=(List.getElem?_eq_some_iff.1 hj).1
  exact h.cl j y (by omega) hj x hl
 refine⟨h.sub x,?_⟩;rintro(rfl | h1)
 ·
  exact h.mem
 induction h1 with
 | one h1=>exact(vt _ h.mem _ h1).1
 | step _ h2 ih=>exact(vt _ ih _ h2).1
theorem x8.ahY(h:x8 l rev k bg L i q) (hi:L.length≤i) (x y:Key):y∈bg x↔(y=k∨cD l rev k y)∧Ld l rev y x:=by
 rw [← h.done hi y];refine⟨h.bk x y,fun⟨h1,h2⟩=>?_⟩;obtain⟨j,hj⟩:=List.mem_iff_getElem?.1 h1
 have:=(List.getElem?_eq_some_iff.1 hj).1
 exact(h.cl j y (by omega) hj x h2).2
structure C4 (l:List Rec) (rev:Int) (k:Key) (bg:Key→List Key) (L:List Key) (i q:Nat):Prop where
 mF:L.Nodup
 mem:k∈L
 sub:∀x∈L,x=k∨CX l rev k x
 cl:∀j y,j<i→L[j]?=some y→∀x∈bg y,x∈L
 cur:∀y,L[i]?=some y→∀x∈(bg y).take q,x∈L
theorem C4.start:C4 l rev k bg [k] 0 0:=⟨by simp,by simp,by simp,fun j y h=>by omega,fun y _ x hx=>by simp at hx⟩
theorem C4.le(h:C4 l rev k bg L i q) (ho:cI l rev k=true):L.length≤l.length:=by
 have:=iL h.mF fun x hx=>qx (l:=l) (rev:=rev) (by
  rcases h.sub x hx with rfl | h1
  ·
   exact ho
  exact h1.iE)
 simpa using this
theorem C4.has(h:C4 l rev k bg L i q) (hy:L[i]?=some y) (hx:(bg y)[q]?=some x) (hm:x∈L):C4 l rev k bg L i (q+1):=
 {h with
  cur:=fun y' vT x' Mh=>by
   rw [hy] at vT
   cases vT
   rcases qE hx Mh with h1 | rfl
   ·
    exact h.cur y hy x' h1
   exact hm}
theorem C4.add(h:C4 l rev k bg L i q) (VN:∀x y,y∈bg x↔(y=k∨cD l rev k y)∧Ld l rev y x) (hy:L[i]?=some y) (hx:(bg y)[q]?=some x) (hm:x∉L):C4 l rev k bg (L++[x]) i (q+1):=by
 have Bs:i<L.length:=(List.getElem?_eq_some_iff.1 hy).1;obtain⟨h1,h2⟩:=(VN y x).1 (List.mem_of_getElem? hx)
 have hkx:cD l rev k x:=by grind [mem]
 have hxk:cD l rev x k:=by
  rcases h.sub y (List.mem_of_getElem? hy) with rfl | h3
  ·
   exact .one h2
  exact(cD.one h2).trans h3.2
 have vw:∀{j z},j≤i→(L++[x])[j]?=some z→L[j]?=some z:=fun hj h2=>by grind
 refine⟨by grind [mF],by simp [h.mem],fun z hz=>?_,fun j y' hj vT x' Mh=>by simp [h.cl j y' hj (vw (by omega) vT) x' Mh],fun y' vT x' Mh=>?_⟩
 ·
  rcases List.mem_append.1 hz with hz | hz
  ·
   exact h.sub z hz
  rw [List.mem_singleton] at hz;subst hz;exact .inr ⟨hkx,hxk⟩
 have Mi:=vw (Nat.le_refl _) vT;rw [hy] at Mi
 cases Mi
 rcases qE hx Mh with h3 | rfl
 ·
  simp [h.cur y hy x' h3]
 simp
theorem C4.next(h:C4 l rev k bg L i q) (hy:L[i]?=some y) (hq:(bg y).length≤q):C4 l rev k bg L (i+1) 0:=
 {h with
  cl:=fun j y' hj vT x' Mh=>by
   rcases Nat.lt_or_ge j i with h1 | h1
   ·
    exact h.cl j y' h1 vT x' Mh
   have e:j=i:=by omega
   subst e;rw [hy] at vT
   cases vT
   exact h.cur y hy x' (by grind [List.take_of_length_le])
  cur:=fun _ _ x hx=>by simp at hx}
theorem C4.done(h:C4 l rev k bg L i q) (ho:cI l rev k=true) (VN:∀x y,y∈bg x↔(y=k∨cD l rev k y)∧Ld l rev y x) (hi:L.length≤i) (x:Key):x∈L↔x∈aB l rev k:=by
 have vt:∀y∈L,∀x∈bg y,x∈L:=fun y hy x hx=>by
  obtain⟨j,hj⟩:=List.mem_iff_getElem?.1 hy
  have:=(List.getElem?_eq_some_iff.1 hj).1
  exact h.cl j y (by omega) hj x hx
 rw [dq]
 constructor
 ·
  intro hx
  exact(h.sub x hx).imp id fun h1=>⟨ho,h1⟩
 rintro(rfl | ⟨_,h1,h2⟩)
 ·
  exact h.mem
 have key:∀{x y:Key},cD l rev x y→(x=k∨cD l rev k x)→y∈L→x∈L:=by
  intro x y h2 h1
  induction h2 with
  | one h3=>grind
  | step h3 h4 ih=>
   refine fun hy=>ih (vt _ hy _ ((VN _ _).2 ⟨.inr ?_,h4⟩))
   rcases h1 with rfl | h1
   ·
    exact h3
   exact h1.trans h3
 exact key h2 (.inr h1) h.mem
theorem C4.group(h:C4 l rev k bg L i q) (ho:cI l rev k=true) (VN:∀x y,y∈bg x↔(y=k∨cD l rev k y)∧Ld l rev y x) (hi:L.length≤i) {L':List Key}(hs:Wo L') (hp:L'.Perm L):L'=aB l rev k:=
 DZ hs (oK _ _ _) fun x=>(hp.mem_iff).trans (h.done ho VN hi x)
end
/-! ### what has changed, and why a key would be run -/
section
variable {val:Key→ByteArray}{x:dQ}{k:Key}{r:Rec}
theorem WE(hi:az k=true):bp val x k=(db x.ae k).changed:=by unfold bp;rw [if_pos hi]
theorem WG(hi:az k=false) (h:aC x.ak k=none):bp val x k=x.ad:=by grind [bp]
theorem WJ(hi:az k=false) (h:aC x.ak k=some r) (hv:r.ax=x.ad):bp val x k=r.changed:=by grind [bp,bC]
theorem KY(hi:az k=false) (h:aC x.ak k=some r) (hv:¬r.ax=x.ad):bp val x k=if val k=r.value then r.changed else x.ad:=by
 unfold bp
 rw [hi,bC h,h]
 grind
def Ii(val:Key→ByteArray) (x:dQ) (c:si):Bool:=decide ((aH x.ak c.eR).ax<bp val x c.read)
noncomputable def gx(val:Key→ByteArray) (x:dQ) (k:Key):Int × Key:=
 if (az k || aK x k)=true then (0,da)
 else match aC x.ak k with
  | none=>(1,da)
  | some r=>if r.bU=true then (3,da) else
   match (bP x.ak (aB x.ak x.ad k)).find? (Ii val x) with
   | none=>(0,da)
   | some c=>(if c.eR=k then 2 else 3,c.read)
def rE(p:Int × Key):List Value:=[.int .i64 p.1,.int .i64 p.2.kind,.string p.2.text]
theorem D5(h:(az k || aK x k)=true):gx val x k=(0,da):=by unfold gx;rw [if_pos h]
theorem OT(h:(az k || aK x k)=false) (hf:aC x.ak k=none):gx val x k=(1,da):=by unfold gx;rw [if_neg (by rw [h];simp),hf]
theorem C5(h:(az k || aK x k)=false) (hf:aC x.ak k=some r) (hd:r.bU=true):gx val x k=(3,da):=by
 unfold gx
 grind
theorem GS(h:(az k || aK x k)=false) (hf:aC x.ak k=some r) (hd:r.bU=false) (hn:∀j c,j<(bP x.ak (aB x.ak x.ad k)).length→(bP x.ak (aB x.ak x.ad k))[j]?=some c→Ii val x c=false):gx val x k=(0,da):=by
 unfold gx
 rw [if_neg (by rw [h];simp),hf]
 simp only
 rw [if_neg (by rw [hd];simp),um (Nat.le_refl _) hn]
theorem R8(h:(az k || aK x k)=false) (hf:aC x.ak k=some r) (hd:r.bU=false) {q:Nat}{c:si}(hc:(bP x.ak (aB x.ak x.ad k))[q]?=some c) (hn:∀j c,j<q→(bP x.ak (aB x.ak x.ad k))[j]?=some c→Ii val x c=false) (hq:Ii val x c=true):gx val x k=(if c.eR=k then 2 else 3,c.read):=by
 obtain⟨h1,rfl⟩:=List.getElem?_eq_some_iff.1 hc
 unfold gx
 rw [if_neg (by rw [h];simp),hf]
 simp only
 rw [if_neg (by rw [hd];simp),lG h1 hn hq]
def KR(ab:List aG) (l:List Rec):Prop:=∀r∈l,gA ab r.key∧az r.key=false∧∀a∈r.reads,gA ab a
theorem KR.ah0{ab:List aG}{l:List Rec}(h:KR ab l):∀r∈l,gY r.key:=fun r hr=>(h r hr).1.gY
theorem KR.aF{ab:List aG}{l:List Rec}(h:KR ab l) (hi:az k=true):aC l k=none:=by
 cases hf:aC l k with
 | none=>rfl
 | some r=>
  obtain⟨h1,h2⟩:=aX hf
  have:=(h r h1).2.1
  grind
theorem R9{l:List Rec}{rev:Int}(hf:aC l k=some r):∀m∈aB l rev k,∃q,aC l m=some q:=fun m hm=>by
 rcases dq.1 hm with rfl | ⟨_,h⟩
 ·
  exact⟨r,hf⟩
 obtain⟨q,hq,_⟩:=cx.1 h.iE;exact⟨q,hq⟩
theorem Mj{l:List Rec}(hr:∀r∈l,r.reads.length≤4000) {group:List Key}(hg:group.length≤4001) (i:Nat):((group.take i).flatMap fun m=>dZ group m (aH l m).reads).length≤100000000:=by
 have h1:∀s:List Key,(s.flatMap fun m=>dZ group m (aH l m).reads).length≤s.length*4000:=by
  intro s
  induction s with
  | nil=>simp
  | cons m s ih=>
   simp only [List.flatMap_cons,List.length_append,List.length_cons];have h2:=mh group m (aH l m).reads
   have h3:(aH l m).reads.length≤4000:=by
    cases hf:aC l m with
    | none=>grind [aH,sf]
    | some r=>grind [bC,aX]
   rw [Nat.add_mul]
   omega
 grind
end
end Go.Rc

namespace Go.Rc
open Go
theorem qG(n:dB):∀l:List dB,(ij n l false).find? (fun x=>x.key == n.key)=some n
 | []=>by simp [ij]
 | x::xs=>by
  by_cases h:0≤cw x.key n.key
  ·
   simp [ij,h]
  have h0:¬cw x.key n.key=0:=by omega
  have kW:(x.key == n.key)=false:=by
   rw [beq_eq_false_iff_ne];intro e;rw [e,lh] at h0;exact h0 rfl
  have:=qG n xs
  simp [ij,h,h0,kW,this]
theorem qH(n:dB) (l:List dB):db (ij n l false) n.key=n:=by grind [db,qG]
structure ApR (x:dQ) (l:List Change) (y:dQ):Prop where
 same:∀k,(∀c∈l,c.key≠k)→db y.ae k=db x.ae k
 how:(y.ad=x.ad∧y.ae=x.ae)∨(y.ad=x.ad+1∧∀k,db y.ae k=db x.ae k∨(db y.ae k).changed=x.ad+1)
theorem ApR.refl(x:dQ) (l:List Change):ApR x l x:=⟨fun _ _=>rfl,.inl ⟨rfl,rfl⟩⟩
theorem Sa{rev:Int}{l li:List dB}(h:∀k,db li k=db l k∨(db li k).changed=rev) (n:dB) (hn:n.changed=rev) (k:Key):db (ij n li false) k=db l k∨(db (ij n li false) k).changed=rev:=by
 by_cases e:n.key=k
 ·
  grind [qH]
 rw [vN e];exact h k
/-! ### tasks -/
section
variable {ab:List aG}{H:Int→List dB}{x b:dQ}{cU:List Key}{k:Key}
theorem TI.begin(hR:aw ab) (h:TI ab H x b [] cU) (hk:gA ab k) (hn:gw b [] k=true):TI ab H x b [⟨k,false,0,[],[]⟩] cU:=by
 have kW:¬(az k=true∨kI [] k=true∨aK b k=true):=fun h=>by grind [tw]
 have h1:az k=false:=by grind
 have h2:aK b k=false:=by grind
 obtain⟨m,hm,We,_⟩:=hk.jI h1;refine⟨h.bi.Um fun y hy=>?_,h.wy,?_,fun f hf=>?_⟩
 ·
  simp [kI] at hy
 ·
  have:=TI.snoc (ab:=ab) (H:=H) (b0:=x) (b:=b) (p:=[]) (f:=⟨k,false,0,[],[]⟩) (fun p1 g q hp=>by cases p1 <;> cases hp) ⟨⟨m,hm,We⟩,rfl,fun i j _ _ _ ho=>(by simp [kI] at ho),fun hc=>(by cases hc),fun _=>⟨rfl,rfl,Int.le_refl _,fun _ j c hj=>(by simp at hj)⟩⟩
  exact this
 rw [List.mem_singleton] at hf;subst hf;refine⟨fun hr=>?_,h.wy.zL h2⟩
 have:=h.wy.Un k hr
 grind
def TO(ab:List aG) (x:dQ) (t:vO):Prop:=∃H:Int→List dB,TI ab H x t.base t.stack t.cU
theorem TO.of{t:vO}(h:Bh ab t.base) (hs:t.stack=[]) (hr:t.cU=[]):TO ab t.base t:=by
 obtain⟨H,h⟩:=h;refine⟨H,?_⟩;rw [hs,hr];exact⟨h.Um fun k hk=>(by cases hk),Wy.start _,fun p f q hp=>(by cases p <;> cases hp),fun f hf=>(by cases hf)⟩
theorem Sb{aF:List dB}{rev:Int}(hb:BK ab aF rev b) (hnu:aK b k=false) (hd:(!(aC b.ak k).isSome || (aH b.ak k).bU)=false):Live b.ak b.ad k:=by
 cases hf:aC b.ak k with
 | none=>rw [hf] at hd;cases hd
 | some r=>
  rw [hf,bC hf] at hd;have hv:r.ax≤b.ad:=(hb.zF.v r (aX hf).1).2
  have kW:r.ax≠b.ad:=fun e=>by grind [cL]
  exact⟨r,hf,by simpa using hd,by omega⟩
theorem TO.begin{t:vO}(hR:aw ab) (h:TO ab x t) (hs:t.stack=[]) (hk:gA ab k) (hn:gw t.base [] k=true) (g:List Key):TO ab x {t with goals:=g,stack:=[⟨k,false,0,[],[]⟩]}:=by
 obtain⟨H,h⟩:=h;rw [hs] at h;exact⟨H,h.begin hR hk hn⟩
theorem TO.goals{t:vO}(h:TO ab x t) (g:List Key):TO ab x {t with goals:=g}:=h
theorem TO.OU{t:vO}{b':dQ}{l':List et}{rk:List Key}{er:Int}(hR:aw ab) (h:TO ab x t) (hg:Good ab x.ae ⟨t.base,[],[],0⟩) (hfs:∃p f,p++[f]=t.stack∧FS ab (valOf ab x.ae) t.base p f b' l' rk er):er=0∧TO ab x {t with base:=b',stack:=l',cU:=t.cU++rk}:=by
 obtain⟨H,h⟩:=h;obtain⟨p,f,hp,hfs⟩:=hfs;rw [← hp] at h;obtain⟨h1,h2⟩:=Jb hR h hg hfs;exact⟨h1,H,h2⟩
/-! ### cancelled tasks -/
def gJ(l:List et) (rs:List Rec):List Rec:=l.foldl (fun rs f=>if aA f.key then jq rs f.key else rs) rs
theorem uG(l:List et) (f:et) (rs:List Rec):gJ (l++[f]) rs=if aA f.key then jq (gJ l rs) f.key else gJ l rs:=by grind [gJ]
theorem Jg(rs:List Rec) (k:Key):(jq rs k).Sublist rs:=by grind [jq,List.filter_sublist]
theorem qI:∀(l:List et) (rs:List Rec),(gJ l rs).Sublist rs∧∀r,r∈gJ l rs↔r∈rs∧(kI l r.key && aA r.key)=false
 | [],rs=>⟨List.Sublist.refl _,fun r=>by simp [gJ,kI]⟩
 | f::l,rs=>by
  have e:gJ (f::l) rs=gJ l (if aA f.key then jq rs f.key else rs):=rfl;obtain⟨h1,h2⟩:=qI l (if aA f.key then jq rs f.key else rs);rw [e];refine⟨h1.trans ?_,fun r=>?_⟩
  ·
   grind [Jg]
  rw [h2 r]
  have ho:kI (f::l) r.key=(decide (f.key=r.key) || kI l r.key):=by simp [kI]
  rw [ho]
  by_cases hc:aA f.key=true
  ·
   rw [if_pos hc]
   unfold jq
   grind
  grind
theorem TO.cancel{t:vO}(h:TO ab x t):Bh ab ⟨t.base.ad,t.base.ae,gJ t.stack t.base.ak⟩∧(∀y∈t.cU,aK ⟨t.base.ad,t.base.ae,gJ t.stack t.base.ak⟩ y=true)∧(∀y,aK x y=true→aK ⟨t.base.ad,t.base.ae,gJ t.stack t.base.ak⟩ y=true)∧(∀y∈t.cU,az y=false∧aK x y=false)∧t.cU.Nodup:=by
 obtain⟨H,h⟩:=h;obtain⟨h1,h2⟩:=qI t.stack t.base.ak
 have hb:=h.bi.drop h1 fun r hr=>((h2 r).1 hr).2
 have bJ:vK (gJ t.stack t.base.ak):=hb.st
 have lH:∀y,aK t.base y=true→kI t.stack y=false→aK ⟨t.base.ad,t.base.ae,gJ t.stack t.base.ak⟩ y=true:=fun y hu hn=>by
  obtain⟨r,hr,hv⟩:=cL.1 hu;obtain⟨g1,g2⟩:=aX hr
  grind [cL,lM]
 have IY:∀y,(∀f∈t.stack,f.key≠y)→kI t.stack y=false:=fun y hy=>by grind [kI]
 refine⟨⟨H,hb⟩,fun y hy=>lH y (h.wy.Un y hy) (IY y fun f hf e=>?_),fun y hy=>lH y ?_ (IY y fun f hf e=>?_),fun y hy=>⟨(h.wy.cU y hy).1,(h.wy.cU y hy).2.1⟩,h.wy.mF⟩
 ·
  rw [← e] at hy;exact(h.nr f hf).1 hy
 ·
  have:=h.wy.ev
  have h4:t.base.ad=x.ad:=h.wy.rev;exact this.aK h4 hy
 have:=(h.nr f hf).2
 rw [e,hy] at this
 cases this
/-! ### bases of the mill -/
structure LC (ab:List aG) (x:dQ):Prop where
 lb:LB ab x
 bh:Bh ab x
theorem LC.apply(h:LC ab x) {y:dQ}{l:List Change}(ha:ApR x l y) (hr:y.ak=x.ak) (h0:x.ad≤y.ad) (h1:y.ad≤1073741824) (hG:lK y.ad y.ae) (h6:y.ae.length≤64):LC ab y:=by
 refine⟨h.lb.apply hr h0 h1 hG h6,?_⟩
 rcases ha.how with⟨e1,e2⟩ | ⟨e1,e2⟩
 ·
  obtain⟨yr,yi,yc⟩:=y;simp only at hr e1 e2;subst hr e1 e2;exact h.bh
 exact h.bh.apply hr e1 fun k=>by rw [e1];exact e2 k
theorem LC.sub(h:LC ab x) {rs:List Rec}(hs:rs.Sublist x.ak):LC ab ⟨x.ad,x.ae,rs⟩:=⟨h.lb.sub hs,h.bh.drop hs⟩
theorem LC.task{t:vO}(h:LC ab x) (hb:BK ab x.ae x.ad t.base) (ht:TO ab x t):LC ab ⟨t.base.ad,t.base.ae,gJ t.stack t.base.ak⟩:=⟨h.lb.task hb (qI _ _).1,ht.cancel.1⟩
theorem LC.req(hR:aw ab) (h:LC ab x) {goals:List Key}(hg:∀k∈goals,o8 ab k) (Wn:goals.length≤32):∃(f:Nat) (s':ES),ia ab x goals=0∧Good ab x.ae ⟨x,[],[],0⟩∧(∀k∈goals,gA ab k)∧eD ab (valOf ab x.ae) f ⟨x,[],[],0⟩ goals=some s'∧s'.cU.length≤1000000∧LC ab (s'.base x)∧(s'.base x).ad=x.ad∧s'.e=0∧s'.base x=s'.b∧Wy ab x s'∧(∀k∈goals,az k=false→aK s'.b k=true)∧∀r∈s'.b.ak,r.ax=s'.b.ad→r.value=valOf ab x.ae r.key:=by
 obtain⟨f,s',h1,h2,h3,h4,h5,h6,h7⟩:=h.lb.req hR hg Wn;obtain⟨g1,g2,g3,g4,g5,g6⟩:=h.bh.request hR h2 h3 h4
 have e:s'.base x=s'.b:=by unfold ES.base;rw [if_pos g1]
 exact⟨f,s',h1,h2,h3,h4,h5,⟨h6,by rw [e];exact g2⟩,h7,g1,e,g3,g5,g6⟩
theorem LC.nil(ab:List aG) (y:dQ) (hr:y.ak=[]) (h0:0≤y.ad) (h1:y.ad≤1073741824) (hG:lK y.ad y.ae) (h6:y.ae.length≤64):LC ab y:=by
 refine⟨LB.nil y hr h0 h1 hG h6,?_⟩;obtain⟨yr,yi,yc⟩:=y
 grind [Bh.new]
end
/-! ### reasons -/
section
variable {ab:List aG}{x y:dQ}{k:Key}{s:ES}
theorem Sc{val:Key→ByteArray}:(gx val x k).1≠0↔OH val x k:=by
 unfold OH
 cases mB:az k || aK x k with
 | true=>
  rw [D5 mB]
  grind
 | false=>
  have ab1:=mB;rw [Bool.or_eq_false_iff] at mB
  cases hf:aC x.ak k with
  | none=>
   rw [OT ab1 hf]
   grind
  | some r=>
   cases hd:r.bU with
   | true=>grind [C5,bC]
   | false=>
    by_cases cZ:∀c∈bP x.ak (aB x.ak x.ad k),Ii val x c=false
    ·
     rw [GS ab1 hf hd fun j c _ hc=>cZ c (List.mem_of_getElem? hc)];refine⟨fun h=>absurd rfl h,?_⟩;rintro⟨_,_,h | h | ⟨m,a,h1,h2,h3,h4⟩⟩
     ·
      cases h
     ·
      grind [bC]
     have:=cZ ⟨m,a⟩ (eH.2 ⟨h1,h2,h3⟩)
     grind [Ii]
    have hex:∃c,c∈bP x.ak (aB x.ak x.ad k)∧Ii val x c=true:=Classical.byContradiction fun hn=>cZ fun c hc=>by grind
    have hw:(gx val x k).1≠0:=by
     unfold gx
     grind
    refine⟨fun _=>⟨mB.1,mB.2,.inr (.inr ?_)⟩,fun _=>hw⟩;obtain⟨c,hc,hcd⟩:=hex;obtain⟨h1,h2,h3⟩:=eH.1 hc;exact⟨c.eR,c.read,h1,h2,h3,by unfold Ii at hcd;exact of_decide_eq_true hcd⟩
end
end Go.Rc

namespace Go.Rc
open Go
structure AO (x:dQ) (l:List Change) (y:dQ):Prop where
 one:∀c,l=[c]→(db x.ae c.key).value≠c.value→x.ad+1≤1073741824→y=⟨x.ad+1,ij ⟨c.key,c.value,x.ad+1⟩ x.ae false,x.ak⟩
 Wp:∀k,db y.ae k=db x.ae k∨(db y.ae k).value≠(db x.ae k).value
structure Mk (x:dQ) (l:List Change) (i:Nat) (ch:Bool) (li:List dB):Prop where
 one:∀c,l=[c]→(i=0∧ch=false∧li=x.ae)∨(i=1∧((db x.ae c.key).value=c.value∨(ch=true∧li=ij ⟨c.key,c.value,x.ad+1⟩ x.ae false)))
 Wp:∀k,db li k=db x.ae k∨(db li k).value≠(db x.ae k).value
section
variable {x:dQ}{l:List Change}{i:Nat}{ch:Bool}{li:List dB}
theorem Mk.start:Mk x l 0 false x.ae:=⟨fun _ _=>.inl ⟨rfl,rfl,rfl⟩,fun _=>.inl rfl⟩
theorem Mk.skip(h:Mk x l i ch li) (hi:i<l.length) {la:Bool}(h1:l.length=i+1→la=true) (g:(!la || decide ((db x.ae l[i].key).value=l[i].value))=true):Mk x l (i+1) ch li:=by
 refine⟨fun c e=>?_,h.Wp⟩;subst e
 have h0:i=0:=by simpa using hi
 subst h0;rw [h1 rfl] at g;exact .inr ⟨rfl,.inl (by simpa using g)⟩
theorem Mk.put(h:Mk x l i ch li) (hi:i<l.length) {la:Bool}(g:(!la || decide ((db x.ae l[i].key).value=l[i].value))=false):Mk x l (i+1) true (ij ⟨l[i].key,l[i].value,x.ad+1⟩ li false):=by
 refine⟨fun c e=>?_,fun k=>?_⟩
 ·
  subst e
  have h0:i=0:=by simpa using hi
  subst h0
  rcases h.one c rfl with⟨_,_,e⟩ | ⟨e,_⟩
  ·
   subst e;exact .inr ⟨rfl,.inr ⟨rfl,rfl⟩⟩
  cases e
 by_cases e:l[i].key=k
 ·
  subst e;have h2:=qH ⟨l[i].key,l[i].value,x.ad+1⟩ li;simp only at h2;rw [h2]
  simp at g
  exact .inr fun e=>g.2 e.symm
 rw [vN e];exact h.Wp k
theorem Mk.same(h:Mk x l i ch li) (hi:l.length≤i) (hc:ch=false):AO x l x:=by
 refine⟨fun c e hv _=>?_,fun _=>.inl rfl⟩;subst e
 rcases h.one c rfl with⟨e,_⟩ | ⟨_,e | ⟨e,_⟩⟩
 ·
  subst e;simp at hi
 ·
  exact absurd e hv
 rw [hc] at e;cases e
theorem Mk.done(h:Mk x l i ch li) (hi:l.length≤i):AO x l ⟨x.ad+1,li,x.ak⟩:=by
 refine⟨fun c e hv _=>?_,h.Wp⟩;subst e
 rcases h.one c rfl with⟨e,_⟩ | ⟨_,e | ⟨_,e⟩⟩
 ·
  subst e;simp at hi
 ·
  exact absurd e hv
 rw [e]
end
end Go.Rc

namespace Go.Rc
open Go
instance:Inhabited Key:=⟨da⟩
theorem Ml{w w':World}(h:aV [] w w'):∃q os,w'=Sort.grow (w.drewN q) os:=by
 refine⟨w'.drawn - w.drawn,w'.heap.extract w.heap.size w'.heap.size,?_⟩;obtain⟨ho,ht,hu,hs,hd,hb⟩:=h
 have hh:w'.heap=w.heap++w'.heap.extract w.heap.size w'.heap.size:=by grind
 have Uq:w'.drawn=w.drawn+(w'.drawn - w.drawn):=by omega
 generalize w'.heap.extract w.heap.size w'.heap.size=os at hh
 generalize w'.drawn - w.drawn=q at Uq
 cases w'
 cases w
 simp only at ho ht hu hh Uq;subst ho ht hu hh Uq
 rfl
section
variable {α:Type} [Inhabited α] {row:α→List Value}{k:Nat}{key:α→Key}
theorem Sd:Sort.SWO (Proofs.ltOf fun x y=>cw (key x) (key y)):=by
 refine⟨fun x=>?_,fun x y z h1 h2=>?_,fun x y z h1 h2=>?_⟩
 ·
  grind [Proofs.ltOf,lh]
 ·
  unfold Proofs.ltOf at *
  rw [decide_eq_true_eq] at *;exact jU h1 h2
 grind [Proofs.ltOf,lj,jU,ph]
theorem D6(hk:∀x,(row x).length=k) (l:List α):(l.map row).flatten.length=l.length*k:=by
 induction l with
 | nil=>simp
 | cons x r ih=>simp only [List.map_cons,List.flatten_cons,List.length_append,List.length_cons,Nat.add_mul,ih,hk];omega
theorem GU(hk:∀x,(row x).length=k) (l:List α) (t:Nat) (ht:t<l.length*k):(l.map row).flatten[t]?=some ((row (l.toArray[t / k]!))[t % k]!):=by
 have h0:0<k:=by rcases Nat.eq_zero_or_pos k with h | h;subst h;omega;exact h
 have hi:t / k<l.length:=(Nat.div_lt_iff_lt_mul h0).2 ht
 have hr:(l.map row)[t / k]?=some (row l[t / k]):=by grind
 have e:t=t / k*k+t % k:=by rw [Nat.mul_comm];exact(Nat.div_add_mod t k).symm
 have h1:(l.toArray[t / k]!)=l[t / k]:=by simp [hi]
 rw [h1];have hm:t % k<k:=Nat.mod_lt _ h0
 have h:=qn (l.map row) k (t / k) _ (fun r hr=>by obtain⟨x,_,rfl⟩:=List.mem_map.1 hr;exact hk x) hr (t % k) ((row l[t / k])[t % k]!) (by
  rw [List.getElem?_eq_getElem (by rw [hk];exact hm),getElem!_pos])
 rw [← e] at h;exact h
theorem Mm(hk:∀x,(row x).length=k) {w:World}{b E:Nat}{cur:Array Value}{l:List α}(hb:w.heap[b]?=some (.cells cur E (0,0))) (ht:cur.toList.take (l.length*k)=(l.map row).flatten):Sort.HoldsK row k w b 0 l.toArray:=by
 unfold Sort.HoldsK
 intro j hj;rw [Sort.size_flatK,List.size_toArray] at hj;have h1:=GU hk l j hj;rw [← ht,List.getElem?_take,if_pos hj,Array.getElem?_toList] at h1;refine⟨?_,?_⟩
 ·
  unfold World.cell?
  simp only [hb,Nat.zero_add]
  grind [Sort.get_flatK]
 grind [World.frozen?]
theorem Se(hk:∀x,(row x).length=k) {w:World}{b E m:Nat}{os:Array Obj}{cur:Array Value}{l l':List α}(hb:w.heap[b]?=some (.cells cur E (0,0))) (ht:cur.toList.take (l.length*k)=(l.map row).flatten) (hl:l'.length=l.length):∃sV:Array Value,(Proofs.sortWorldK row k w b 0 m l'.toArray os).heap[b]?=some (.cells sV E (0,0))∧sV.size=cur.size∧sV.toList.take (l'.length*k)=(l'.map row).flatten:=by
 have ee:b<w.heap.size:=(Array.getElem?_eq_some_iff.1 hb).1;refine⟨Sort.putCells id 0 (Sort.flatK row k l'.toArray) cur,?_,by unfold Sort.putCells;simp,?_⟩
 ·
  unfold Proofs.sortWorldK
  rw [Sort.heap_grow_old _ _ (by grind [Sort.putRowK,Sort.putRow,Sort.mapBlock,Sort.ahead])]
  unfold Sort.putRowK Sort.putRow Sort.mapBlock Sort.ahead
  simp only [Array.getElem?_modify,if_true,hb]
  rfl
 have hlen:l.length*k≤cur.size:=by
  have h1:=congrArg List.length ht;have h2:=D6 hk l
  grind
 apply List.ext_getElem?
 intro t
 by_cases h:t<l'.length*k
 ·
  rw [GU hk l' t h,List.getElem?_take,if_pos h,Array.getElem?_toList]
  unfold Sort.putCells
  rw [hl] at h;rw [Array.getElem?_mapIdx,Array.getElem?_eq_getElem (by omega),Option.map_some];rw [if_pos ⟨Nat.zero_le _,by simp_all⟩,Nat.sub_zero,Sort.get_flatK _ _ _ _ (by rw [List.size_toArray,hl];exact h)]
  rfl
 rw [List.getElem?_eq_none (by rw [List.length_take];omega),List.getElem?_eq_none (by rw [D6 hk];omega)]
theorem OV{w:World}{b m:Nat}{os:Array Obj}{d:Array α}:aV [b] w (Proofs.sortWorldK row k w b 0 m d os):=by
 refine⟨rfl,rfl,rfl,?_,?_,fun k hk hn=>?_⟩
 ·
  unfold Proofs.sortWorldK Sort.grow Sort.putRowK Sort.putRow Sort.mapBlock Sort.ahead
  simp
 ·
  exact Nat.le_add_right _ _
 unfold Proofs.sortWorldK
 rw [Sort.heap_grow_old _ _ (by grind [Sort.putRowK,Sort.putRow,Sort.mapBlock,Sort.ahead])]
 unfold Sort.putRowK Sort.putRow Sort.mapBlock Sort.ahead
 grind
theorem Mn{P:Program}{F g E:Nat}(hk:∀x,(row x).length=k) (h1:∀x,∀v∈row x,v.oneCell'=true) (ab2:∀(blk cap:Nat) (d:Array α) (w:World),Proofs.CmpLays P g #[] row k (fun x y=>cw (key x) (key y)) blk 0 d.size w→Sort.HoldsK row k w blk 0 d→blk<w.heap.size→d.size<4611686018427387904→Calls P F #[.slice (some ⟨blk,0,none⟩) d.size cap,.func (.func g) #[] #[]] w fun e w'=>e=.returned (.tuple #[])∧∃d' n os,Sort.PermIn 0 d.size d d'∧Sort.SortedIn (Proofs.ltOf fun x y=>cw (key x) (key y)) 0 d.size d'∧w'=Proofs.sortWorldK row k w blk 0 n d' os)
  (hcmp:∀(x y:α) (w:World),Calls P g #[.agg (row x).toArray,.agg (row y).toArray] w fun e w'=>e=.returned (.int .i64 (cw (key x) (key y)))∧aV [] w w')
  {l:List α}{a:Option Addr}{n c:Nat}{w:World}{M Z:Nat→Prop}(bJ:St w M Z w [As.os (RR.flat row) E k a n c l]) (h0:l≠[]) (hn:l.length≤1000000):Calls P F #[.slice a n c,.func (.func g) #[] #[]] w fun e w'=>e=.returned (.tuple #[])∧∃l',l'.Perm l∧(l'.Pairwise fun x y=>¬cw (key y) (key x)<0)∧St w M Z w' [As.os (RR.flat row) E k a n c l']:=by
 have ho:=As.gs bJ.g0;obtain⟨l4,rows,Nn,hrk,Ur,hrr⟩:=id ho
 have ab3:rows=l.map row:=by
  apply List.ext_getElem?
  intro i;rw [List.getElem?_map]
  by_cases hi:i<l.length
  ·
   rw [List.getElem?_eq_getElem (by omega),List.getElem?_eq_getElem hi]
   have:=hrr i l[i] rows[i] (List.getElem?_eq_getElem hi) (List.getElem?_eq_getElem (by omega))
   rw [RR.cy this]
   rfl
  grind
 rcases Ur.cases with⟨g1,g2,_⟩ | ⟨b,cur,rfl,Mo,hb,hnc,VM,hcs,ht⟩
 ·
  grind
 rw [ab3,l4] at ht;have Nr:b<w.heap.size:=(Array.getElem?_eq_some_iff.1 hb).1
 have hc:Proofs.CmpLays P g #[] row k (fun x y=>cw (key x) (key y)) b 0 l.toArray.size w:=fun m os dk _ x y=>(hcmp x y _).mono fun e w' ⟨h1,h2⟩=>⟨h1,Ml h2⟩
 have hs:=ab2 b c l.toArray w hc (Mm hk hb ht) Nr (by rw [List.size_toArray];omega);rw [List.size_toArray,← l4] at hs;refine hs.mono ?_;rintro e w' ⟨rfl,d',m,os,⟨Ry,_,hd3⟩,hd4,rfl⟩;rw [l4] at hd3 hd4
 have Ry:d'.size=l.length:=by rw [Ry,List.size_toArray]
 have hd5:d'.toList.Perm l:=by grind [Array.extract_size]
 obtain⟨l',rfl⟩:∃l':List α,d'=l'.toArray:=⟨d'.toList,by simp⟩
 have hl:l'.length=l.length:=by simpa using Ry
 simp only at hd5;obtain⟨sV,g1,g2,g3⟩:=Se hk (m:=m) (os:=os) hb ht hl;refine⟨rfl,l',hd5,?_,?_⟩
 ·
  rw [List.pairwise_iff_getElem];intro i j hi hj hij;have h1:=hd4 i j (Nat.zero_le _) hij (by omega)
  grind [Proofs.ltOf]
 refine bJ.jm (w':=Proofs.sortWorldK row k w b 0 m l'.toArray os) (OV.mono fun x hx=>by simpa [aI] using hx) ?_ (fun x hx=>.inl hx);refine⟨by omega,l'.map row,by simp,fun r hr=>by obtain⟨x,_,rfl⟩:=List.mem_map.1 hr;exact hk x,?_,fun i x r hx hr=>?_⟩
 ·
  refine⟨fun u hu=>?_,?_,.inr ⟨b,c,sV,rfl,Nat.zero_le _,g1,hnc,VM,by rw [g2];exact hcs,by grind⟩⟩
  ·
   obtain⟨r,hr,hu⟩:=List.mem_flatten.1 hu;obtain⟨x,_,rfl⟩:=List.mem_map.1 hr;exact h1 x u hu
  rw [D6 hk]
  grind
 rw [List.getElem?_map,hx] at hr
 cases hr
 rfl
end
end Go.Rc

namespace Go.Rc
open Go
section
variable {w0 w:World}{M Z:Nat→Prop}{l:List As}
end
section
variable {α:Type}{R:RR α}{P:Program}{E k n c b i:Nat}{a:Option Addr}{xs:List α}{Z:Nat→Prop}{w:World}
variable {N:Nat}{kv:KV}{K:KV→World→Prop}{ty:TypeId}{pos:String}{af:Array Edge}{g:Option (Nat × Bool)}{T:TypeId}
end
section
variable {p:Rec→Bool}{xs xs1:List Rec}{i j:Nat}{x:Rec}
end
theorem qC.kr{ab:List aG}{x:dQ}(h:qC ab x):KR ab x.ak:=fun r hr=>by
 obtain⟨h1,h2,h3,_⟩:=h.2.2.2.2.2.1 r hr;exact⟨h1,h2,h3⟩
theorem qC.r4{ab:List aG}{x:dQ}(h:qC ab x):∀r∈x.ak,r.reads.length≤4000:=fun r hr=>by
 obtain⟨_,_,_,h4⟩:=h.2.2.2.2.2.1 r hr
 grind [gI]
section
variable {ab:List aG}{x:dQ}{s:ES}
end
section
variable {ab:List aG}{x y:dQ}{s:ES}{kp:List (List Key)}{l:List Key}
end
end Go.Rc

namespace Go.Rc
open Go
section
variable {ab:List aG}{x y:dQ}{cU:List Key}{k:Key}{r:Rec}
end
end Go.Rc

namespace Go.Rc
open Go
section
variable {val:Key→ByteArray}{x:dQ}{i:Nat}{k:Key}{o:List Key}
noncomputable def l5(val:Key→ByteArray) (x:dQ) (i:Nat):List Key:=((x.ak.take i).filter fun r=>decide ((gx val x r.key).1≠0)).map (·.key)
noncomputable def ku(val:Key→ByteArray) (x:dQ):List Key:=(x.ak.filter fun r=>decide ((gx val x r.key).1≠0)).map (·.key)
theorem GV:l5 val x 0=[]:=rfl
theorem Jh(val:Key→ByteArray) (x:dQ) (i:Nat):(l5 val x i).length≤i:=by grind [l5]
theorem Ji(hi:i<x.ak.length) (h:(gx val x x.ak[i].key).1≠0):l5 val x (i+1)=l5 val x i++[x.ak[i].key]:=by
 unfold l5
 rw [List.take_succ_eq_append_getElem hi,List.filter_append,List.map_append,List.filter_cons,if_pos (decide_eq_true h)]
 rfl
theorem Mp(hi:i<x.ak.length) (h:(gx val x x.ak[i].key).1=0):l5 val x (i+1)=l5 val x i:=by
 unfold l5
 rw [List.take_succ_eq_append_getElem hi,List.filter_append,List.map_append,List.filter_cons,if_neg (by simpa using h)]
 simp
theorem Jj(hi:x.ak.length≤i):l5 val x i=ku val x:=by grind [l5,ku,List.take_of_length_le]
theorem Mq:k∈ku val x↔(∃r∈x.ak,r.key=k)∧(gx val x k).1≠0:=by
 unfold ku
 grind
noncomputable def jv(val:Key→ByteArray) (x:dQ):Nat→Key→List Key→List Key
 | 0,_,o=>o
 | n+1,k,o=>if k=da∨k∈o then o else jv val x n (gx val x k).2 (o++[k])
theorem zS(h:k=da∨k∈o) (n:Nat):jv val x n k o=o:=by
 cases n with
 | zero=>rfl
 | succ n=>unfold jv;rw [if_pos h]
theorem mV(h:¬(k=da∨k∈o)) (n:Nat):jv val x (n+1) k o=jv val x n (gx val x k).2 (o++[k]):=by
 rw [jv,if_neg h]
theorem WM(h:(gx val x k).2≠da):k∈x.ak.map (·.key):=by
 unfold gx at h
 split at h
 ·
  exact absurd rfl h
 split at h
 ·
  exact absurd rfl h
 rename_i r hr
 exact List.mem_map.2 ⟨r,(aX hr).1,(aX hr).2⟩
structure OW (val:Key→ByteArray) (x:dQ) (k0 k:Key) (o:List Key) (n:Nat):Prop where
 mF:o.Nodup
 rcs:k=da∨∀y∈o,y∈x.ak.map (·.key)
 fuel:o.length+n=x.ak.length+1
 eq:jv val x n k o=jv val x (x.ak.length+1) k0 []
theorem OW.start:OW val x k k [] (x.ak.length+1):=⟨.nil,.inr fun y hy=>(by cases hy),by simp,rfl⟩
theorem OW.pos{k0:Key}{n:Nat}(h:OW val x k0 k o n) (hk:k≠da):o.length≤x.ak.length∧0<n:=by
 have h1:=iL h.mF (h.rcs.resolve_left hk)
 grind [fuel]
theorem OW.next{k0:Key}{n:Nat}(h:OW val x k0 k o (n+1)) (hk:k≠da) (ho:k∉o):OW val x k0 (gx val x k).2 (o++[k]) n:=by
 refine⟨?_,?_,by grind [fuel],by rw [← mV (fun e=>e.elim hk ho)];exact h.eq⟩
 ·
  grind [mF]
 by_cases hb:(gx val x k).2=da
 ·
  exact .inl hb
 refine .inr fun y hy=>?_
 rcases List.mem_append.1 hy with hy | hy
 ·
  exact h.rcs.resolve_left hk y hy
 grind [WM]
theorem OW.done{k0:Key}{n:Nat}(h:OW val x k0 k o n) (hs:k=da∨k∈o):o=jv val x (x.ak.length+1) k0 []:=by
 rw [← h.eq,zS hs]
end
end Go.Rc
namespace Go.Rc
open Go
theorem PV.WN{P:Program}{kv:KV}{w:World}{T ty:TypeId}{f off k:Nat}{fs:List Field}{fd:Field}(hu:P.underlying T=some (.struct fs.toArray)) (hf:fs[f]?=some fd) (ho:fd.offset=off) (h1:∀w,(isAgg fd.type).run P w=.ok true w) (h2:∀w,(sizeOf fd.type).run P w=.ok k w)
  {x:Operand}{us vs:List Value}(hx:ev kv x=some (.agg us.toArray)) (hv:(us.drop off).take k=vs):PV P (.field T x f) ty kv w (.agg vs.toArray):=by
 subst ho
 have D2:fs.toArray[f]?=some fd:=by simpa using hf
 refine⟨rfl,by simp [known,opers,hx],fun _ _ _ _=>?_⟩
 simp [execOp,aJ hx,Instr.field,run_underlying hu,D2,part,h1 w,h2 w,asAgg]
 exact hv
end Go.Rc

namespace Go.Rc
open Go
def r3:aG:=⟨false,[],1,3⟩
abbrev K0:Key:=⟨31,itoa ((0:Nat):Int)⟩
abbrev v3:ByteArray:=itoa 3
theorem WO:∀y∈[r3],RN y:=fun y hy=>by simp at hy;subst hy;exact⟨rfl,rfl,rfl,by decide,by decide⟩
theorem ab4:aN [r3] ((0:Nat):Int)=K0:=RN.key (by simp) (by omega) (WO _ (by simp))
theorem Sf:lJ ⟨0,[],[]⟩:=⟨fun i y h=>by simp at h,fun i r h=>by simp at h,by decide,by decide,by simp,by simp,fun i x h=>by simp at h⟩
theorem ab5{ab:List aG}:Good ab [] ⟨⟨0,[],[]⟩,[],[],0⟩:=⟨rfl,by simp,by simp,by simp,by simp,fun k=>.inl rfl⟩
abbrev s1:ES:=⟨⟨0,[],[Wf 0 v3]⟩,[],[K0],0⟩
end Go.Rc
namespace Go.Rc
open Go
abbrev v4:ByteArray:=⟨#[52]⟩
end Go.Rc

namespace Go.Rc
open Go
section
variable {P:Program}{kv:KV}{w:World}{T U ty:TypeId}{x y:Operand}
theorem PV.ah3{p q:Bool}(hT:P.underlying T=some .bool) (hx:ev kv x=some (.bool p)) (hy:ev kv y=some (.bool q)) (h:p=q):PV P (.binOp .neq T x y U) ty kv w (.bool false):=by
 refine⟨rfl,by simp [known,opers,hx,hy],fun _ _ _ _=>?_⟩
 have he:(Op.equalIn 10000 T (.bool p) (.bool q)).run P w=.ok (p == q) w:=by
  rw [show(10000:Nat)=9999+1 from rfl]
  unfold Op.equalIn
  simp [run_underlying hT]
 subst h;simp only [execOp,aJ hx,aJ hy]
 simp [eqGuard,binOp,Op.equal,Op.maxDepth,he]
end
end Go.Rc
namespace Go.Rc
open Go
end Go.Rc

namespace Go.Rc
open Go
theorem Mg{v:ByteArray}:∀k∈[K0],∃i:Nat,i < [r3].length∧k=aN [r3] (i:Int)∧(aC (⟨0,[],[Wf 0 v]⟩:dQ).ak k).isSome=true:=fun k hk=>⟨0,by simp,by rw [List.mem_singleton.1 hk];exact ab4.symm,by grind [aC,Wf]⟩
end Go.Rc

namespace Go.Rc
open Go
abbrev q0:aG:=⟨false,[⟨true,false,0,0⟩],1,0⟩
abbrev q1:aG:=⟨false,[⟨false,false,0,0⟩],1,0⟩
abbrev Q2:List aG:=[q0,q1]
abbrev K1:Key:=⟨31,itoa ((1:Nat):Int)⟩
abbrev C0:Key:=du ((0:Nat):Int)
theorem KZ:C0=⟨30,⟨#[48]⟩⟩:=by simp [du,itoa,Lib.itoa,Lib.decDigits]
theorem zT:K0=⟨31,⟨#[48]⟩⟩:=by simp [itoa,Lib.itoa,Lib.decDigits]
theorem C6:K1=⟨31,⟨#[49]⟩⟩:=by simp [itoa,Lib.itoa,Lib.decDigits]
theorem ss:aw Q2:=by
 refine⟨by simp,fun i r h=>?_⟩
 have hi:i=0∨i=1:=by have:=(List.getElem?_eq_some_iff.1 h).1;simp at this;omega
 rcases hi with rfl | rfl
 ·
  simp at h;subst h
  refine⟨by simp,fun k x hx=>?_,rfl⟩
  have hk:k=0:=by have:=(List.getElem?_eq_some_iff.1 hx).1;simp at this;omega
  subst hk;simp at hx;subst hx;decide
 simp at h;subst h
 refine⟨by simp,fun k x hx=>?_,rfl⟩
 have hk:k=0:=by have:=(List.getElem?_eq_some_iff.1 hx).1;simp at this;omega
 subst hk;simp at hx;subst hx;decide
theorem C7:aN Q2 ((0:Nat):Int)=K0:=by
 unfold aN
 rw [if_neg (by simp)]
 simp [aD]
theorem zU:aN Q2 ((1:Nat):Int)=K1:=by
 unfold aN
 rw [if_neg (by simp)]
 simp [aD]
theorem D7:number K0=((0:Nat):Int):=by rw [← C7];exact dy (by simp) (by omega)
theorem zV:number K1=((1:Nat):Int):=by rw [← zU];exact dy (by simp) (by omega)
theorem WQ:gA Q2 K0:=by rw [← C7];exact .gQ (by simp) (by omega)
theorem OY:gA Q2 K1:=by rw [← zU];exact .gQ (by simp) (by omega)
theorem OZ:jt Q2 K1=true:=by
 have h:=zU
 simp [jt,gO,zV] at h ⊢
 exact h
theorem WR:ia Q2 ⟨0,[],[]⟩ [K1]=0:=by
 unfold ia
 rw [if_neg (fun h=>h ss),if_neg (fun h=>h Sf),if_neg (by simp),if_pos (by simp [OZ])]
theorem t0a:dw Q2 K0 []=⟨false,⟨#[]⟩,C0⟩:=by
 rw [oF (i:=0) D7 (by simp) (by rw [D7];exact C7) (by simp)]
 rfl
theorem t0b(v:ByteArray):dw Q2 K0 [v]=⟨true,itoa (eZ 1 0 [dH v]),da⟩:=by
 rw [oE (i:=0) D7 (by simp) (by rw [D7];exact C7) (by simp)]
 rfl
theorem t1a:dw Q2 K1 []=⟨false,⟨#[]⟩,K0⟩:=by
 rw [oF (i:=1) zV (by simp) (by rw [zV];exact zU) (by simp)];rw [← C7];rfl
theorem t1b(v:ByteArray):dw Q2 K1 [v]=⟨true,itoa (eZ 1 0 [dH v]),da⟩:=by
 rw [oE (i:=1) zV (by simp) (by rw [zV];exact zU) (by simp)]
 rfl
abbrev z0:ByteArray:=⟨#[48]⟩
abbrev z5:ByteArray:=⟨#[53]⟩
theorem it0:itoa ((0:Nat):Int)=z0:=by simp [itoa,Lib.itoa,Lib.decDigits]
theorem it5:itoa ((5:Nat):Int)=z5:=by simp [itoa,Lib.itoa,Lib.decDigits]
theorem fv(v:ByteArray) (n:Nat) (h:dH v=n) (hn:n<1000):itoa (eZ 1 0 [dH v])=itoa n:=by
 rw [h];simp [eZ,xT,Nat.mod_eq_of_lt hn]
theorem vs0:dH z0=0:=by decide
theorem vs5:dH z5=5:=by decide
theorem vsE:dH ⟨#[]⟩=0:=by decide
theorem ab6{aF:List dB}{n:Nat}(h:dH (cellOf aF C0)=n) (hn:n<1000):valOf Q2 aF K0=itoa n:=by
 have e:=jd (aF:=aF) ss (i:=0) (by simp);rw [show dV Q2 0=1 from rfl,C7] at e;simp only [gh,List.nil_append] at e;rw [t0a,t0b,Gt (by omega),fv _ n h hn] at e
 injection e with _ e2 _
 exact e2.symm
abbrev lN(i:Nat) (a:Key):Rec:=⟨⟨31,itoa (i:Int)⟩,z0,[a],0,0,2,false⟩
abbrev bQ:dQ:=⟨0,[],[lN 0 C0,lN 1 K0]⟩
abbrev sQ:ES:=⟨bQ,[],[K0,K1],0⟩
theorem u0a:aM Q2 K0 []=⟨false,⟨#[]⟩,C0⟩:=by unfold aM;rw [if_pos (.inl rfl)];exact t0a
theorem u0b:aM Q2 K0 [⟨#[]⟩]=⟨true,z0,da⟩:=by unfold aM;rw [if_pos (.inl rfl),t0b,fv _ 0 vsE (by omega),it0]
theorem u1a:aM Q2 K1 []=⟨false,⟨#[]⟩,K0⟩:=by unfold aM;rw [if_pos (.inl rfl)];exact t1a
theorem u1b:aM Q2 K1 [z0]=⟨true,z0,da⟩:=by unfold aM;rw [if_pos (.inl rfl),t1b,fv _ 0 vs0 (by omega),it0]
theorem Sg:az C0=true:=cE (n:=0) (by omega)
theorem Sh:az K0=false:=rfl
theorem ah4:az K1=false:=rfl
theorem WS:(K0 == K1)=false:=by rw [zT,C6];decide
theorem ah5:(K1 == K0)=false:=by rw [zT,C6];decide
theorem kpC(val:Key→ByteArray):dC val ⟨0,[],[]⟩ C0=⟨#[]⟩:=by
 unfold dC uw
 rw [if_neg (by rw [KZ];decide),if_pos Sg]
 rfl
theorem fQ0:aC [lN 0 C0] K0=some (lN 0 C0):=by simp [aC]
theorem kpK(val:Key→ByteArray):dC val ⟨0,[],[lN 0 C0]⟩ K0=z0:=by
 have h:nV ⟨0,[],[lN 0 C0]⟩ K0=true:=by unfold nV;rw [Sh,fQ0,bC fQ0];rfl
 unfold dC uw
 rw [if_neg (by rw [zT];decide),if_neg (by rw [Sh];simp),if_pos h,bC fQ0]
theorem ah7:dK ⟨0,[],[]⟩ K0 z0 [C0]=lN 0 C0:=rfl
theorem ah8:dK ⟨0,[],[lN 0 C0]⟩ K1 z0 [K0]=lN 1 K0:=by
 have h:aC [lN 0 C0] K1=none:=by simp only [aC,List.find?_cons];rw [show((lN 0 C0).key == K1)=false from WS];rfl
 unfold dK
 simp only [h]
 rfl
theorem ah9:fR [] (lN 0 C0)=[lN 0 C0]:=rfl
theorem aia:fR [lN 0 C0] (lN 1 K0)=[lN 0 C0,lN 1 K0]:=by
 have h:cw K0 K1 = -1:=by rw [zT,C6];decide
 unfold fR
 simp only [gg,h]
 rfl
section
variable {ab:List aG}{val:Key→ByteArray}{k c:Key}{z u:ByteArray}{s s':ES}{rs:List Key}{an:List ByteArray}{f:Nat}
theorem K2(h0:s.e=0) (a1:aM ab k an=⟨false,⟨#[]⟩,c⟩) (hu:mc ab val f s c=some s') (h1:s'.e=0) (e:dC val s'.b c=u):ib ab val (f+1) s k rs an=ib ab val f s' k (rs++[c]) (an++[u]):=by
 rw [ib,if_neg (by rw [h0];simp),a1,if_neg (by simp),hu,Option.bind_some,if_pos h1,e]
theorem K3(h0:s.e=0) (a1:aM ab k an=⟨true,z,da⟩) (hn:s.b.ak.length<4000) {r:Rec}{l:List Rec}(m:dK s.b k z rs=r) (p:fR s.b.ak r=l):ib ab val (f+1) s k rs an=some {s with b:={s.b with ak:=l},cU:=s.cU++[k]}:=by
 rw [ib,if_neg (by rw [h0];simp),a1,if_pos rfl,if_neg (by simp;omega),m,p]
theorem WT(h:az k=true):mc ab val (f+1) s k=some s:=by rw [mc,if_pos (.inr h)]
theorem O0(h0:s.e=0) (hi:az k=false) (hf:aC s.b.ak k=none) (ho:s.on k=false) (hr:ib ab val (f+1) {s with busy:=dF s.busy k (.bool true)} k [] []=some s'):mc ab val (f+2) s k=some {s' with busy:=jP s'.busy k}:=by
 have mB:aK s.b k=false:=by unfold aK;rw [hf];rfl
 rw [mc,if_neg (by rw [h0,hi];simp),if_neg (by rw [mB];simp),if_neg (by rw [ho];simp),dI,if_neg (by simp [h0]),if_pos (by simp [hf]),Option.bind_some,if_pos rfl,hr,Option.bind_some]
end
theorem aib{ab:List aG}{val:Key→ByteArray}{k0 k1 c:Key}{z u:ByteArray}{r0 r1:Rec}(a1:aM ab k0 []=⟨false,⟨#[]⟩,c⟩) (a2:aM ab k0 [u]=⟨true,z,da⟩) (a3:aM ab k1 []=⟨false,⟨#[]⟩,k0⟩) (a4:aM ab k1 [z]=⟨true,z,da⟩)
  (i0:az c=true) (i1:az k0=false) (i2:az k1=false) (e1:dC val ⟨0,[],[]⟩ c=u) (e2:dC val ⟨0,[],[r0]⟩ k0=z) (m0:dK ⟨0,[],[]⟩ k0 z [c]=r0) (m1:dK ⟨0,[],[r0]⟩ k1 z [k0]=r1)
  (p0:fR [] r0=[r0]) (p1:fR [r0] r1=[r0,r1]) (f1:aC [r0] k1=none) (nk:¬k1=k0):eD ab val 10 ⟨⟨0,[],[]⟩,[],[],0⟩ [k1]=some ⟨⟨0,[],[r0,r1]⟩,[],[k0,k1],0⟩:=by
 have h0:mc ab val 8 ⟨⟨0,[],[]⟩,[(k1,.bool true)],[],0⟩ k0=some ⟨⟨0,[],[r0]⟩,[(k1,.bool true)],[k0],0⟩:=by
  have h:=(K2 (rs:=[]) (an:=[]) (s:=⟨⟨0,[],[]⟩,dF [(k1,.bool true)] k0 (.bool true),[],0⟩) (f:=6) rfl a1 (WT i0) rfl e1).trans (K3 rfl a2 (by simp) m0 p0);rw [O0 (f:=6) (s':=_) rfl i1 rfl (by simp [ES.on,bZ,nk]) h]
  simp [dF,jP,nk]
 have h1:mc ab val 10 ⟨⟨0,[],[]⟩,[],[],0⟩ k1=some ⟨⟨0,[],[r0,r1]⟩,[],[k0,k1],0⟩:=by
  have h:=(K2 (rs:=[]) (an:=[]) (s:=⟨⟨0,[],[]⟩,[(k1,.bool true)],[],0⟩) (f:=8) rfl a3 h0 rfl e2).trans (K3 rfl a4 (by simp) m1 p1);rw [O0 (f:=8) (s':=_) rfl i2 rfl rfl h]
  simp [jP]
 simp only [eD,h1,Option.bind_some]
theorem ab7(val:Key→ByteArray):eD Q2 val 10 ⟨⟨0,[],[]⟩,[],[],0⟩ [K1]=some sQ:=
 aib u0a u0b u1a u1b Sg Sh ah4 (kpC val) (kpK val) ah7 ah8 ah9 aia (by simp only [aC,List.find?_cons];rw [show((lN 0 C0).key == K1)=false from WS];rfl) (by have:=ah5;simpa using this)
end Go.Rc

namespace Go.Rc
open Go
section
variable {val:Key→ByteArray}{x:dQ}{k a:Key}{r:Rec}
theorem GW(hc:aA k=false) (hi:az k=false) (hf:aC x.ak k=some r) (hd:r.bU=false) (hr:r.reads=[a]) (ha:a≠k) (hv:r.ax≠x.ad) (ee:r.ax<bp val x a):gx val x k=(2,a):=by
 have hu:aK x k=false:=by unfold aK;rw [hf,bC hf];simp [hv]
 have pU:bP x.ak (aB x.ak x.ad k)=[⟨k,a⟩]:=by
  rw [nI hc]
  simp [bP,dZ,bC hf,hr,ha]
 unfold gx
 rw [hi,hu,hf,pU]
 have Us:Ii val x ⟨k,a⟩=true:=by unfold Ii;rw [bC hf];exact decide_eq_true ee
 simp [hd,Us]
end
abbrev iQ:List dB:=[⟨C0,z5,1⟩]
abbrev yQ:dQ:=⟨1,iQ,[lN 0 C0,lN 1 K0]⟩
theorem nC0:C0≠da:=by rw [KZ];decide
theorem nK0:K0≠da:=by rw [zT];decide
theorem nK1:K1≠da:=by rw [C6];decide
theorem ab8:C0≠K0:=by rw [KZ,zT];decide
theorem aic:C0≠K1:=by rw [KZ,C6];decide
theorem ab9:K0≠K1:=by rw [zT,C6];decide
theorem fC:db iQ C0=⟨C0,z5,1⟩:=by unfold db;rw [List.find?_cons];simp
theorem v0:valOf Q2 iQ K0=z5:=by rw [ab6 (n:=5) (by unfold cellOf;rw [fC];exact vs5) (by omega),it5]
theorem f0:aC yQ.ak K0=some (lN 0 C0):=by simp [aC]
theorem f1:aC yQ.ak K1=some (lN 1 K0):=by simp only [aC,List.find?_cons];rw [show((lN 0 C0).key == K1)=false from WS,show((lN 1 K0).key == K1)=true from beq_self_eq_true K1]
theorem cC:bp (valOf Q2 iQ) yQ C0=1:=by unfold bp;rw [if_pos Sg,fC]
theorem cK:bp (valOf Q2 iQ) yQ K0=1:=by
 unfold bp
 rw [if_neg (by rw [Sh];simp),if_neg];rw [bC f0,v0]
 simp
theorem aca:gx (valOf Q2 iQ) yQ K1=(2,K0):=GW rfl rfl f1 rfl rfl ab9 (by decide) (by rw [cK];decide)
theorem WV:gx (valOf Q2 iQ) yQ K0=(2,C0):=GW rfl rfl f0 rfl rfl ab8 (by decide) (by rw [cC];decide)
theorem aid:gx (valOf Q2 iQ) yQ C0=(0,da):=D5 (by rw [Sg];rfl)
theorem WW:jv (valOf Q2 iQ) yQ (yQ.ak.length+1) K1 []=[K1,K0,C0]:=by
 show jv _ _ 3 _ _=_
 rw [mV (by simp [nK1]),aca]
 show jv _ _ 2 K0 [K1]=_
 rw [mV (fun e=>e.elim nK0 fun h=>ab9 (List.mem_singleton.1 h)),WV]
 show jv _ _ 1 C0 [K1,K0]=_
 rw [mV (fun e=>e.elim nC0 fun h=>by(rcases List.mem_cons.1 h with h | h;exact aic h;exact ab8 (List.mem_singleton.1 h))),aid]
 rfl
theorem Si:ku (valOf Q2 iQ) yQ=[K0,K1]:=by
 unfold ku
 rw [List.filter_cons,if_pos (by rw [show(lN 0 C0).key=K0 from rfl,WV];rfl),List.filter_cons,if_pos (by rw [show(lN 1 K0).key=K1 from rfl,aca];rfl)]
 rfl
theorem aoQ{y:dQ}(h:AO bQ [⟨C0,z5⟩] y):y=yQ:=h.one _ rfl (by decide) (by decide)
theorem lcQ:LC Q2 bQ:=by
 obtain⟨f,s',_,_,_,h4,_,h6,_⟩:=(LC.nil Q2 ⟨0,[],[]⟩ rfl (by decide) (by decide) (lK.nil _) (by simp)).req ss (goals:=[K1]) (fun k hk=>.inr ⟨1,by simp,by rw [List.mem_singleton.1 hk];exact zU.symm⟩) (by simp);have e:=(pn (Nat.le_max_left f 10) h4).symm.trans (pn (Nat.le_max_right f 10) (ab7 _));have e2:s'=sQ:=Option.some.inj e;subst e2;exact h6
theorem smQ:∀c∈[(⟨C0,z5⟩:Change)],c.small:=fun c hc=>by
 rw [List.mem_singleton.1 hc];exact⟨⟨0,by omega,by omega,rfl⟩,by decide⟩
theorem Sj:sQ.base ⟨0,[],[]⟩=bQ:=rfl
end Go.Rc

