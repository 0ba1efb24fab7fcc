/- Base of the proof: frames, memory, ownership, and the plain meaning of rule systems. Conditions: as each lemma says. -/
import Derived.Test.YtfamnpoplgkkcaaGreatDoorOBg
import Derived.Test.YtfamnpoplgkkcaaGreatDoorOBf
import Derived.Shelf.SlSortCmp.WholeK
set_option linter.all false
namespace Go.Rc
open Go
def fS(l:List bm) (b:cy) (a:Key):Prop:=ay a=true∨(fY l a=true∧ax a=true)∨aA b a=true
section
variable {x b b':cy}{l l' p q:List bm}{f g:bm}{k a:Key}
theorem gP:cE x l k=false↔ay k=true∨fY l k=true∨aA x k=true:=by
 unfold cE aA
 grind
theorem iy:bG x l [] k=if (!ax k && fY l k)=true then 3 else if cE x l k=true then 1 else 0:=by grind [bG,fY]
theorem pf(h1:bG x l [] k≠1) (m:bG x l [] k≠3):fS l x k:=by
 rw [iy] at h1 m
 by_cases j:(!ax k && fY l k)=true
 ·
  grind
 rw [if_neg j] at h1
 by_cases hn:cE x l k=true
 ·
  grind
 rcases gP.1 (by simpa using hn) with h | h | h
 ·
  exact .inl h
 ·
  exact .inr (.inl ⟨h,by rw [h] at j;simpa using j⟩)
 exact .inr (.inr h)
theorem uP(h:bG x l [] k=1):fY l k=false∧ay k=false∧aA x k=false:=by
 rw [iy] at h
 by_cases j:(!ax k && fY l k)=true
 ·
  rw [if_pos j] at h;cases h
 rw [if_neg j] at h
 by_cases hn:cE x l k=true
 ·
  have m:¬(ay k=true∨fY l k=true∨aA x k=true):=fun h=>by grind [gP]
  grind
 rw [if_neg hn] at h;cases h
theorem Em(h:bG x l [] k=3):ax k=false∧fY l k=true:=by
 rw [iy] at h
 grind
theorem fG:fY (p++q) k=(fY p k || fY q k):=by simp [fY]
theorem kK:fY [f] k=decide (f.key=k):=by simp [fY]
theorem En{z:bm}{p1:List bm}(h:p++[z]=p1++g::q):(q=[]∧p1=p∧g=z)∨∃j,q=j++[z]∧p=p1++g::j:=by
 rcases List.eq_nil_or_concat q with rfl | ⟨j,y,rfl⟩
 ·
  simp_all
 rw [List.concat_eq_append,← List.cons_append,← List.append_assoc] at h;obtain⟨h1,m⟩:=List.append_inj' h rfl
 grind
end
inductive FS (aa:List aG) (val:Key→ByteArray) (b:cy) (p:List bm) (f:bm):cy→List bm→List Key→Int→Prop where
 | stay:FS aa val b p f b (p++[f]) [] 0
 | full:f.running=true→(aH aa f.key f.ae).done=true→(!(az b.ah f.key).isSome && decide (4000≤b.ah.length))=true→FS aa val b p f b (p++[f]) [] 45
 | put:f.running=true→(aH aa f.key f.ae).done=true→FS aa val b p f {b with ah:=ey b.ah (bJ b f.key (aH aa f.key f.ae).value f.reads)} p [f.key] 0
 | push:f.running=true→(aH aa f.key f.ae).done=false→bG b (p++[f]) [] (aH aa f.key f.ae).ask=1→FS aa val b p f b (p++[f]++[⟨(aH aa f.key f.ae).ask,false,0,[],[]⟩]) [] 0
 | QG:f.running=true→(aH aa f.key f.ae).done=false→bG b (p++[f]) [] (aH aa f.key f.ae).ask=3→FS aa val b p f b (p++[f]) [] 43
 | read:f.running=true→(aH aa f.key f.ae).done=false→bG b (p++[f]) [] (aH aa f.key f.ae).ask≠1→bG b (p++[f]) [] (aH aa f.key f.ae).ask≠3→
   FS aa val b p f b (p++[{f with reads:=f.reads++[(aH aa f.key f.ae).ask],ae:=f.ae++[bO val b (aH aa f.key f.ae).ask]}]) [] 0
 | up:f.running=false→aA b f.key=true→FS aa val b p f b p [] 0
 | start:f.running=false→aA b f.key=false→(az b.ah f.key=none∨(aC b.ah f.key).bu=true)→FS aa val b p f b (p++[{f with running:=true,at_:=0}]) [] 0
 | mark:f.running=false→Live b.ah b.ad f.key→(bT b.ah (aB b.ah b.ad f.key)).length≤f.at_.toNat→FS aa val b p f (cH b (aB b.ah b.ad f.key) false) p [] 0
 | uQ (c:od):f.running=false→Live b.ah b.ad f.key→(bT b.ah (aB b.ah b.ad f.key))[f.at_.toNat]?=some c→bG b (p++[f]) [] c.read=1→FS aa val b p f b (p++[f]++[⟨c.read,false,0,[],[]⟩]) [] 0
 | Mq (c:od):f.running=false→Live b.ah b.ad f.key→(bT b.ah (aB b.ah b.ad f.key))[f.at_.toNat]?=some c→bG b (p++[f]) [] c.read=3→FS aa val b p f b (p++[f]) [] 43
 | pass (c:od):f.running=false→Live b.ah b.ad f.key→(bT b.ah (aB b.ah b.ad f.key))[f.at_.toNat]?=some c→bG b (p++[f]) [] c.read≠1→bG b (p++[f]) [] c.read≠3→
   aV val b c.read≤(aC b.ah c.dP).av→FS aa val b p f b (p++[{f with at_:=f.at_+1}]) [] 0
 | fail (c:od):f.running=false→Live b.ah b.ad f.key→(bT b.ah (aB b.ah b.ad f.key))[f.at_.toNat]?=some c→bG b (p++[f]) [] c.read≠1→bG b (p++[f]) [] c.read≠3→
   (aC b.ah c.dP).av<aV val b c.read→FS aa val b p f (if ax f.key then cH b (aB b.ah b.ad f.key) true else b) (p++[{f with running:=true,at_:=0}]) [] 0
section
variable {aa:List aG}{H:Int→List cv}{b0 b b':cy}{p q l l':List bm}{f g:bm}{bf:List Key}
structure FI (aa:List aG) (H:Int→List cv) (b0 b:cy) (p:List bm) (f:bm):Prop where
 key:∃i:Nat,i<aa.length∧f.key=aM aa (i:Int)
 new:fY p f.key=false
 low:∀i j:Nat,i<aa.length→j<aa.length→f.key=aM aa (i:Int)→fY p (aM aa (j:Int))=true→Lw aa i (nj aa j)
 run:f.running=true→bU b.ah b.ad f.key=false∧aA b f.key=false∧Hn (valOf aa b0.ab) b0 f.key∧(∀i:Nat,i<aa.length→f.key=aM aa (i:Int)→∃n,n≤cN aa i∧f.reads=(dW (cq aa f.key) (valOf aa b0.ab) n).1∧f.ae=(dW (cq aa f.key) (valOf aa b0.ab) n).2)∧∀a∈f.reads,fS (p++[f]) b a
 Ds:f.running=false→f.reads=[]∧f.ae=[]∧0≤f.at_∧(Live b.ah b.ad f.key→∀j c,j<f.at_.toNat→(bT b.ah (aB b.ah b.ad f.key))[j]?=some c→valOf aa (H (aC b.ah c.dP).av) c.read=valOf aa b0.ab c.read∧fS (p++[f]) b c.read∧aV (valOf aa b0.ab) b0 c.read≤(aC b.ah c.dP).av)
structure TI (aa:List aG) (H:Int→List cv) (b0 b:cy) (l:List bm) (bf:List Key):Prop where
 bi:Bi aa H (fun y=>fY l y && ax y) b
 wy:Wy aa b0 ⟨b,[],bf,0⟩
 fr:∀p f q,l=p++f::q→FI aa H b0 b p f
 nr:∀f∈l,f.key∉bf∧aA b0 f.key=false
theorem fS.jt{N:Key→Prop}{a:Key}(h:fS l b a) (j:iS (valOf aa b0.ab) N bf b.ad b.ah b'.ah) (hr:b'.ad=b.ad):fS l b' a:=
 h.imp id (Or.imp id (j.aA hr))
theorem fS.mono{a:Key}(h:fS l b a) (j:∀k,fY l k=true→fY l' k=true):fS l' b a:=h.imp id (Or.imp (fun⟨x,y⟩=>⟨j _ x,y⟩) id)
theorem FI.jt{N:Key→Prop}(h:FI aa H b0 b p g) (m:iS (valOf aa b0.ab) N bf b.ad b.ah b'.ah) (hr:b'.ad=b.ad) (B:¬N g.key):FI aa H b0 b' p g:=by
 refine⟨h.key,h.new,h.low,fun o=>?_,fun o=>?_⟩
 ·
  obtain⟨h1,A,t,u,C⟩:=h.run o
  have F:az b'.ah g.key=az b.ah g.key:=by
   rcases m.pt g.key with e | ⟨e0,r,e1,e2,e3,_⟩ | ⟨⟨_,e0⟩,_⟩
   ·
    exact e
   ·
    grind [bS]
   exact absurd e0 B
  refine⟨?_,?_,t,u,fun a D=>(C a D).jt m hr⟩
  ·
   grind [bU,aC]
  grind [aA,aC]
 obtain⟨h1,A,t,u⟩:=h.Ds o;refine⟨h1,A,t,fun hl j c E hc=>?_⟩;rw [hr] at hl hc;rw [m.Jv hl] at hc;obtain⟨p1,p2,p3⟩:=u (m.OC hl) j c E hc;have hm:=(dH.1 (List.mem_of_getElem? hc)).1
 have e:aC b'.ah c.dP=aC b.ah c.dP:=by
  unfold aC
  rw [(m.group hl).2 _ hm]
 rw [e];exact⟨p1,p2.jt m hr,p3⟩
theorem TI.top(h:TI aa H b0 b (p++[f]) bf):FI aa H b0 b p f:=h.fr p f [] rfl
theorem TI.under(h:TI aa H b0 b (p++[f]) bf) {p1:List bm}(j:p=p1++g::q):FI aa H b0 b p1 g∧g.key≠f.key:=by
 refine⟨h.fr p1 g (q++[f]) (by rw [j];simp),fun e=>?_⟩;have h1:=h.top.new
 grind [fY]
theorem TI.snoc(h:∀p1 g q,p=p1++g::q→FI aa H b0 b p1 g) (j:FI aa H b0 b p f):∀p1 g q,p++[f]=p1++g::q→FI aa H b0 b p1 g:=fun p1 g q m=>by grind [En]
theorem lY(J:aq aa) {rk:List Key}{er:Int}(h:TI aa H b0 b (p++[f]) bf) (R:Good aa b0.ab ⟨b,[],[],0⟩) (hs:FS aa (valOf aa b0.ab) b p f b' l' rk er):er=0∧TI aa H b0 b' l' (bf++rk):=by
 have Ik:=J.len;have E:=h.bi;have o:=h.wy;have VJ:b.ad=b0.ad:=o.rev;have eJ:b.ab=b0.ab:=o.aD;have hT:=h.top;obtain⟨i,hi,B⟩:=hT.key
 have yC:ay f.key=false:=by grind [dr]
 have hor:∀j:Nat,j<aa.length→fY (p++[f]) (aM aa (j:Int))=true→j=i∨Lw aa i (nj aa j):=fun j u N=>by
  rw [fG,kK] at N;simp only [Bool.or_eq_true,decide_eq_true_eq] at N
  rcases N with N | N
  ·
   exact .inr (hT.low i j hi u B N)
  grind [dX]
 have QS:∀{b2:cy}{C:List Key},iS (valOf aa b0.ab) (fun y=>y=f.key) C b.ad b.ah b2.ah→(∀y∈bf,y∈C)→b2.ad=b.ad→b2.ab=b.ab→(∀y r,az b2.ah y=some r→r.bu=true→(aC b0.ah y).bu=true∨Mo (valOf aa b0.ab) b0 y)→(∀y∈C,Hn (valOf aa b0.ab) b0 y)→(∀y∈C,y∈bf∨aA b2 y=true)→(∀y,aA b y=false→aA b2 y=true→y∈C∨¬Mo (valOf aa b0.ab) b0 y)→C.Nodup→Wy aa b0 ⟨b2,[],C,0⟩:=fun F Eo h1 A O G X h6 h7=>
  o.step h1 A (by rw [← VJ];exact F.mono (fun _ h=>h) fun _ _=>trivial) Eo O G X h6 h7
 -- a frame is acr
 have VK:∀a,eG aa a→bG b (p++[f]) [] a=1→(∀m:Nat,m<aa.length→a=aM aa (m:Int)→∀j:Nat,j<aa.length→fY (p++[f]) (aM aa (j:Int))=true→Lw aa m (nj aa j))→TI aa H b0 b (p++[f]++[⟨a,false,0,[],[]⟩]) bf:=fun a Iq hl BP=>by
  obtain⟨h1,A,O⟩:=uP hl;obtain⟨m,hm,ham,_⟩:=Iq.gF A;refine⟨E.Mn fun y t=>?_,o,TI.snoc h.fr ⟨⟨m,hm,ham⟩,h1,fun m' j hm' u e N=>BP m' hm' e j u N,(fun hc=>by cases hc),fun _=>⟨rfl,rfl,Int.le_refl _,fun _ j c u=>by simp at u⟩⟩,fun g R=>?_⟩
  rotate_left
  ·
   rcases List.mem_append.1 R with R | R
   ·
    exact h.nr g R
   rw [List.mem_singleton] at R;subst R;refine⟨fun hr=>?_,o.uL O⟩
   have:=o.Jw a hr
   grind
  rw [Bool.and_eq_true] at t ⊢;rw [fG,t.1];exact⟨rfl,t.2⟩
 -- the last frame is aa0 one of the same key
 have uO:∀{g:bm}{b2:cy}{C:List Key},g.key=f.key→Bi aa H (fun y=>fY (p++[f]) y && ax y) b2→Wy aa b0 ⟨b2,[],C,0⟩→iS (valOf aa b0.ab) (fun y=>y=f.key) C b.ad b.ah b2.ah→b2.ad=b.ad→(∀y∈C,y∈bf)→FI aa H b0 b2 p g→TI aa H b0 b2 (p++[g]) C:=fun {g b2 C} hk Q VL F hr Eo hF=>by
  refine⟨?_,VL,TI.snoc (fun p1 g q Y=>?_) hF,fun q S=>?_⟩
  ·
   have e:(fun y=>fY (p++[g]) y && ax y)=fun y=>fY (p++[f]) y && ax y:=by
    funext y
    grind [fG,kK]
   rw [e];exact Q
  ·
   obtain⟨h1,A⟩:=h.under Y;exact h1.jt F hr A
  rcases List.mem_append.1 S with S | S
  ·
   have:=h.nr q (List.mem_append_left _ S)
   grind
  rw [List.mem_singleton] at S;subst S
  have:=h.nr f (by simp)
  grind
 have Mr:∀{g:bm},g.key=f.key→∀k,fY (p++[f]) k=true→fY (p++[g]) k=true:=fun hk k Gn=>by grind [fG,kK]
 -- the last frame is done
 have QT:∀{b2:cy}{C:List Key},Bi aa H (fun y=>fY (p++[f]) y && ax y) b2→aA b2 f.key=true→Wy aa b0 ⟨b2,[],C,0⟩→iS (valOf aa b0.ab) (fun y=>y=f.key) C b.ad b.ah b2.ah→b2.ad=b.ad→(∀y∈C,y∈bf∨y=f.key)→TI aa H b0 b2 p C:=fun {b2 C} Q hu VL F hr Eo=>by
  refine⟨Q.off hu fun y t=>?_,VL,fun p1 g q Y=>?_,fun g R=>?_⟩
  ·
   rw [Bool.and_eq_true,fG,kK] at t
   grind
  ·
   obtain⟨h1,A⟩:=h.under Y;exact h1.jt F hr A
  have h1:=h.nr g (List.mem_append_left _ R);refine⟨fun O=>?_,h1.2⟩
  rcases Eo _ O with G | G
  ·
   exact h1.1 G
  obtain⟨p1,q1,Y⟩:=List.append_of_mem R;exact(h.under Y).2 G
 have JA:∀n,f.ae=(dW (cq aa f.key) (valOf aa b0.ab) n).2→aH aa f.key f.ae=cq aa (aM aa (i:Int)) (Hk aa b0.ab i n):=fun n hn=>by
  rw [hn,B,eY hi (by omega)]
  rfl
 have acs:∀{y},fY (p++[f]) y=true→∃j:Nat,j<aa.length∧y=aM aa (j:Int):=fun {y} t=>by
  rw [fG,kK] at t;simp only [Bool.or_eq_true,decide_eq_true_eq] at t
  rcases t with t | t
  ·
   unfold fY at t
   obtain⟨g,Qr,Du⟩:=List.any_eq_true.1 t;obtain⟨p1,q1,Y⟩:=List.append_of_mem Qr;obtain⟨j,u,e⟩:=(h.under Y).1.key
   grind
  grind
 have al6:∀a,(∀m:Nat,m<aa.length→a=aM aa (m:Int)→∀j:Nat,j<aa.length→fY (p++[f]) (aM aa (j:Int))=true→Lw aa m (nj aa j))→bG b (p++[f]) [] a≠3:=fun a BP hl=>by
  obtain⟨h1,A⟩:=Em hl;obtain⟨j,u,rfl⟩:=acs A;have O:=BP j u rfl j u A
  grind [bE,Lw,nj]
 have VM:∀n,n<cN aa i→∀m:Nat,m<aa.length→pd aa b0.ab i n=aM aa (m:Int)→∀j:Nat,j<aa.length→fY (p++[f]) (aM aa (j:Int))=true→Lw aa m (nj aa j):=fun n hn m hm e j u N=>by
  obtain⟨h1,A⟩:=(rE J hi (List.mem_of_getElem? (jf (aD:=b0.ab) hn))).2 m hm e
  grind
 have ai6:Live b.ah b.ad f.key→∀c∈bT b.ah (aB b.ah b.ad f.key),eG aa c.read∧∀m:Nat,m<aa.length→c.read=aM aa (m:Int)→∀j:Nat,j<aa.length→fY (p++[f]) (aM aa (j:Int))=true→Lw aa m (nj aa j):=fun hl c hc=>by
  obtain⟨hm,D,OH⟩:=dH.1 hc;obtain⟨j,u,ej⟩:=E.key (jW hl hm);obtain⟨rm,g1,g2,g3⟩:=jW hl hm;have h1:=(E.c.vr rm (aK g1).1).2;rw [(aK g1).2,ej,gj J u] at h1;rw [aQ g1,h1] at D;have BP:=rE J u D;refine⟨BP.1.Jf J,fun m AG e q S N=>?_⟩;obtain⟨G,X⟩:=BP.2 m AG e;rw [B] at hl hm;obtain⟨g4,g5⟩:=Gl J E hi u hl (ej ▸ hm)
  grind
 have VI:∀{a},fS (p++[f]) b a→ay a=true∨((fY (p++[f]) a && ax a)=true∧ax a=true)∨aA b a=true:=fun {a} h=>h.imp id (Or.imp (fun⟨x,y⟩=>⟨by rw [x,y];rfl,y⟩) id)
 have Ep:∀{b2:cy},f.running=false→Bi aa H (fun y=>fY (p++[f]) y && ax y) b2→Wy aa b0 ⟨b2,[],bf,0⟩→iS (valOf aa b0.ab) (fun y=>y=f.key) bf b.ad b.ah b2.ah→b2.ad=b.ad→bU b2.ah b2.ad f.key=false→aA b2 f.key=false→Hn (valOf aa b0.ab) b0 f.key→TI aa H b0 b2 (p++[{f with running:=true,at_:=0}]) bf:=fun {b2} hr Q VL F VN N hu hw=>by
  obtain⟨c1,c2,_,_⟩:=hT.Ds hr;refine uO (g:={f with running:=true,at_:=0}) rfl Q VL F VN (fun _ h=>h) ⟨⟨i,hi,B⟩,hT.new,hT.low,fun _=>⟨N,hu,hw,fun j u e=>⟨0,Nat.zero_le _,c1,c2⟩,fun a D=>?_⟩,fun hc=>by cases hc⟩
  grind
 have BQ:Live b.ah b.ad f.key→aA b f.key=false:=fun⟨r,h1,_,A⟩=>jg h1 A
 cases hs with
 | stay=>grind
 | full hr I hn=>
  have:=E.len
  simp at hn
  omega
 | put hr I=>
  obtain⟨h1,A,O,G,X⟩:=hT.run hr;obtain⟨n,hn,AH,QU⟩:=G i hi B;have ht:=JA n QU
  have hnq:n=cN aa i:=by grind [Gh]
  rw [hnq,Gi J hi] at ht
  have QV:f.reads=cS aa b0.ab i:=by
   rw [AH,hnq,B]
   rfl
  have hm:bJ b f.key (aH aa f.key f.ae).value f.reads=bJ b (aM aa (i:Int)) (valOf aa b0.ab (aM aa (i:Int))) (cS aa b0.ab i):=by rw [ht,QV,B]
  rw [hm];have Q:=E.put J hi (fun hc=>by grind [fG,kK]) (by grind);rw [eJ] at Q
  have Q:Bi aa H (fun y=>fY (p++[f]) y && ax y) ⟨b.ad,b.ab,ey b.ah (bJ b (aM aa (i:Int)) (valOf aa b0.ab (aM aa (i:Int))) (cS aa b0.ab i))⟩:=by rw [eJ];exact Q
  have F:iS (valOf aa b0.ab) (fun y=>y=f.key) (bf++[f.key]) b.ad b.ah (ey b.ah (bJ b (aM aa (i:Int)) (valOf aa b0.ab (aM aa (i:Int))) (cS aa b0.ab i))):=by
   rw [B] at h1 A;refine iS.put h1 (fun r hr=>?_) ⟨by simp [bJ,B],B.symm⟩ rfl rfl rfl (fun r hr=>?_) fun hn=>?_
   ·
    have h1:=(E.c.Eh r (aK hr).1).1
    have h6:r.av≠b.ad:=fun e=>by
     have:aA b (aM aa (i:Int))=true:=aT.2 ⟨r,hr,e⟩
     grind
    omega
   ·
    have Mp:az b.ah (aM aa (i:Int))=some r:=hr
    unfold bJ
    simp only [Mp,aQ Mp]
    grind
   grind [bJ]
  have qg:aA {b with ah:=ey b.ah (bJ b (aM aa (i:Int)) (valOf aa b0.ab (aM aa (i:Int))) (cS aa b0.ab i))} f.key=true:=by
   rw [B];exact jd (r:=bJ b (aM aa (i:Int)) (valOf aa b0.ab (aM aa (i:Int))) (cS aa b0.ab i)) rfl
  refine⟨rfl,QT Q qg (QS F (fun y t=>by simp [t]) rfl rfl (fun y r U I=>?_) (fun y t=>?_) (fun y t=>?_) (fun y hu Jy=>?_) (xO o.j0 fun hr=>by have:=o.Jw _ hr;rw [A] at this;cases this)) F rfl fun y t=>by simpa using t⟩
  ·
   have W:az (ey b.ah (bJ b (aM aa (i:Int)) (valOf aa b0.ab (aM aa (i:Int))) (cS aa b0.ab i))) y=some r:=U;rw [cT] at W
   split at W
   ·
    have:=Option.some.inj W
    subst this
    cases I
   exact o.Lm y r W I
  ·
   rcases List.mem_append.1 t with t | t
   ·
    exact o.bf y t
   grind
  ·
   grind
  refine .inl ?_
  by_cases e:y=f.key
  ·
   rw [e]
   simp
  obtain⟨r,hr,hv⟩:=aT.1 Jy;have Mp:az (ey b.ah (bJ b (aM aa (i:Int)) (valOf aa b0.ab (aM aa (i:Int))) (cS aa b0.ab i))) y=some r:=hr;rw [cT,if_neg (show ¬y=(bJ b (aM aa (i:Int)) (valOf aa b0.ab (aM aa (i:Int))) (cS aa b0.ab i)).key from fun h=>e (h.trans B.symm))] at Mp
  grind [aT]
 | push hr I hl=>
  obtain⟨h1,A,O,G,X⟩:=hT.run hr;obtain⟨n,hn,AH,QU⟩:=G i hi B;have ht:=JA n QU
  have V:n<cN aa i:=by grind [Gi]
  rw [Gh J hi V] at ht;rw [ht] at hl ⊢;rw [List.append_nil];exact⟨rfl,VK _ (BO J hi V) hl (VM n V)⟩
 | QG hr I hl=>
  obtain⟨h1,A,O,G,X⟩:=hT.run hr;obtain⟨n,hn,AH,QU⟩:=G i hi B
  grind [Gi,Gh]
 | read hr I Dv uR=>
  obtain⟨h1,A,O,G,X⟩:=hT.run hr;obtain⟨n,hn,AH,QU⟩:=G i hi B;have ht:=JA n QU
  have V:n<cN aa i:=by grind [Gi]
  rw [Gh J hi V] at ht;rw [ht] at Dv uR ⊢;rw [List.append_nil];have Mc:=pf Dv uR
  have QR:bO (valOf aa b0.ab) b (pd aa b0.ab i n)=valOf aa b0.ab (pd aa b0.ab i n):=by
   rw [← eJ];refine E.answer (by grind [BO]) ?_
   grind
  refine⟨rfl,uO (g:={f with reads:=f.reads++[pd aa b0.ab i n],ae:=f.ae++[bO (valOf aa b0.ab) b (pd aa b0.ab i n)]}) rfl E o (.refl _) rfl (fun _ h=>h) ⟨⟨i,hi,B⟩,hT.new,hT.low,fun _=>⟨h1,A,O,fun j u e=>?_,fun a D=>?_⟩,fun hc=>?_⟩⟩
  ·
   have:=dX J u hi (e.symm.trans B)
   subst this;refine⟨n+1,V,?_,?_⟩
   ·
    show f.reads++[pd aa b0.ab j n]=_
    rw [AH,B]
    rfl
   show f.ae++[bO (valOf aa b0.ab) b (pd aa b0.ab j n)]=_
   rw [QR,QU,B]
   rfl
  ·
   rcases List.mem_append.1 D with D | D
   ·
    exact(X a D).mono (Mr rfl)
   rw [List.mem_singleton] at D;rw [D];exact Mc.mono (Mr rfl)
  grind
 | up hr hu=>
  rw [List.append_nil];exact⟨rfl,QT E hu o (.refl _) rfl fun _ h=>.inl h⟩
 | start hr hu hx=>
  rw [List.append_nil];refine⟨rfl,Ep hr E o (.refl _) rfl ?_ hu ⟨yC,o.uL hu,?_⟩⟩
  ·
   rw [Bool.eq_false_iff]
   grind [bS,aQ]
  cases U:az b.ah f.key with
  | none=>exact .inl (o.none U)
  | some r=>
   refine .inr ?_
   rcases hx with hx | hx
   ·
    rw [U] at hx
    cases hx
   rw [aQ U] at hx;exact o.Lm _ r U hx
 | mark hr hl hn=>
  obtain⟨c1,c2,c3,c4⟩:=hT.Ds hr;have c4:=c4 hl;have F:iS (valOf aa b0.ab) (fun y=>y=f.key) bf b.ad b.ah (cH b (aB b.ah b.ad f.key) false).ah:=iS.mark hl false (.inr rfl)
  have Q:=E.mark J hl fun m hm a D OH=>by
   have oQ:(⟨m,a⟩:od)∈bT b.ah (aB b.ah b.ad f.key):=dH.2 ⟨hm,D,OH⟩;obtain⟨j,u⟩:=List.mem_iff_getElem?.1 oQ;have h1:=(List.getElem?_eq_some_iff.1 u).1;obtain⟨A,O,_⟩:=c4 j ⟨m,a⟩ (by omega) u
   grind
  have yB:=o.OD hl fun m hm a D OH=>by
   have oQ:(⟨m,a⟩:od)∈bT b.ah (aB b.ah b.ad f.key):=dH.2 ⟨hm,D,OH⟩;obtain⟨j,u⟩:=List.mem_iff_getElem?.1 oQ
   grind
  rw [List.append_nil];refine⟨rfl,QT Q ?_ (QS F (fun _ h=>h) rfl rfl (fun y r' U I=>?_) o.bf (fun _ h=>.inl h) (fun y hu Jy=>.inr (yB y (Gk hu Jy))) o.j0) F rfl fun _ h=>.inl h⟩
  ·
   obtain⟨r,h1,_⟩:=hl
   grind [gT,fy]
  have W:(az b.ah y).map (a7 b.ad (aB b.ah b.ad f.key) false)=some r':=bZ.symm.trans U;obtain⟨r,hr,rfl⟩:=Option.map_eq_some_iff.1 W;rw [sG] at I;exact o.Lm y r hr I
 | uQ c hr hl hc hk=>grind
 | Mq c hr hl hc hk=>grind
 | pass c hr hl hc Dw Ir hle=>
  obtain⟨c1,c2,c3,c4⟩:=hT.Ds hr;have Mc:=pf Dw Ir;rw [List.append_nil];refine⟨rfl,uO (g:={f with at_:=f.at_+1}) rfl E o (.refl _) rfl (fun _ h=>h) ⟨⟨i,hi,B⟩,hT.new,hT.low,fun hc=>?_,fun _=>⟨c1,c2,by show 0≤f.at_+1;omega,fun _ j c' u hcj=>?_⟩⟩⟩
  ·
   grind
  have hj':j<f.at_.toNat+1:=by grind
  rcases Nat.lt_or_ge j f.at_.toNat with V | Io
  ·
   obtain⟨p1,p2,p3⟩:=c4 hl j c' V hcj;exact⟨p1,p2.mono (Mr rfl),p3⟩
  have e:j=f.at_.toNat:=by omega
  subst e;have VO:(bT b.ah (aB b.ah b.ad f.key))[f.at_.toNat]?=some c':=hcj;rw [hc] at VO
  have:=Option.some.inj VO
  subst this;refine⟨?_,Mc.mono (Mr rfl),by rw [← o.changed E c.read];exact hle⟩;obtain⟨hm,D,OH⟩:=dH.1 (List.mem_of_getElem? hc);obtain⟨rm,g1,g2,g3⟩:=jW hl hm;rw [aQ g1] at hle D ⊢;have h1:=E.c.changed (aK g1).1 g3 D (by rw [eJ];exact hle);rw [eJ] at h1;exact h1
 | fail c hr hl hc Dw Ir V=>
  obtain⟨hm,D,OH⟩:=dH.1 (List.mem_of_getElem? hc);have Jz:=o.QO E hl hm D OH V;have Ek:Hn (valOf aa b0.ab) b0 f.key:=⟨yC,o.uL (BQ hl),.inr (.inr (Jz _ fy))⟩;rw [List.append_nil]
  cases Ln:ax f.key with
  | false=>
   simp only [Bool.false_eq_true,if_false];refine⟨trivial,Ep hr E o (.refl _) rfl ?_ (BQ hl) Ek⟩;rw [Bool.eq_false_iff]
   grind [bS]
  | true=>
   simp only [if_true];have F:iS (valOf aa b0.ab) (fun y=>y=f.key) bf b.ad b.ah (cH b (aB b.ah b.ad f.key) true).ah:=iS.mark hl true (.inl Ln);obtain⟨r,f1,f2,f3⟩:=id hl
   have hfk:az (cH b (aB b.ah b.ad f.key) true).ah f.key=some {r with bu:=true}:=by
    refine bZ.trans ?_;rw [f1]
    show some (a7 _ _ _ r)=_
    unfold a7
    rw [if_pos (by rw [(aK f1).2];exact fy)]
    rfl
   refine⟨trivial,Ep hr (E.bu fun m hm=>jW hl hm) (QS F (fun _ h=>h) rfl rfl (fun y r' U I=>?_) o.bf (fun _ h=>.inl h) (fun y hu Jy=>by grind [nq]) o.j0) F rfl ?_ (jg hfk f3) Ek⟩
   ·
    have W:(az b.ah y).map (a7 b.ad (aB b.ah b.ad f.key) true)=some r':=bZ.symm.trans U;obtain⟨q,S,rfl⟩:=Option.map_eq_some_iff.1 W
    by_cases t:y∈aB b.ah b.ad f.key
    ·
     exact .inr (Jz y t)
    unfold a7 at I
    rw [if_neg (by rw [(aK S).2];exact t)] at I;exact o.Lm y q S I
   rw [Bool.eq_false_iff]
   grind [bS]
end
end Go.Rc

namespace Go.Rc
open Go
theorem As.exc{A:As}{Z:Nat→Prop}{w w':World}(h:A.ok Z w) (c:aS [] w w'):A.ok Z w':=A.st c.size (fun x _ j=>c.block x j (by simp)) h
theorem BR{k:Key}(h:cX k):ax k=decide (k.kind=32):=by
 have e:(decide (1≤k.kind) && decide (k.kind≤22))=false:=by
  rcases h with h | h
  ·
   grind
  grind
 unfold ax
 grind
/-! ### records in blocks -/
structure RL where
 b:Nat
 a:Option Addr
 n:Nat
 c:Nat
def WD.wc(D:WD) (v:Nat) (rev:Int) (ra:Option Addr) (rn rc:Nat):List Value:=
 [.slice D.ar D.r D.cr,.int .i64 rev,.slice D.a1 D.n1 D.c1,.slice D.a2 D.n2 D.c2,.map (some D.m),.pointer (some ⟨v,0,none⟩),.slice ra rn rc]
def As.gq(RT:Nat) (lf:Key→RL) (l:List Rec):As where
 fp x:=∃k r,az l k=some r∧x=(lf k).b
 ok Z w:=(∀k r,az l k=some r→bQ w (lf k).b RT (r.row (lf k).a (lf k).n (lf k).c)∧Rd RR.key 2 Z w (lf k).a (lf k).n (lf k).c r.reads∧r.reads.length≤4000)∧∀k k' r r',az l k=some r→az l k'=some r'→(lf k).b=(lf k').b→k=k'
 lt h x hx:=by
  obtain⟨k,r,hk,rfl⟩:=hx;exact(h.1 k r hk).1.lt
 mono hZ h:=⟨fun k r hk=>by
  obtain⟨hb,hr,h4⟩:=h.1 k r hk;exact⟨hb,hr.mono hZ,h4⟩,h.2⟩
 st hs hc h:=⟨fun k r hk=>by
  obtain⟨hb,hr,h4⟩:=h.1 k r hk;exact⟨(As.blk (lf k).b RT (r.row (lf k).a (lf k).n (lf k).c)).st (Z:=fun _=>False) hs (fun x hx hl=>hc x (.inl ⟨k,r,hk,by rcases hx with hx | hx;exact hx;exact hx.elim⟩) hl) hb,hr.st hs (fun x hx=>hc x (.inr hx)),h4⟩,h.2⟩
theorem As.sH{RT:Nat}{lf:Key→RL}{l:List Rec}{Z:Nat→Prop}{w:World}(h:(As.gq RT lf l).ok Z w):(As.gq RT lf l).ok Z w:=h
def dy(l:List Rec) (lf:Key→RL) (ml:List (Key × Value)):Prop:=∀k,bC ml k=(az l k).map fun _=>Value.pointer (some ⟨(lf k).b,0,none⟩)
theorem dy.nil(lf:Key→RL):dy [] lf []:=fun _=>rfl
theorem dy.no{l:List Rec}{lf:Key→RL}{ml:List (Key × Value)}{k:Key}(h:dy l lf ml) (j:az l k=none):(bC ml k).getD (.pointer none)=.pointer none:=by rw [h k,j];rfl
theorem dy.yes{l:List Rec}{lf:Key→RL}{ml:List (Key × Value)}{k:Key}{r:Rec}(h:dy l lf ml) (j:az l k=some r):bC ml k=some (.pointer (some ⟨(lf k).b,0,none⟩)):=by rw [h k,j];rfl
def wB(lf:Key→RL) (k:Key) (q:RL):Key→RL:=fun y=>if y=k then q else lf y
theorem lJ{lf:Key→RL}{k:Key}{q:RL}:wB lf k q k=q:=if_pos rfl
theorem lZ{lf:Key→RL}{k y:Key}{q:RL}(h:¬y=k):wB lf k q y=lf y:=if_neg h
theorem dy.put{l l':List Rec}{lf:Key→RL}{ml:List (Key × Value)}{r:Rec}{q:RL}(h:dy l lf ml) (hl:∀y,az l' y=if y=r.key then some r else az l y):dy l' (wB lf r.key q) (cJ ml r.key (.pointer (some ⟨q.b,0,none⟩))):=fun k=>by
 rw [ee,hl k]
 by_cases e:k=r.key
 ·
  subst e;rw [if_pos rfl,if_pos rfl,lJ]
  rfl
 rw [if_neg fun h=>e h.symm,if_neg e,lZ e,h k]
section
variable {RT:Nat}{q:RL}{lf:Key→RL}{l l':List Rec}{r:Rec}{w0 w:World}{M Z:Nat→Prop}{L:List As}
theorem St.acv(h:St w0 M Z w L) (RT:Nat) (lf:Key→RL):St w0 M Z w (As.gq RT lf []::L):=h.fact (B:=As.gq RT lf []) ⟨fun k r hk=>(by cases hk),fun k k' r r' hk=>(by cases hk)⟩ fun x j=>by obtain⟨k,r,hk,_⟩:=j;cases hk
theorem St.yX(h:St w0 M Z w (As.blk q.b RT (r.row q.a q.n q.c)::As.gq RT lf l::L)) (hr:Rd RR.key 2 Z w q.a q.n q.c r.reads) (u:r.reads.length≤4000) (hl:∀y,az l' y=if y=r.key then some r else az l y):St w0 M Z w (As.gq RT (wB lf r.key q) l'::L):=by
 have A:bQ w q.b RT (r.row q.a q.n q.c):=h.g0;have m:(As.gq RT lf l).ok Z w:=h.g1;have o:∀k r',az l k=some r'→q.b≠(lf k).b:=fun k r' hk e=>(List.pairwise_cons.1 h.rl).1 (As.gq RT lf l) M0 q.b rfl ⟨k,r',hk,e⟩;refine h.join (C:=As.gq RT (wB lf r.key q) l') ⟨fun k r' hk=>?_,fun k k' r1 r2 h1 j e=>?_⟩ fun x t=>?_
 ·
  rw [hl k] at hk
  by_cases e:k=r.key
  ·
   rw [if_pos e] at hk
   grind [lJ]
  rw [if_neg e] at hk;rw [lZ e];exact m.1 k r' hk
 ·
  rw [hl k] at h1;rw [hl k'] at j
  by_cases e1:k=r.key
  ·
   by_cases e2:k'=r.key
   ·
    rw [e1,e2]
   rw [if_neg e2] at j
   grind [lJ,lZ]
  rw [if_neg e1] at h1
  by_cases e2:k'=r.key
  ·
   rw [lZ e1,e2,lJ] at e;exact absurd e.symm (o k _ h1)
  rw [if_neg e2] at j;rw [lZ e1,lZ e2] at e;exact m.2 k k' _ _ h1 j e
 obtain⟨k,r',hk,rfl⟩:=t;rw [hl k] at hk
 by_cases e:k=r.key
 ·
  rw [e,lJ];exact .inl rfl
 rw [if_neg e] at hk;rw [lZ e];exact .inr ⟨k,r',hk,rfl⟩
theorem Ow.z{α:Type}{f:α→List Value}{E k n c:Nat}{a:Option Addr}{xs:List α}{Z':Nat→Prop}(h:Ow (RR.flat f) E k Z' w a n c xs):Ow (RR.flat f) E k Z w a n c xs:=by
 obtain⟨hn,rows,hl,hk,h1,j⟩:=h;exact⟨hn,rows,hl,hk,h1,j⟩
theorem St.unz{A:As}{Z':Nat→Prop}(h:St w0 M Z' w [A]) (m:∀x,Z x→Z' x) (u:A.ok Z w):St w0 M Z w [A]:=
 ⟨h.bV,fun x j=>h.jG x (m x j),fun B o x j t=>h.lR B o x j (m x t),h.mI,h.rl,fun B o=>by grind⟩
end
theorem Er{l:List Rec}{r:Rec}(h:∀x∈l,x.key≠r.key) (y:Key):az (l++[r]) y=if y=r.key then some r else az l y:=by
 unfold az
 grind
/-! ### entries of maps that are changed in place -/
section
variable {κ:Type} [DecidableEq κ] {enc:κ→Value}{P:Program}{kt:TypeId}{w w':World}{b:Nat}{l:List (κ × Value)}
def QW{κ:Type}(enc:κ→Value) (w:World) (b:Nat) (l:List (κ × Value)) (k:κ) (z:Int):Prop:=
 ∃es clock,w.heap[b]?=some (.map es clock)∧(es.toList.map (fun e=>(e.key,e.val))=l.map (fun p=>(enc p.1,p.2))∧(l.map (·.1)).Nodup∧(∀e∈es.toList,e.born<clock)∧(es.toList.map (·.born)).Nodup)∧∃(j:Nat) (v:Value) (e:MapEntry),l[j]?=some (k,v)∧es[j]?=some e∧(e.born:Int)=z
def As.Es{κ:Type}(enc:κ→Value) (b:Nat) (l:List (κ × Value)) (k:κ) (z:Int):As where
 fp x:=x=b
 ok _ w:=QW enc w b l k z
 lt h x hx:=by
  subst hx;obtain⟨es,c,h,_⟩:=h
  grind
 mono _ h:=h
 st hs hc h:=by
  obtain⟨es,c,h,r⟩:=h;exact⟨es,c,(hc b (.inl rfl) (Array.getElem?_eq_some_iff.1 h).1).trans h,r⟩
theorem As.gmb{κ:Type}{enc:κ→Value}{b:Nat}{l:List (κ × Value)}{k:κ}{z:Int}{Z:Nat→Prop}{w:World}(h:(As.Es enc b l k z).ok Z w):QW enc w b l k z:=h
theorem yY{e T:TypeId}{h:Value}(t:KK P kt enc) (hT:P.underlying T=some (.map kt e)) (D:∀w,(zeroValue e).run P w=.ok h w) (hb:KM enc w b l) (k:κ) :
  ∃(z:Int) (w':World),(Instr.mapEntry T (.map (some b)) (enc k)).run P w=.ok (.tuple #[(bC l k).getD h,.int .i64 z]) w'∧aS [b] w w'∧QW enc w' b (cJ l k ((bC l k).getD h)) k z:=by
 obtain⟨es,clock,hm,he,hn,Q,E⟩:=hb;have u:b<w.heap.size:=(Array.getElem?_eq_some_iff.1 hm).1
 have hlen:es.toList.length=l.length:=by simpa using congrArg List.length he
 cases o:oS l k 0 with
 | none=>
  obtain⟨h1,A⟩:=j4 o;refine⟨(clock:Int),_,?_,iJ w b (.map (es.push {key:=enc k,val:=h,born:=clock}) (clock+1)),?_⟩
  ·
   rw [h1];simp only [Instr.mapEntry,Sem.run_bind,run_underlying hT,Result.andThen_ok,MapKept.run_getObj_map hm,t.check,t.find l es.toList k w he,o,D,MapKept.run_setObj_map _ hm,Option.getD_none]
   rfl
  rw [h1,A];refine⟨_,_,by first | (simp [u];done) | (simp [u];exact⟨rfl,rfl⟩),⟨by simp [he],by grind [gg],?_,?_⟩,l.length,h,{key:=enc k,val:=h,born:=clock},by simp,?_,rfl⟩
  ·
   grind
  ·
   grind
  grind
 | some p=>
  obtain⟨j,v0⟩:=p;obtain⟨m,h1,A,B,R,_⟩:=i1 o
  have F:j=m:=by omega
  subst F
  have G:j<es.size:=by grind
  obtain⟨y,C⟩:∃y,es[j]?=some y:=⟨_,Array.getElem?_eq_getElem G⟩
  have I:y.key=enc k∧y.val=v0:=by
   have:=congrArg (fun x=>x[j]?) he
   grind
  have J:(((es[j]?).map (·.key)).getD (enc k))=enc k:=by rw [C];exact I.1
  have N:(((es[j]?).map fun x=>(x.born:Int)).getD 0)=(y.born:Int):=by rw [C];rfl
  refine⟨(y.born:Int),_,?_,iJ w b (.map (es.modify j fun e=>{e with key:=enc k}) clock),?_⟩
  ·
   rw [B];simp only [Instr.mapEntry,Sem.run_bind,run_underlying hT,Result.andThen_ok,MapKept.run_getObj_map hm,t.check,t.find l es.toList k w he,o,Instr.keyThatStays,J,t.same,if_true,Sem.run_pure,MapKept.run_setObj_map _ hm,Option.getD_some,N]
   rfl
  rw [B]
  have O:(es.modify j fun e=>{e with key:=enc k}).toList.map (fun e=>(e.key,e.val))=(l.set j (k,v0)).map (fun p=>(enc p.1,p.2))∧(es.modify j fun e=>{e with key:=enc k}).toList.map (·.born)=es.toList.map (·.born):=by
   constructor
   ·
    apply List.ext_getElem?
    intro i;have hi:=congrArg (fun x=>x[i]?) he
    grind
   apply List.ext_getElem?
   grind
  refine⟨_,_,by first | (simp [u];done) | (simp [u];exact⟨rfl,rfl⟩),⟨by grind,gg hn k _,?_,by rw [O.2];exact E⟩,j,v0,{y with key:=enc k},?_,?_,rfl⟩
  ·
   intro x o
   have:x.born∈(es.modify j fun e=>{e with key:=enc k}).toList.map (·.born):=List.mem_map.2 ⟨x,o,rfl⟩
   grind
  ·
   grind
  grind
theorem uS{α:Type}:∀{l:List α},l.Nodup→∀{i j:Nat}{x:α},l[i]?=some x→l[j]?=some x→i=j:=fun {l} h {i j x} h1 o=>by
 obtain⟨hi,e1⟩:=List.getElem?_eq_some_iff.1 h1;obtain⟨m,e2⟩:=List.getElem?_eq_some_iff.1 o
 rcases Nat.lt_trichotomy i j with g | g | g
 ·
  exact absurd (e1.trans e2.symm) (List.pairwise_iff_getElem.1 h i j hi m g)
 ·
  exact g
 exact absurd (e2.trans e1.symm) (List.pairwise_iff_getElem.1 h j i m hi g)
theorem uT{T:TypeId}{k:κ}{z:Int}(hb:QW enc w b l k z) (v:Value) :
  ∃w':World,(Instr.entryStore T (.map (some b)) (.int .i64 z) v).run P w=.ok () w'∧aS [b] w w'∧KM enc w' b (cJ l k v):=by
 obtain⟨es,clock,hm,⟨he,hn,S,F⟩,j,v0,y,A,B,G⟩:=hb;have C:b<w.heap.size:=(Array.getElem?_eq_some_iff.1 hm).1;have I:j<es.size:=(Array.getElem?_eq_some_iff.1 B).1
 have J:es.findIdx? (fun e=>(e.born:Int) == z)=some j:=by
  rw [Array.findIdx?_eq_some_iff_getElem]
  have N:es[j]=y:=by grind
  refine⟨I,by rw [N];simpa using G,fun i hi=>?_⟩
  have U:(es[i]'(by omega)).born≠y.born:=fun e=>by
   have h1:(es.toList.map (·.born))[i]?=some y.born:=by grind
   have t:(es.toList.map (·.born))[j]?=some y.born:=by simp [B]
   grind [uS]
  grind
 have O:∃(h:Nat),oS l k 0=some (h,v0)∧h=j:=by
  cases o:oS l k 0 with
  | none=>
   have h1:=(j4 o).1;exact absurd (List.mem_map.2 ⟨(k,v0),List.mem_of_getElem? A,rfl⟩) (lC.1 h1)
  | some p=>
   obtain⟨h,v1⟩:=p;obtain⟨m,h1,t,_⟩:=i1 o
   have D:(l.map (·.1))[m]?=some k:=by rw [List.getElem?_map,t];rfl
   have u:(l.map (·.1))[j]?=some k:=by rw [List.getElem?_map,A];rfl
   have V:=uS hn D u
   grind
 obtain⟨h,o,Q⟩:=O;subst Q;obtain⟨m,h1,t,D,u,_⟩:=i1 o
 have R:h=m:=by omega
 subst R;refine⟨_,?_,iJ w b (.map (es.modify h fun e=>{e with val:=v}) clock),?_⟩
 ·
  simp only [Instr.entryStore,Sem.run_bind,Result.andThen_ok,MapKept.run_getObj_map hm,asInt,asIntOf,Sem.run_pure,J,MapKept.run_setObj_map _ hm]
 have W:y.key=enc k:=by
  have:=congrArg (fun x=>x[h]?) he
  grind
 have E:(es.modify h fun e=>{e with val:=v}).toList.map (fun e=>(e.key,e.val))=(l.set h (k,v)).map (fun p=>(enc p.1,p.2))∧(es.modify h fun e=>{e with val:=v}).toList.map (·.born)=es.toList.map (·.born):=by
  constructor
  ·
   apply List.ext_getElem?
   intro i;have hi:=congrArg (fun x=>x[i]?) he
   grind
  apply List.ext_getElem?
  grind
 refine⟨_,_,by first | (simp [C];done) | (simp [C];exact⟨rfl,rfl⟩),by rw [u];exact E.1,gg hn k v,?_,by rw [E.2];exact F⟩;intro x o
 have:x.born∈(es.modify h fun e=>{e with val:=v}).toList.map (·.born):=List.mem_map.2 ⟨x,o,rfl⟩
 grind
variable {n:Nat}{kv:KV}{K:KV→World→Prop}{d:Tmp}{ty:TypeId}{pos:String}{af:Array Edge}{g:Option (Nat × Bool)}{T e:TypeId}
theorem OX.mapEntry{j v:Value}{k:κ}(u:KK P kt enc) (hT:P.underlying T=some (.map kt e)) (A:∀w,(zeroValue e).run P w=.ok j w) (hb:KM enc w b l) (B:(bC l k).getD j=v) {x y:Operand}(m:ev kv x=some (.map (some b))) (o:ev kv y=some (enc k)) (C:Nat.blt d n=true)
  (h:∀(z:Int) w',aS [b] w w'→QW enc w' b (cJ l k v) k z→K ((d,.tuple #[v,.int .i64 z])::kv) w'):OX P ⟨some d,.mapEntry T x y,ty,pos,af,g⟩ n kv w K:=by
 obtain⟨z,w',hr,h1,t⟩:=yY u hT A hb k;rw [B] at hr t;refine⟨rfl,C,by simp [known,opers,m,o],?_⟩
 have D:(execOp (jE kv) ⟨some d,.mapEntry T x y,ty,pos,af,g⟩).run P w=.ok (.value (.tuple #[v,.int .i64 z])) w':=by
  simp only [execOp,aJ m,aJ o,Sem.run_bind,hr,Result.andThen_ok];rfl
 rw [D];exact h z _ h1 t
theorem OX.entryStore{k:κ}{z:Int}{v:Value}(hb:QW enc w b l k z) {x y u:Operand}(j:ev kv x=some (.map (some b))) (m:ev kv y=some (.int .i64 z)) (hu:ev kv u=some v)
  (h:∀w',aS [b] w w'→KM enc w' b (cJ l k v)→K kv w'):OX P ⟨none,.entryStore T x y u,ty,pos,af,g⟩ n kv w K:=by
 obtain⟨w',hr,h1,o⟩:=uT (P:=P) (T:=T) hb v;refine⟨rfl,rfl,by simp [known,opers,j,m,hu],?_⟩
 have t:(execOp (jE kv) ⟨none,.entryStore T x y u,ty,pos,af,g⟩).run P w=.ok .skip w':=by
  simp only [execOp,aJ j,aJ m,aJ hu,Sem.run_bind,hr,Result.andThen_ok];rfl
 rw [t];exact h _ h1 o
end
section
variable {κ:Type}{enc:κ→Value}{w0 w w':World}{M Z:Nat→Prop}{L:List As}{b:Nat}{l l':List (κ × Value)}{k:κ}{z:Int}
theorem St.VP(h:St w0 M Z w (As.map enc b l::L)) (s:aS [b] w w') (hm:QW enc w' b l' k z):St w0 M Z w' (As.Es enc b l' k z::L):=h.ku (s.p.mono fun x _ j=>by simpa [As.map] using j) hm fun x j=>.inl j
theorem St.VQ(h:St w0 M Z w (As.Es enc b l k z::L)) (s:aS [b] w w') (hm:KM enc w' b l'):St w0 M Z w' (As.map enc b l'::L):=h.ku (s.p.mono fun x _ j=>by simpa [As.Es] using j) hm fun x j=>.inl j
end
/-! ### a map to owned slices -/
def jL(L:List RE) (k:Key):Option RE:=L.find? fun e=>decide (e.key=k)
def iK(L:List RE) (k:Key):List Key:=((jL L k).map (·.reads)).getD []
def tu(L:List RE) (ml:List (Key × Value)):Prop:=∀k,bC ml k=(jL L k).map fun e=>Value.slice e.a e.n e.c
def qh(bg:Key→List Key) (x y:Key):Key→List Key:=fun z=>if z=x then bg z++[y] else bg z
def rest(L:List RE) (x:Key):List RE:=L.filter fun e=>decide (e.key≠x)
section
variable {L:List RE}{ml:List (Key × Value)}{x y:Key}{e:RE}{a:Option Addr}{n c:Nat}{v:Value}
theorem xQ(h:jL L x=some e):e∈L∧e.key=x:=by grind [jL]
theorem tu.nil:tu [] []:=fun _=>rfl
theorem rF(h:List Key) (z:Key):jL (⟨x,a,n,c,h⟩::rest L x) z=if z=x then some ⟨x,a,n,c,h⟩ else jL L z:=by
 unfold jL rest
 grind
theorem tu.put(h:tu L ml) (j:List Key):tu (⟨x,a,n,c,j⟩::rest L x) (cJ (cJ ml x v) x (.slice a n c)):=fun z=>by
 rw [ee,rF]
 by_cases e:x=z
 ·
  subst e
  simp
 rw [if_neg e,if_neg fun h=>e h.symm,ee,if_neg e];exact h z
theorem JB(z:Key):iK (⟨x,a,n,c,iK L x++[y]⟩::rest L x) z=qh (iK L) x y z:=by
 unfold qh
 by_cases h:z=x
 ·
  subst h;rw [if_pos rfl]
  show((jL _ z).map _).getD []=_
  rw [rF,if_pos rfl]
  rfl
 rw [if_neg h]
 show((jL _ z).map _).getD []=((jL L z).map _).getD []
 rw [rF,if_neg h]
theorem Ms:iK (⟨x,a,n,c,iK L x++[y]⟩::rest L x)=qh (iK L) x y:=funext JB
theorem Et(h:(L.map (·.key)).Nodup) (j:List Key):(((⟨x,a,n,c,j⟩:RE)::rest L x).map (·.key)).Nodup:=by
 rw [List.map_cons,List.nodup_cons];refine⟨fun m=>?_,((List.filter_sublist (l:=L)).map (·.key)).nodup h⟩;obtain⟨e,he,o⟩:=List.mem_map.1 m
 have:=(List.mem_filter.1 he).2
 simp at this
 exact this o
theorem xR:∀{L:List RE},(L.map (·.key)).Nodup→jL L x=some e→L.Perm (e::rest L x)
 | [],_,h=>by cases h
 | q::L,hn,h=>by
  rw [List.map_cons,List.nodup_cons] at hn
  unfold jL at h
  by_cases j:q.key=x
  ·
   rw [List.find?_cons_of_pos (by simpa using j)] at h
   cases h
   have:rest (e::L) x=L:=by
    unfold rest
    simp_all
   rw [this]
  rw [List.find?_cons_of_neg (by simpa using j)] at h
  have m:rest (q::L) x=q::rest L x:=by
   unfold rest
   grind
  rw [m];exact((xR hn.2 h).cons q).trans (.swap _ _ _)
variable {w0 w:World}{M Z:Nat→Prop}{l:List As}{EK:Nat}
theorem St.VR(hn:(L.map (·.key)).Nodup) (hm:tu L ml) (x:Key) (h:St w0 M Z w (As.many (L.map (RE.as EK))::l)):∃(a:Option Addr) (n c:Nat),(bC ml x).getD (.slice none 0 0)=.slice a n c∧St w0 M Z w (As.os RR.key EK 2 a n c (iK L x)::As.many ((rest L x).map (RE.as EK))::l):=by
 cases j:jL L x with
 | none=>
  refine⟨none,0,0,by rw [hm x,j];rfl,?_⟩
  have e1:iK L x=[]:=by unfold iK;rw [j];rfl
  have e2:rest L x=L:=by
   unfold rest
   rw [List.filter_eq_self];intro e he
   have:=List.find?_eq_none.1 j e he
   simpa using this
  rw [e1,e2];exact h.dp _ _ _
 | some e=>
  refine⟨e.a,e.n,e.c,by rw [hm x,j];rfl,?_⟩
  have e1:iK L x=e.reads:=by unfold iK;rw [j];rfl
  rw [e1];exact(St.VB ((xR hn j).map (RE.as EK)) h).yP
theorem St.acx{j:List Key}(h:St w0 M Z w (As.os RR.key EK 2 a n c j::As.many ((rest L x).map (RE.as EK))::l)):St w0 M Z w (As.many (((⟨x,a,n,c,j⟩:RE)::rest L x).map (RE.as EK))::l):=h.Ee
def FBK(L:List RE):FZ where
 p Z w:=∀e∈L,Rd RR.key 2 Z w e.a e.n e.c e.reads
 mono hZ h:=fun e he=>(h e he).mono hZ
 st hs hc h:=fun e he=>(h e he).st hs hc
theorem St.bkF(hl:∀e∈L,e.reads.length≤140737488355328) (h:St w0 M Z w (As.many (L.map (RE.as EK))::l)):St w0 M (fun x=>Z x∨(As.many (L.map (RE.as EK))).fp x) w (As.fz (FBK L)::l):=by
 have hm:(As.many (L.map (RE.as EK))).ok Z w:=h.ok _ M0
 refine h.freeze (B:=As.fz (FBK L)) (fun e he=>?_) fun x j=>j
 have m:Ow RR.key EK 2 Z w e.a e.n e.c e.reads:=As.gs (hm.2 _ (List.mem_map_of_mem (f:=RE.as EK) he))
 exact(m.rd (hl e he)).mono fun x j=>j.imp id fun j=>⟨_,List.mem_map_of_mem (f:=RE.as EK) he,j⟩
theorem tu.read(hm:tu L ml) (j:(FBK L).p Z w) (x:Key):∃(a:Option Addr) (n c:Nat),(bC ml x).getD (.slice none 0 0)=.slice a n c∧Rd RR.key 2 Z w a n c (iK L x):=by
 cases h:jL L x with
 | none=>
  refine⟨none,0,0,by rw [hm x,h];rfl,?_⟩
  grind [iK,Rd.nil]
 | some e=>
  refine⟨e.a,e.n,e.c,by rw [hm x,h];rfl,?_⟩
  have e1:iK L x=e.reads:=by unfold iK;rw [h];rfl
  rw [e1];exact j e (xQ h).1
theorem JC(hn:(L.map (·.key)).Nodup) (he:e∈L):iK L e.key=e.reads:=by
 have:jL L e.key=some e:=by
  cases h:jL L e.key with
  | none=>
   have:=List.find?_eq_none.1 h e he
   simp at this
  | some q=>
   obtain⟨h1,o⟩:=xQ h;obtain⟨i,hi⟩:=List.mem_iff_getElem?.1 h1;obtain⟨j,m⟩:=List.mem_iff_getElem?.1 he
   have g1:(L.map (·.key))[i]?=some e.key:=by grind
   have g2:(L.map (·.key))[j]?=some e.key:=by rw [List.getElem?_map,m];rfl
   grind [uS]
 unfold iK
 rw [this]
 rfl
end
/-! ### a search there and back -/
section
variable {l:List Rec}{rev:Int}{k:Key}{bg:Key→List Key}{L:List Key}{i q:Nat}{x y:Key}
structure tv (l:List Rec) (rev:Int) (k:Key) (bg:Key→List Key) (L:List Key) (i q:Nat):Prop where
 j0:L.Nodup
 mem:k∈L
 sub:∀x∈L,x=k∨bR l rev k x
 cl:∀j y,j<i→L[j]?=some y→∀x,Ld l rev y x→x∈L∧y∈bg x
 cur:∀y,L[i]?=some y→∀x∈(aC l y).reads.take q,bU l rev x=true→x∈L∧y∈bg x
 bk:∀x y,y∈bg x→y∈L∧Ld l rev y x
 len:∀x,(bg x).length≤4000*i+q
theorem tv.start(h:∀x,bg x=[]):tv l rev k bg [k] 0 0:=
 ⟨by simp,by simp,by simp,fun j y h=>by omega,fun y _ x o=>by simp at o,fun x y m=>(by rw [h] at m;cases m),fun x=>by rw [h];simp⟩
theorem tv.op(h:tv l rev k bg L i q) (j:bU l rev k=true) (m:x∈L):bU l rev x=true:=by
 rcases h.sub x m with rfl | h1
 ·
  exact j
 exact h1.gC
theorem tv.le(h:tv l rev k bg L i q) (j:bU l rev k=true):L.length≤l.length:=by
 have:=eP h.j0 fun x m=>nb (h.op j m)
 simpa using this
theorem tv.skip(h:tv l rev k bg L i q) (m:L[i]?=some y) (t:(aC l y).reads[q]?=some x) (u:bU l rev x=false):tv l rev k bg L i (q+1):=
 {h with
  cur:=fun C o A B j=>by
   rw [m] at o
   cases o
   rcases nn t B with h1 | rfl
   ·
    exact h.cur y m A h1 j
   rw [u] at j;cases j
  len:=fun x=>by have:=h.len x;omega}
theorem qi{z u:Key}(h:u∈bg z):u∈qh bg x y z:=by grind [qh]
theorem xS:y∈qh bg x y x:=by unfold qh;simp
theorem uU{z u:Key}(h:u∈qh bg x y z):u∈bg z∨(z=x∧u=y):=by grind [qh]
theorem BU(z:Key):(qh bg x y z).length≤(bg z).length+1:=by
 unfold qh
 split <;> simp
theorem tv.qY(h:tv l rev k bg L i q) (t:L[i]?=some y) (B:(aC l y).reads[q]?=some x) (D:bU l rev x=true) (hm:x∈L):tv l rev k (qh bg x y) L i (q+1):=
 {h with
  cl:=fun j A C m o hl=>⟨(h.cl j A C m o hl).1,qi (h.cl j A C m o hl).2⟩
  cur:=fun A m o E F=>by
   rw [t] at m
   cases m
   rcases nn B E with h1 | rfl
   ·
    have:=h.cur y t o h1 F
    grind [qi]
   exact⟨hm,xS⟩
  bk:=fun z u hu=>by
   rcases uU hu with h1 | ⟨rfl,rfl⟩
   ·
    exact h.bk z u h1
   exact⟨List.mem_of_getElem? t,List.mem_of_getElem? B,D⟩
  len:=fun z=>by have:=h.len z;grind [BU]}
theorem tv.new(h:tv l rev k bg L i q) (o:L[i]?=some y) (B:(aC l y).reads[q]?=some x) (G:bU l rev x=true) (hm:x∉L):tv l rev k (qh bg x y) (L++[x]) i (q+1):=by
 have N:i<L.length:=(List.getElem?_eq_some_iff.1 o).1;have C:Ld l rev y x:=⟨List.mem_of_getElem? B,G⟩
 have qY:∀{j z},j≤i→(L++[x])[j]?=some z→L[j]?=some z:=fun D O=>by grind
 refine⟨by grind [j0],by simp [h.mem],fun z m=>?_,fun j E D t A hl=>?_,fun E t A I J=>?_,fun z u hu=>?_,fun z=>?_⟩
 ·
  rcases List.mem_append.1 m with m | m
  ·
   exact h.sub z m
  rw [List.mem_singleton] at m;subst m
  rcases h.sub y (List.mem_of_getElem? o) with rfl | h1
  ·
   exact .inr (.one C)
  exact .inr (.step h1 C)
 ·
  have h1:=h.cl j E D (qY (by omega) t) A hl
  grind [qi]
 ·
  have F:=qY (Nat.le_refl _) t;rw [o] at F
  cases F
  rcases nn B I with h1 | rfl
  ·
   have:=h.cur y o A h1 J
   grind [qi]
  exact⟨by simp,xS⟩
 ·
  rcases uU hu with h1 | ⟨rfl,rfl⟩
  ·
   have:=h.bk z u h1
   grind
  grind
 have:=h.len z
 grind [BU]
theorem tv.next(h:tv l rev k bg L i q) (o:L[i]?=some y) (u:(aC l y).reads.length≤q) (C:q≤4000):tv l rev k bg L (i+1) 0:=
 {h with
  cl:=fun j A D m t hl=>by
   rcases Nat.lt_or_ge j i with h1 | h1
   ·
    exact h.cl j A h1 m t hl
   have e:j=i:=by omega
   subst e;rw [o] at m
   cases m
   exact h.cur y o t (by rw [List.take_of_length_le u];exact hl.1) hl.2
  cur:=fun _ _ x B=>by simp at B
  len:=fun x=>by have:=h.len x;omega}
theorem tv.done(h:tv l rev k bg L i q) (hi:L.length≤i) (x:Key):x∈L↔x=k∨bR l rev k x:=by
 have m:∀y∈L,∀x,Ld l rev y x→x∈L∧y∈bg x:=fun y t x hl=>by
  obtain⟨j,o⟩:=List.mem_iff_getElem?.1 t
  have:=(List.getElem?_eq_some_iff.1 o).1
  exact h.cl j y (by omega) o x hl
 refine⟨h.sub x,?_⟩;rintro(rfl | h1)
 ·
  exact h.mem
 induction h1 with
 | one h1=>exact(m _ h.mem _ h1).1
 | step _ u A=>exact(m _ A _ u).1
theorem tv.acz(h:tv l rev k bg L i q) (hi:L.length≤i) (x y:Key):y∈bg x↔(y=k∨bR l rev k y)∧Ld l rev y x:=by
 rw [← h.done hi y];refine⟨h.bk x y,fun⟨h1,o⟩=>?_⟩;obtain⟨j,m⟩:=List.mem_iff_getElem?.1 h1
 have:=(List.getElem?_eq_some_iff.1 m).1
 exact(h.cl j y (by omega) m x o).2
structure xT (l:List Rec) (rev:Int) (k:Key) (bg:Key→List Key) (L:List Key) (i q:Nat):Prop where
 j0:L.Nodup
 mem:k∈L
 sub:∀x∈L,x=k∨xM l rev k x
 cl:∀j y,j<i→L[j]?=some y→∀x∈bg y,x∈L
 cur:∀y,L[i]?=some y→∀x∈(bg y).take q,x∈L
theorem xT.start:xT l rev k bg [k] 0 0:=⟨by simp,by simp,by simp,fun j y h=>by omega,fun y _ x m=>by simp at m⟩
theorem xT.le(h:xT l rev k bg L i q) (j:bU l rev k=true):L.length≤l.length:=by
 have:=eP h.j0 fun x m=>nb (l:=l) (rev:=rev) (by
  rcases h.sub x m with rfl | h1
  ·
   exact j
  exact h1.gC)
 simpa using this
theorem xT.has(h:xT l rev k bg L i q) (j:L[i]?=some y) (o:(bg y)[q]?=some x) (hm:x∈L):xT l rev k bg L i (q+1):=
 {h with
  cur:=fun A m t u=>by
   rw [j] at m
   cases m
   rcases nn o u with h1 | rfl
   ·
    exact h.cur y j t h1
   exact hm}
theorem xT.add(h:xT l rev k bg L i q) (I:∀x y,y∈bg x↔(y=k∨bR l rev k y)∧Ld l rev y x) (o:L[i]?=some y) (D:(bg y)[q]?=some x) (hm:x∉L):xT l rev k bg (L++[x]) i (q+1):=by
 have O:i<L.length:=(List.getElem?_eq_some_iff.1 o).1;obtain⟨h1,t⟩:=(I y x).1 (List.mem_of_getElem? D)
 have J:bR l rev k x:=by grind [mem]
 have N:bR l rev x k:=by
  rcases h.sub y (List.mem_of_getElem? o) with rfl | u
  ·
   exact .one t
  exact(bR.one t).trans u.2
 have qY:∀{j z},j≤i→(L++[x])[j]?=some z→L[j]?=some z:=fun E t=>by grind
 refine⟨by grind [j0],by simp [h.mem],fun z m=>?_,fun j F E A B C=>by simp [h.cl j F E (qY (by omega) A) B C],fun F A B C=>?_⟩
 ·
  rcases List.mem_append.1 m with m | m
  ·
   exact h.sub z m
  rw [List.mem_singleton] at m;subst m;exact .inr ⟨J,N⟩
 have G:=qY (Nat.le_refl _) A;rw [o] at G
 cases G
 rcases nn D C with u | rfl
 ·
  simp [h.cur y o B u]
 simp
theorem xT.next(h:xT l rev k bg L i q) (o:L[i]?=some y) (C:(bg y).length≤q):xT l rev k bg L (i+1) 0:=
 {h with
  cl:=fun j u D m t A=>by
   rcases Nat.lt_or_ge j i with h1 | h1
   ·
    exact h.cl j u h1 m t A
   have e:j=i:=by omega
   subst e;rw [o] at m
   cases m
   exact h.cur y o t (by grind [List.take_of_length_le])
  cur:=fun _ _ x B=>by simp at B}
theorem xT.done(h:xT l rev k bg L i q) (B:bU l rev k=true) (C:∀x y,y∈bg x↔(y=k∨bR l rev k y)∧Ld l rev y x) (hi:L.length≤i) (x:Key):x∈L↔x∈aB l rev k:=by
 have D:∀y∈L,∀x∈bg y,x∈L:=fun y m x o=>by
  obtain⟨j,A⟩:=List.mem_iff_getElem?.1 m
  have:=(List.getElem?_eq_some_iff.1 A).1
  exact h.cl j y (by omega) A x o
 rw [cL]
 constructor
 ·
  intro o
  exact(h.sub x o).imp id fun h1=>⟨B,h1⟩
 rintro(rfl | ⟨_,h1,t⟩)
 ·
  exact h.mem
 have key:∀{x y:Key},bR l rev x y→(x=k∨bR l rev k x)→y∈L→x∈L:=by
  intro x y t h1
  induction t with
  | one u=>grind
  | step u E F=>
   refine fun m=>F (D _ m _ ((C _ _).2 ⟨.inr ?_,E⟩))
   rcases h1 with rfl | h1
   ·
    exact u
   exact h1.trans u
 exact key t (.inr h1) h.mem
theorem xT.group(h:xT l rev k bg L i q) (j:bU l rev k=true) (m:∀x y,y∈bg x↔(y=k∨bR l rev k y)∧Ld l rev y x) (hi:L.length≤i) {L':List Key}(o:yS L') (t:L'.Perm L):L'=aB l rev k:=
 yU o (rD _ _ _) fun x=>(t.mem_iff).trans (h.done j m hi x)
end
/-! ### what has changed, and why a key would be run -/
section
variable {val:Key→ByteArray}{x:cy}{k:Key}{r:Rec}
theorem QX(hi:ay k=true):aV val x k=(bw x.ab k).changed:=by unfold aV;rw [if_pos hi]
theorem QY(hi:ay k=false) (h:az x.ah k=none):aV val x k=x.ad:=by grind [aV]
theorem QZ(hi:ay k=false) (h:az x.ah k=some r) (j:r.av=x.ad):aV val x k=r.changed:=by grind [aV,aQ]
theorem Gp(hi:ay k=false) (h:az x.ah k=some r) (j:¬r.av=x.ad):aV val x k=if val k=r.value then r.changed else x.ad:=by
 unfold aV
 rw [hi,aQ h,h]
 grind
def JD(val:Key→ByteArray) (x:cy) (c:od):Bool:=decide ((aC x.ah c.dP).av<aV val x c.read)
noncomputable def Mt(val:Key→ByteArray) (x:cy) (k:Key):Int × Key:=
 if (ay k || aA x k)=true then (0,eU)
 else match az x.ah k with
  | none=>(1,eU)
  | some r=>if r.bu=true then (3,eU) else
   match (bT x.ah (aB x.ah x.ad k)).find? (JD val x) with
   | none=>(0,eU)
   | some c=>(if c.dP=k then 2 else 3,c.read)
def KR(aa:List aG) (l:List Rec):Prop:=∀r∈l,eG aa r.key∧ay r.key=false∧∀a∈r.reads,eG aa a
theorem KR.acA{aa:List aG}{l:List Rec}(h:KR aa l):∀r∈l,cX r.key:=fun r hr=>(h r hr).1.cX
theorem KR.aD{aa:List aG}{l:List Rec}(h:KR aa l) (hi:ay k=true):az l k=none:=by
 cases j:az l k with
 | none=>rfl
 | some r=>
  obtain⟨h1,m⟩:=aK j
  have:=(h r h1).2.1
  grind
theorem Gq{l:List Rec}{rev:Int}(j:az l k=some r):∀m∈aB l rev k,∃q,az l m=some q:=fun m hm=>by
 rcases cL.1 hm with rfl | ⟨_,h⟩
 ·
  exact⟨r,j⟩
 obtain⟨q,o,_⟩:=bS.1 h.gC;exact⟨q,o⟩
theorem Hp{l:List Rec}(hr:∀r∈l,r.reads.length≤4000) {group:List Key}(h:group.length≤4001) (i:Nat):((group.take i).flatMap fun m=>cY group m (aC l m).reads).length≤100000000:=by
 have h1:∀s:List Key,(s.flatMap fun m=>cY group m (aC l m).reads).length≤s.length*4000:=by
  intro s
  induction s with
  | nil=>simp
  | cons m s j=>
   simp only [List.flatMap_cons,List.length_append,List.length_cons];have o:=jU group m (aC l m).reads
   have t:(aC l m).reads.length≤4000:=by
    cases u:az l m with
    | none=>grind [aC,mW]
    | some r=>grind [aQ,aK]
   rw [Nat.add_mul]
   omega
 grind
end
end Go.Rc

namespace Go.Rc
open Go
theorem nt(n:cv):∀l:List cv,(fQ n l false).find? (fun x=>x.key == n.key)=some n
 | []=>by simp [fQ]
 | x::xs=>by
  by_cases h:0≤bA x.key n.key
  ·
   simp [fQ,h]
  have h0:¬bA x.key n.key=0:=by omega
  have j:(x.key == n.key)=false:=by
   rw [beq_eq_false_iff_ne];intro e;rw [e,ir] at h0;exact h0 rfl
  have:=nt n xs
  simp [fQ,h,h0,j,this]
theorem kj(n:cv) (l:List cv):bw (fQ n l false) n.key=n:=by grind [bw,nt]
structure VS (x:cy) (l:List Change) (y:cy):Prop where
 same:∀k,(∀c∈l,c.key≠k)→bw y.ab k=bw x.ab k
 how:(y.ad=x.ad∧y.ab=x.ab)∨(y.ad=x.ad+1∧∀k,bw y.ab k=bw x.ab k∨(bw y.ab k).changed=x.ad+1)
theorem VS.refl(x:cy) (l:List Change):VS x l x:=⟨fun _ _=>rfl,.inl ⟨rfl,rfl⟩⟩
theorem Mu{rev:Int}{l li:List cv}(h:∀k,bw li k=bw l k∨(bw li k).changed=rev) (n:cv) (hn:n.changed=rev) (k:Key):bw (fQ n li false) k=bw l k∨(bw (fQ n li false) k).changed=rev:=by
 by_cases e:n.key=k
 ·
  grind [kj]
 rw [nZ e];exact h k
/-! ### tasks -/
section
variable {aa:List aG}{H:Int→List cv}{x b:cy}{bf:List Key}{k:Key}
theorem TI.begin(E:aq aa) (h:TI aa H x b [] bf) (hk:eG aa k) (hn:cE b [] k=true):TI aa H x b [⟨k,false,0,[],[]⟩] bf:=by
 have F:¬(ay k=true∨fY [] k=true∨aA b k=true):=fun h=>by grind [gP]
 have h1:ay k=false:=by grind
 have t:aA b k=false:=by grind
 obtain⟨m,hm,u,_⟩:=hk.gF h1;refine⟨h.bi.Mn fun y A=>?_,h.wy,?_,fun f o=>?_⟩
 ·
  simp [fY] at A
 ·
  have:=TI.snoc (aa:=aa) (H:=H) (b0:=x) (b:=b) (p:=[]) (f:=⟨k,false,0,[],[]⟩) (fun p1 g q B=>by cases p1 <;> cases B) ⟨⟨m,hm,u⟩,rfl,fun i j _ _ _ C=>(by simp [fY] at C),fun hc=>(by cases hc),fun _=>⟨rfl,rfl,Int.le_refl _,fun _ j c D=>(by simp at D)⟩⟩
  exact this
 rw [List.mem_singleton] at o;subst o;refine⟨fun hr=>?_,h.wy.uL t⟩
 have:=h.wy.Jw k hr
 grind
def TO(aa:List aG) (x:cy) (t:qc):Prop:=∃H:Int→List cv,TI aa H x t.base t.stack t.bf
theorem TO.start(h:Bh aa x) (goals:List Key):TO aa x ⟨aa,x,goals,[],[]⟩:=by
 obtain⟨H,h⟩:=h;exact⟨H,h.Mn fun k hk=>(by cases hk),Wy.start x,fun p f q j=>(by cases p <;> cases j),fun f m=>(by cases m)⟩
theorem TO.of{t:qc}(h:Bh aa t.base) (j:t.stack=[]) (hr:t.bf=[]):TO aa t.base t:=by
 obtain⟨H,h⟩:=h;refine⟨H,?_⟩;rw [j,hr];exact⟨h.Mn fun k hk=>(by cases hk),Wy.start _,fun p f q m=>(by cases p <;> cases m),fun f o=>(by cases o)⟩
theorem Mv{aD:List cv}{rev:Int}(hb:BK aa aD rev b) (m:aA b k=false) (j:(!(az b.ah k).isSome || (aC b.ah k).bu)=false):Live b.ah b.ad k:=by
 cases h:az b.ah k with
 | none=>rw [h] at j;cases j
 | some r=>
  rw [h,aQ h] at j;have o:r.av≤b.ad:=(hb.tN.v r (aK h).1).2
  have t:r.av≠b.ad:=fun e=>by grind [aT]
  exact⟨r,h,by simpa using j,by omega⟩
theorem TO.begin{t:qc}(j:aq aa) (h:TO aa x t) (m:t.stack=[]) (hk:eG aa k) (hn:cE t.base [] k=true) (g:List Key):TO aa x {t with goals:=g,stack:=[⟨k,false,0,[],[]⟩]}:=by
 obtain⟨H,h⟩:=h;rw [m] at h;exact⟨H,h.begin j hk hn⟩
theorem TO.goals{t:qc}(h:TO aa x t) (g:List Key):TO aa x {t with goals:=g}:=h
theorem TO.JE{t:qc}{b':cy}{l':List bm}{rk:List Key}{er:Int}(m:aq aa) (h:TO aa x t) (o:Good aa x.ab ⟨t.base,[],[],0⟩) (j:∃p f,p++[f]=t.stack∧FS aa (valOf aa x.ab) t.base p f b' l' rk er):er=0∧TO aa x {t with base:=b',stack:=l',bf:=t.bf++rk}:=by
 obtain⟨H,h⟩:=h;obtain⟨p,f,u,j⟩:=j;rw [← u] at h;obtain⟨h1,A⟩:=lY m h o j;exact⟨h1,H,A⟩
/-! ### cancelled tasks -/
def eM(l:List bm) (rs:List Rec):List Rec:=l.foldl (fun rs f=>if ax f.key then ft rs f.key else rs) rs
theorem qj(l:List bm) (f:bm) (rs:List Rec):eM (l++[f]) rs=if ax f.key then ft (eM l rs) f.key else eM l rs:=by grind [eM]
theorem Eu(rs:List Rec) (k:Key):(ft rs k).Sublist rs:=by grind [ft,List.filter_sublist]
theorem nv:∀(l:List bm) (rs:List Rec),(eM l rs).Sublist rs∧∀r,r∈eM l rs↔r∈rs∧(fY l r.key && ax r.key)=false
 | [],rs=>⟨List.Sublist.refl _,fun r=>by simp [eM,fY]⟩
 | f::l,rs=>by
  have e:eM (f::l) rs=eM l (if ax f.key then ft rs f.key else rs):=rfl;obtain⟨h1,h⟩:=nv l (if ax f.key then ft rs f.key else rs);rw [e];refine⟨h1.trans ?_,fun r=>?_⟩
  ·
   grind [Eu]
  rw [h r]
  have j:fY (f::l) r.key=(decide (f.key=r.key) || fY l r.key):=by simp [fY]
  rw [j]
  by_cases hc:ax f.key=true
  ·
   rw [if_pos hc]
   unfold ft
   grind
  grind
theorem TO.cancel{t:qc}(h:TO aa x t):Bh aa ⟨t.base.ad,t.base.ab,eM t.stack t.base.ah⟩∧(∀y∈t.bf,aA ⟨t.base.ad,t.base.ab,eM t.stack t.base.ah⟩ y=true)∧(∀y,aA x y=true→aA ⟨t.base.ad,t.base.ab,eM t.stack t.base.ah⟩ y=true)∧(∀y∈t.bf,ay y=false∧aA x y=false)∧t.bf.Nodup:=by
 obtain⟨H,h⟩:=h;obtain⟨h1,u⟩:=nv t.stack t.base.ah
 have hb:=h.bi.drop h1 fun r hr=>((u r).1 hr).2
 have B:pG (eM t.stack t.base.ah):=hb.st
 have jt:∀y,aA t.base y=true→fY t.stack y=false→aA ⟨t.base.ad,t.base.ab,eM t.stack t.base.ah⟩ y=true:=fun y hu hn=>by
  obtain⟨r,hr,C⟩:=aT.1 hu;obtain⟨g1,g2⟩:=aK hr
  grind [aT,hJ]
 have o:∀y,(∀f∈t.stack,f.key≠y)→fY t.stack y=false:=fun y j=>by grind [fY]
 refine⟨⟨H,hb⟩,fun y j=>jt y (h.wy.Jw y j) (o y fun f m e=>?_),fun y j=>jt y ?_ (o y fun f m e=>?_),fun y j=>⟨(h.wy.bf y j).1,(h.wy.bf y j).2.1⟩,h.wy.j0⟩
 ·
  rw [← e] at j;exact(h.nr f m).1 j
 ·
  have:=h.wy.ev
  have A:t.base.ad=x.ad:=h.wy.rev;exact this.aA A j
 have:=(h.nr f m).2
 rw [e,j] at this
 cases this
/-! ### bases of the mill -/
structure LC (aa:List aG) (x:cy):Prop where
 lb:LB aa x
 bh:Bh aa x
theorem LC.apply(h:LC aa x) {y:cy}{l:List Change}(j:VS x l y) (hr:y.ah=x.ah) (h0:x.ad≤y.ad) (h1:y.ad≤1073741824) (m:jx y.ad y.ab) (o:y.ab.length≤64):LC aa y:=by
 refine⟨h.lb.apply hr h0 h1 m o,?_⟩
 rcases j.how with⟨e1,e2⟩ | ⟨e1,e2⟩
 ·
  obtain⟨t,u,A⟩:=y;simp only at hr e1 e2;subst hr e1 e2;exact h.bh
 exact h.bh.apply hr e1 fun k=>by rw [e1];exact e2 k
theorem LC.sub(h:LC aa x) {rs:List Rec}(j:rs.Sublist x.ah):LC aa ⟨x.ad,x.ab,rs⟩:=⟨h.lb.sub j,h.bh.drop j⟩
theorem LC.task{t:qc}(h:LC aa x) (hb:BK aa x.ab x.ad t.base) (ht:TO aa x t):LC aa ⟨t.base.ad,t.base.ab,eM t.stack t.base.ah⟩:=⟨h.lb.task hb (nv _ _).1,ht.cancel.1⟩
theorem LC.req(j:aq aa) (h:LC aa x) {goals:List Key}(u:∀k∈goals,lQ aa k) (A:goals.length≤32):∃(f:Nat) (s':ES),gB aa x goals=0∧Good aa x.ab ⟨x,[],[],0⟩∧(∀k∈goals,eG aa k)∧dK aa (valOf aa x.ab) f ⟨x,[],[],0⟩ goals=some s'∧s'.bf.length≤1000000∧LC aa (s'.base x)∧(s'.base x).ad=x.ad∧s'.e=0∧s'.base x=s'.b∧Wy aa x s'∧(∀k∈goals,ay k=false→aA s'.b k=true)∧∀r∈s'.b.ah,r.av=s'.b.ad→r.value=valOf aa x.ab r.key:=by
 obtain⟨f,s',h1,m,o,t,B,C,D⟩:=h.lb.req j u A;obtain⟨g1,g2,g3,g4,g5,g6⟩:=h.bh.request j m o t
 have e:s'.base x=s'.b:=by unfold ES.base;rw [if_pos g1]
 exact⟨f,s',h1,m,o,t,B,⟨C,by rw [e];exact g2⟩,D,g1,e,g3,g5,g6⟩
theorem LC.nil(aa:List aG) (y:cy) (hr:y.ah=[]) (h0:0≤y.ad) (h1:y.ad≤1073741824) (h:jx y.ad y.ab) (j:y.ab.length≤64):LC aa y:=by
 refine⟨LB.nil y hr h0 h1 h j,?_⟩;obtain⟨m,o,t⟩:=y
 grind [Bh.new]
end
/-! ### reasons -/
section
variable {aa:List aG}{x y:cy}{k:Key}{s:ES}
theorem Wy.runs(h:Wy aa x s) (hw:Hn (valOf aa x.ab) x k) (hu:aA s.b k=true):k∈s.bf:=by
 obtain⟨_,hn,hc⟩:=hw
 rcases h.mrk k hn hu with h1 | h1
 ·
  exact h1
 have j:=h.ev.pt k
 have m:∀r,az s.b.ah k=some r→r.av=x.ad:=fun r hr=>by grind [aT,rev]
 rcases j with e | ⟨_,r,e1,e2,e3,_⟩ | ⟨⟨e1,_⟩,_⟩
 ·
  grind [aT]
 ·
  grind [aQ]
 exact e1
end
end Go.Rc

namespace Go.Rc
open Go
structure AO (x:cy) (l:List Change) (y:cy):Prop where
 one:∀c,l=[c]→(bw x.ab c.key).value≠c.value→x.ad+1≤1073741824→y=⟨x.ad+1,fQ ⟨c.key,c.value,x.ad+1⟩ x.ab false,x.ah⟩
 QO:∀k,bw y.ab k=bw x.ab k∨(bw y.ab k).value≠(bw x.ab k).value
 src:∀k,bw y.ab k=bw x.ab k∨∃c∈l,(bw y.ab k).value=c.value
structure Hq (x:cy) (l:List Change) (i:Nat) (ch:Bool) (li:List cv):Prop where
 one:∀c,l=[c]→(i=0∧ch=false∧li=x.ab)∨(i=1∧((bw x.ab c.key).value=c.value∨(ch=true∧li=fQ ⟨c.key,c.value,x.ad+1⟩ x.ab false)))
 QO:∀k,bw li k=bw x.ab k∨(bw li k).value≠(bw x.ab k).value
 src:∀k,bw li k=bw x.ab k∨∃c∈l,(bw li k).value=c.value
section
variable {x:cy}{l:List Change}{i:Nat}{ch:Bool}{li:List cv}
theorem Hq.start:Hq x l 0 false x.ab:=⟨fun _ _=>.inl ⟨rfl,rfl,rfl⟩,fun _=>.inl rfl,fun _=>.inl rfl⟩
theorem Hq.skip(h:Hq x l i ch li) (hi:i<l.length) {j:Bool}(h1:l.length=i+1→j=true) (g:(!j || decide ((bw x.ab l[i].key).value=l[i].value))=true):Hq x l (i+1) ch li:=by
 refine⟨fun c e=>?_,h.QO,h.src⟩;subst e
 have h0:i=0:=by simpa using hi
 subst h0;rw [h1 rfl] at g;exact .inr ⟨rfl,.inl (by simpa using g)⟩
theorem Hq.put(h:Hq x l i ch li) (hi:i<l.length) {m:Bool}(g:(!m || decide ((bw x.ab l[i].key).value=l[i].value))=false):Hq x l (i+1) true (fQ ⟨l[i].key,l[i].value,x.ad+1⟩ li false):=by
 refine⟨fun c e=>?_,fun k=>?_,fun k=>?_⟩
 ·
  subst e
  have h0:i=0:=by simpa using hi
  subst h0
  rcases h.one c rfl with⟨_,_,e⟩ | ⟨e,_⟩
  ·
   subst e;exact .inr ⟨rfl,.inr ⟨rfl,rfl⟩⟩
  cases e
 ·
  by_cases e:l[i].key=k
  ·
   subst e;have j:=kj ⟨l[i].key,l[i].value,x.ad+1⟩ li;simp only at j;rw [j]
   simp at g
   exact .inr fun e=>g.2 e.symm
  rw [nZ e];exact h.QO k
 by_cases e:l[i].key=k
 ·
  subst e;have j:=kj ⟨l[i].key,l[i].value,x.ad+1⟩ li;simp only at j;rw [j];exact .inr ⟨l[i],List.getElem_mem hi,rfl⟩
 rw [nZ e];exact h.src k
theorem Hq.same(h:Hq x l i ch li) (hi:l.length≤i) (hc:ch=false):AO x l x:=by
 refine⟨fun c e j _=>?_,fun _=>.inl rfl,fun _=>.inl rfl⟩;subst e
 rcases h.one c rfl with⟨e,_⟩ | ⟨_,e | ⟨e,_⟩⟩
 ·
  subst e;simp at hi
 ·
  exact absurd e j
 rw [hc] at e;cases e
theorem Hq.done(h:Hq x l i ch li) (hi:l.length≤i):AO x l ⟨x.ad+1,li,x.ah⟩:=by
 refine⟨fun c e j _=>?_,h.QO,h.src⟩;subst e
 rcases h.one c rfl with⟨e,_⟩ | ⟨_,e | ⟨_,e⟩⟩
 ·
  subst e;simp at hi
 ·
  exact absurd e j
 rw [e]
end
end Go.Rc

namespace Go.Rc
open Go
instance:Inhabited Key:=⟨eU⟩
theorem Hr{w w':World}(h:aS [] w w'):∃q os,w'=Sort.grow (w.drewN q) os:=by
 refine⟨w'.drawn - w.drawn,w'.heap.extract w.heap.size w'.heap.size,?_⟩;obtain⟨o,ht,hu,t,u,hb⟩:=h
 have j:w'.heap=w.heap++w'.heap.extract w.heap.size w'.heap.size:=by grind
 have m:w'.drawn=w.drawn+(w'.drawn - w.drawn):=by omega
 generalize w'.heap.extract w.heap.size w'.heap.size=os at j
 generalize w'.drawn - w.drawn=q at m
 cases w'
 cases w
 simp only at o ht hu j m;subst o ht hu j m
 rfl
section
variable {α:Type} [Inhabited α] {row:α→List Value}{k:Nat}{key:α→Key}
theorem Gr:Sort.SWO (Proofs.ltOf fun x y=>bA (key x) (key y)):=by
 refine⟨fun x=>?_,fun x y z h1 h=>?_,fun x y z h1 h=>?_⟩
 ·
  grind [Proofs.ltOf,ir]
 ·
  unfold Proofs.ltOf at *
  rw [decide_eq_true_eq] at *;exact ie h1 h
 grind [Proofs.ltOf,je,ie,lW]
theorem yZ(hk:∀x,(row x).length=k) (l:List α):(l.map row).flatten.length=l.length*k:=by
 induction l with
 | nil=>simp
 | cons x r h=>simp only [List.map_cons,List.flatten_cons,List.length_append,List.length_cons,Nat.add_mul,h,hk];omega
theorem BV(hk:∀x,(row x).length=k) (l:List α) (t:Nat) (ht:t<l.length*k):(l.map row).flatten[t]?=some ((row (l.toArray[t / k]!))[t % k]!):=by
 have h0:0<k:=by rcases Nat.eq_zero_or_pos k with h | h;subst h;omega;exact h
 have hi:t / k<l.length:=(Nat.div_lt_iff_lt_mul h0).2 ht
 have hr:(l.map row)[t / k]?=some (row l[t / k]):=by grind
 have e:t=t / k*k+t % k:=by rw [Nat.mul_comm];exact(Nat.div_add_mod t k).symm
 have h1:(l.toArray[t / k]!)=l[t / k]:=by simp [hi]
 rw [h1];have hm:t % k<k:=Nat.mod_lt _ h0
 have h:=mR (l.map row) k (t / k) _ (fun r hr=>by obtain⟨x,_,rfl⟩:=List.mem_map.1 hr;exact hk x) hr (t % k) ((row l[t / k])[t % k]!) (by
  rw [List.getElem?_eq_getElem (by rw [hk];exact hm),getElem!_pos])
 rw [← e] at h;exact h
theorem Hs(hk:∀x,(row x).length=k) {w:World}{b E:Nat}{cur:Array Value}{l:List α}(hb:w.heap[b]?=some (.cells cur E (0,0))) (ht:cur.toList.take (l.length*k)=(l.map row).flatten):Sort.HoldsK row k w b 0 l.toArray:=by
 unfold Sort.HoldsK
 intro j h;rw [Sort.size_flatK,List.size_toArray] at h;have h1:=BV hk l j h;rw [← ht,List.getElem?_take,if_pos h,Array.getElem?_toList] at h1;refine⟨?_,?_⟩
 ·
  unfold World.cell?
  simp only [hb,Nat.zero_add]
  grind [Sort.get_flatK]
 grind [World.frozen?]
theorem Mw(hk:∀x,(row x).length=k) {w:World}{b E m:Nat}{os:Array Obj}{cur:Array Value}{l l':List α}(hb:w.heap[b]?=some (.cells cur E (0,0))) (ht:cur.toList.take (l.length*k)=(l.map row).flatten) (hl:l'.length=l.length):∃oR:Array Value,(Proofs.sortWorldK row k w b 0 m l'.toArray os).heap[b]?=some (.cells oR E (0,0))∧oR.size=cur.size∧oR.toList.take (l'.length*k)=(l'.map row).flatten:=by
 have j:b<w.heap.size:=(Array.getElem?_eq_some_iff.1 hb).1;refine⟨Sort.putCells id 0 (Sort.flatK row k l'.toArray) cur,?_,by unfold Sort.putCells;simp,?_⟩
 ·
  unfold Proofs.sortWorldK
  rw [Sort.heap_grow_old _ _ (by grind [Sort.putRowK,Sort.putRow,Sort.mapBlock,Sort.ahead])]
  unfold Sort.putRowK Sort.putRow Sort.mapBlock Sort.ahead
  simp only [Array.getElem?_modify,if_true,hb]
  rfl
 have hlen:l.length*k≤cur.size:=by
  have h1:=congrArg List.length ht;have o:=yZ hk l
  grind
 apply List.ext_getElem?
 intro t
 by_cases h:t<l'.length*k
 ·
  rw [BV hk l' t h,List.getElem?_take,if_pos h,Array.getElem?_toList]
  unfold Sort.putCells
  rw [hl] at h;rw [Array.getElem?_mapIdx,Array.getElem?_eq_getElem (by omega),Option.map_some];rw [if_pos ⟨Nat.zero_le _,by simp_all⟩,Nat.sub_zero,Sort.get_flatK _ _ _ _ (by rw [List.size_toArray,hl];exact h)]
  rfl
 rw [List.getElem?_eq_none (by rw [List.length_take];omega),List.getElem?_eq_none (by rw [yZ hk];omega)]
theorem JF{w:World}{b m:Nat}{os:Array Obj}{d:Array α}:aS [b] w (Proofs.sortWorldK row k w b 0 m d os):=by
 refine⟨rfl,rfl,rfl,?_,?_,fun k hk hn=>?_⟩
 ·
  unfold Proofs.sortWorldK Sort.grow Sort.putRowK Sort.putRow Sort.mapBlock Sort.ahead
  simp
 ·
  exact Nat.le_add_right _ _
 unfold Proofs.sortWorldK
 rw [Sort.heap_grow_old _ _ (by grind [Sort.putRowK,Sort.putRow,Sort.mapBlock,Sort.ahead])]
 unfold Sort.putRowK Sort.putRow Sort.mapBlock Sort.ahead
 grind
theorem xU{P:Program}{F g E:Nat}(hk:∀x,(row x).length=k) (h1:∀x,∀v∈row x,v.oneCell'=true) (G:∀(blk cap:Nat) (d:Array α) (w:World),Proofs.CmpLays P g #[] row k (fun x y=>bA (key x) (key y)) blk 0 d.size w→Sort.HoldsK row k w blk 0 d→blk<w.heap.size→d.size<4611686018427387904→Calls P F #[.slice (some ⟨blk,0,none⟩) d.size cap,.func (.func g) #[] #[]] w fun e w'=>e=.returned (.tuple #[])∧∃d' n os,Sort.PermIn 0 d.size d d'∧Sort.SortedIn (Proofs.ltOf fun x y=>bA (key x) (key y)) 0 d.size d'∧w'=Proofs.sortWorldK row k w blk 0 n d' os)
  (hcmp:∀(x y:α) (w:World),Calls P g #[.agg (row x).toArray,.agg (row y).toArray] w fun e w'=>e=.returned (.int .i64 (bA (key x) (key y)))∧aS [] w w')
  {l:List α}{a:Option Addr}{n c:Nat}{w:World}{M Z:Nat→Prop}(A:St w M Z w [As.os (RR.flat row) E k a n c l]) (h0:l≠[]) (hn:l.length≤1000000):Calls P F #[.slice a n c,.func (.func g) #[] #[]] w fun e w'=>e=.returned (.tuple #[])∧∃l',l'.Perm l∧(l'.Pairwise fun x y=>¬bA (key y) (key x)<0)∧St w M Z w' [As.os (RR.flat row) E k a n c l']:=by
 have I:=As.gs A.g0;obtain⟨o,rows,Y,Uw,J,N⟩:=id I
 have O:rows=l.map row:=by
  apply List.ext_getElem?
  intro i;rw [List.getElem?_map]
  by_cases hi:i<l.length
  ·
   rw [List.getElem?_eq_getElem (by omega),List.getElem?_eq_getElem hi]
   have:=N i l[i] rows[i] (List.getElem?_eq_getElem hi) (List.getElem?_eq_getElem (by omega))
   rw [RR.a8 this]
   rfl
  grind
 rcases J.cases with⟨g1,g2,_⟩ | ⟨b,cur,rfl,Q0,hb,Q,R,S,ht⟩
 ·
  grind
 rw [O,o] at ht;have U:b<w.heap.size:=(Array.getElem?_eq_some_iff.1 hb).1
 have hc:Proofs.CmpLays P g #[] row k (fun x y=>bA (key x) (key y)) b 0 l.toArray.size w:=fun m os dk _ x y=>(hcmp x y _).mono fun e w' ⟨h1,V⟩=>⟨h1,Hr V⟩
 have B:=G b c l.toArray w hc (Hs hk hb ht) U (by rw [List.size_toArray];omega);rw [List.size_toArray,← o] at B;refine B.mono ?_;rintro e w' ⟨rfl,d',m,os,⟨t,_,W⟩,C,rfl⟩;rw [o] at W C
 have t:d'.size=l.length:=by rw [t,List.size_toArray]
 have D:d'.toList.Perm l:=by grind [Array.extract_size]
 obtain⟨l',rfl⟩:∃l':List α,d'=l'.toArray:=⟨d'.toList,by simp⟩
 have hl:l'.length=l.length:=by simpa using t
 simp only at D;obtain⟨oR,g1,g2,g3⟩:=Mw hk (m:=m) (os:=os) hb ht hl;refine⟨rfl,l',D,?_,?_⟩
 ·
  rw [List.pairwise_iff_getElem];intro i j hi hj X;have h1:=C i j (Nat.zero_le _) X (by omega)
  grind [Proofs.ltOf]
 refine A.eV (w':=Proofs.sortWorldK row k w b 0 m l'.toArray os) (JF.mono fun x h=>by simpa [aI] using h) ?_ (fun x h=>.inl h);refine⟨by omega,l'.map row,by simp,fun r hr=>by obtain⟨x,_,rfl⟩:=List.mem_map.1 hr;exact hk x,?_,fun i x r h hr=>?_⟩
 ·
  refine⟨fun u hu=>?_,?_,.inr ⟨b,c,oR,rfl,Nat.zero_le _,g1,Q,R,by rw [g2];exact S,by grind⟩⟩
  ·
   obtain⟨r,hr,hu⟩:=List.mem_flatten.1 hu;obtain⟨x,_,rfl⟩:=List.mem_map.1 hr;exact h1 x u hu
  rw [yZ hk]
  grind
 rw [List.getElem?_map,h] at hr
 cases hr
 rfl
end
end Go.Rc

namespace Go.Rc
open Go
inductive hK (aa:List aG) (val:Key→ByteArray) (goals:List Key) (x:cy):cy→List bm→List Key→Prop where
 | start:hK aa val goals x x [] []
 | take {b:cy}{bf:List Key}{k:Key}:hK aa val goals x b [] bf→k∈goals→cE b [] k=true→hK aa val goals x b [⟨k,false,0,[],[]⟩] bf
 | step {b b':cy}{p l':List bm}{f:bm}{bf rk:List Key}:hK aa val goals x b (p++[f]) bf→FS aa val b p f b' l' rk 0→l'≠p++[f]→hK aa val goals x b' l' (bf++rk)
section
variable {aa:List aG}{H:Int→List cv}{x b b':cy}{p q l l':List bm}{f g:bm}{bf rk goals:List Key}{k y:Key}{val:Key→ByteArray}{er:Int}
theorem FS.ups(j:FS aa val b p f b' l' rk er) (hu:aA b y=true):aA b' y=true:=by
 have hm:∀G,aA (cH b G false) y=true:=fun G=>by
  obtain⟨r,hr,h⟩:=aT.1 hu;refine aT.2 ⟨a7 b.ad G false r,bZ.trans (by rw [hr];rfl),?_⟩
  unfold a7
  grind [cH]
 cases j with
 | put=>
  obtain⟨r,hr,h⟩:=aT.1 hu;rw [aT];simp only [cT]
  by_cases e:y=(bJ b f.key (aH aa f.key f.ae).value f.reads).key
  ·
   rw [if_pos e];exact⟨_,rfl,rfl⟩
  rw [if_neg e];exact⟨r,hr,h⟩
 | mark=>exact hm _
 | fail=>
  split
  ·
   rw [nq];exact hu
  exact hu
 | _=>exact hu
theorem FS.bot(j:FS aa val b p f b' l' rk er) (hb:aA b k=true∨∃g q,p++[f]=g::q∧g.key=k):aA b' k=true∨∃g q,l'=g::q∧g.key=k:=by
 rcases hb with hb | ⟨g,q,e,hk⟩
 ·
  exact .inl (j.ups hb)
 have key:∀{z:bm}{r:List bm},z.key=f.key→∃g q,p++z::r=g::q∧g.key=k:=fun {z r} o=>by
  cases p with
  | nil=>
   simp only [List.nil_append,List.cons.injEq] at e ⊢;exact⟨z,r,⟨rfl,rfl⟩,by rw [o,e.1,hk]⟩
  | cons a m=>
   simp only [List.cons_append,List.cons.injEq] at e ⊢;exact⟨a,_,⟨rfl,rfl⟩,by rw [e.1,hk]⟩
 have h:aA b' f.key=true→aA b' k=true∨∃g q,p=g::q∧g.key=k:=fun hu=>by
  cases p with
  | nil=>
   simp only [List.nil_append,List.cons.injEq] at e;exact .inl (by rw [← hk,← e.1];exact hu)
  | cons a m=>
   simp only [List.cons_append,List.cons.injEq] at e;exact .inr ⟨a,m,rfl,by rw [e.1,hk]⟩
 cases j with
 | put=>exact h (jd (r:=bJ b f.key (aH aa f.key f.ae).value f.reads) rfl)
 | up _ hu=>exact h hu
 | mark _ hl=>
  obtain⟨r,h1,_⟩:=hl;exact h (gT (by rw [h1];rfl) fy)
 | push=>exact .inr (by rw [List.append_assoc];exact key rfl)
 | uQ=>exact .inr (by rw [List.append_assoc];exact key rfl)
 | _=>exact .inr (key rfl)
theorem FS.keeps(m:aq aa) {aD:List cv}{rev:Int}(hb:BK aa aD rev b) (t:∀g∈p++[f],fx aa g) (D:FS aa val b p f b' l' rk 0) (hn:(!(az b.ah f.key).isSome && decide (4000≤b.ah.length))=false):BK aa aD rev b'∧∀g∈l',fx aa g:=by
 have h:fx aa f:=t f (by simp);have u:∀g∈p,fx aa g:=fun g A=>t g (List.mem_append_left _ A)
 have o:∀{z:bm},fx aa z→∀g∈p++[z],fx aa g:=fun E g A=>by grind
 have B:∀{z:bm},fx aa z→∀g∈p++[f]++[z],fx aa g:=fun E g A=>by grind
 cases D with
 | stay=>exact⟨hb,t⟩
 | put hr j=>
  have hl:=h.len;have F:=h.gF.le m;exact⟨hb.put h.key ⟨by show f.reads.length≤4000;omega,h.AD⟩ hn (pa m hb.tN h.gF j h.len h.AD) (Int.le_refl _),u⟩
 | push hr j hl=>
  obtain⟨C,h1⟩:=h.gF.next m j;exact⟨hb,B (fx.new h1 (lX hl))⟩
 | read hr j h1 G=>
  obtain⟨C,h1⟩:=h.gF.next m j;exact⟨hb,o (h.read h1 C)⟩
 | up=>exact⟨hb,u⟩
 | start=>exact⟨hb,o h.runs⟩
 | mark=>exact⟨hb.BC _,u⟩
 | uQ c hr hl hc hk=>exact⟨hb,B (fx.new (fP hb.fR hc) (lX hk))⟩
 | pass=>exact⟨hb,o h.step⟩
 | fail=>
  refine⟨?_,o h.runs⟩
  split
  ·
   rename_i hc
   exact hb.BD (o9 hc)
  exact hb
/-! ### the end -/
theorem TI.nodup(h:TI aa H x b l bf):(l.map (·.key)).Nodup:=by
 refine List.pairwise_iff_getElem.2 fun i j hi m t=>?_;simp only [List.length_map] at hi m;simp only [List.getElem_map];intro e;have o:=h.fr (l.take j) l[j] (l.drop (j+1)) (by simp);have hn:=o.new
 unfold fY at hn
 rw [List.any_eq_false] at hn;refine hn l[i] (List.mem_take_iff_getElem.2 ⟨i,by omega,rfl⟩) ?_
 simpa using e
theorem TI.eT(h:TI aa H x b l bf) (j:f∈l):∃i:Nat,i<aa.length∧f.key=aM aa (i:Int):=by
 obtain⟨p1,q1,m⟩:=List.append_of_mem j;exact(h.fr p1 f q1 m).key
theorem TI.Ew(h:TI aa H x b l bf):l.length≤aa.length:=by
 have:=eP h.nodup (S:=(List.range aa.length).map fun i:Nat=>aM aa (i:Int)) fun k hk=>by
  obtain⟨f,j,rfl⟩:=List.mem_map.1 hk;obtain⟨i,hi,e⟩:=h.eT j;exact List.mem_map.2 ⟨i,List.mem_range.2 hi,e.symm⟩
 simpa using this
def AJ(aa:List aG) (b:cy):Nat:=Dt (fun i=>!aA b (aM aa (i:Int))) aa.length
def xV(f:bm):Nat:=if f.running then 10000 - f.reads.length else 10001+(200000000 - f.at_.toNat)
def Ux(aa:List aG) (b:cy) (l:List bm):Nat:=
 ((AJ aa b*100+l.countP fun f=>aA b f.key)*100+(50 - l.countP fun f=>!aA b f.key))*1000000000+(l.getLast?.map xV).getD 0
theorem Q1(f:bm):xV f≤200010001:=by
 unfold xV
 split <;> omega
theorem JG(h:bm→Bool) (l:List bm):l.countP h+l.countP (fun f=>!h f)=l.length:=by
 induction l with
 | nil=>rfl
 | cons a l j=>
  simp only [List.countP_cons,List.length_cons]
  cases h a <;> simp <;> omega
theorem JH{n u v t m j v' o:Nat}(h1:u+v≤24) (A:j+v'≤24) (ht:o≤200010001) (h:m<n∨m=n∧(j<u∨j=u∧(v<v'∨v'=v∧o<t))):((m*100+j)*100+(50 - v'))*1000000000+o<((n*100+u)*100+(50 - v))*1000000000+t:=by omega
theorem Q3(h:∀y,aA b y=true→aA b' y=true):AJ aa b'≤AJ aa b:=ry fun i _ j=>by
 cases m:aA b (aM aa (i:Int)) with
 | false=>rfl
 | true=>rw [h _ m] at j;cases j
theorem JI(h:∀y,aA b y=true→aA b' y=true) {i:Nat}(hi:i<aa.length) (h0:aA b (aM aa (i:Int))=false) (h1:aA b' (aM aa (i:Int))=true):AJ aa b'<AJ aa b:=
 rz (j:=i) (fun i _ m=>by
  cases o:aA b (aM aa (i:Int)) with
  | false=>rfl
  | true=>rw [h _ o] at m;cases m) hi (by rw [h0];rfl) (by rw [h1];rfl)
theorem Ht(D:aq aa) (h:TI aa H x b (p++[f]) bf) (E:TI aa H x b' l' (bf++rk)) (F:∀G:List Key,G.length≤4001→(bT b.ah G).length≤100000000) (hlen:b.ah.length≤4000) (S:f.reads.length<4000) (B:FS aa val b p f b' l' rk 0) (I:l'≠p++[f]):Ux aa b' l'<Ux aa b (p++[f]):=by
 have U:=D.1;have V:=h.Ew;have W:=E.Ew;have hc:=JG (fun f=>aA b f.key) (p++[f]);have X:=JG (fun f=>aA b' f.key) l'
 have J:(l'.getLast?.map xV).getD 0≤200010001:=by
  cases l'.getLast? with
  | none=>simp
  | some g=>exact Q1 g
 have u:=fun y=>B.ups (y:=y);obtain⟨i,hi,t⟩:=h.top.key;have Y:AJ aa b'≤AJ aa b:=Q3 u
 unfold Ux
 refine JH (by omega) (by omega) J ?_
 have N:((p++[f]).getLast?.map xV).getD 0=xV f:=by simp
 rw [N]
 have O:∀z:bm,((p++[z]).getLast?.map xV).getD 0=xV z:=fun z=>by simp
 have same:∀{z:bm},z.key=f.key→xV z<xV f→AJ aa b<AJ aa b∨AJ aa b=AJ aa b∧((p++[z]).countP (fun f=>aA b f.key)<(p++[f]).countP (fun f=>aA b f.key)∨(p++[z]).countP (fun f=>aA b f.key)=(p++[f]).countP (fun f=>aA b f.key)∧((p++[f]).countP (fun f=>!aA b f.key)<(p++[z]).countP (fun f=>!aA b f.key)∨(p++[z]).countP (fun f=>!aA b f.key)=(p++[f]).countP (fun f=>!aA b f.key)∧((p++[z]).getLast?.map xV).getD 0<xV f)):=fun {z} j m=>by
  refine .inr ⟨rfl,.inr ⟨?_,.inr ⟨?_,?_⟩⟩⟩
  ·
   simp only [List.countP_append,List.countP_singleton,j]
  ·
   simp only [List.countP_append,List.countP_singleton,j]
  rw [O];exact m
 have push:∀{z:bm},aA b z.key=false→AJ aa b<AJ aa b∨AJ aa b=AJ aa b∧((p++[f]++[z]).countP (fun f=>aA b f.key)<(p++[f]).countP (fun f=>aA b f.key)∨(p++[f]++[z]).countP (fun f=>aA b f.key)=(p++[f]).countP (fun f=>aA b f.key)∧((p++[f]).countP (fun f=>!aA b f.key)<(p++[f]++[z]).countP (fun f=>!aA b f.key)∨(p++[f]++[z]).countP (fun f=>!aA b f.key)=(p++[f]).countP (fun f=>!aA b f.key)∧((p++[f]++[z]).getLast?.map xV).getD 0<xV f)):=fun {z} j=>by
  refine .inr ⟨rfl,.inr ⟨?_,.inl ?_⟩⟩
  ·
   rw [List.countP_append (l₁:=p++[f]),List.countP_singleton,j]
   rfl
  rw [List.countP_append (l₁:=p++[f]),List.countP_singleton,j]
  simp
 have Lo:=kh b.ah b.ad f.key;have al9:=F (aB b.ah b.ad f.key) (by omega)
 cases B with
 | stay=>exact absurd rfl I
 | put hr C=>
  obtain⟨_,o,_⟩:=h.top.run hr;rw [t] at o;refine .inl (JI u hi o ?_);rw [← t];exact jd (r:=bJ b f.key (aH aa f.key f.ae).value f.reads) rfl
 | push hr C hl=>exact push (uP hl).2.2
 | read hr C h1 h3=>
  refine same (z:={f with reads:=f.reads++[(aH aa f.key f.ae).ask],ae:=f.ae++[bO val b (aH aa f.key f.ae).ask]}) rfl ?_
  unfold xV
  simp only [hr,if_true,List.length_append,List.length_singleton]
  omega
 | up hr hu=>
  refine .inr ⟨rfl,.inl ?_⟩;rw [List.countP_append,List.countP_singleton,hu]
  simp
 | start hr hu hx=>
  refine same (z:={f with running:=true,at_:=0}) rfl ?_
  unfold xV
  simp only [hr,if_true]
  simp
  omega
 | mark hr hl hn=>
  obtain⟨r,g1,_,g3⟩:=hl;have o:=jg g1 g3;rw [t] at o;refine .inl (JI u hi o ?_);rw [← t];exact gT (by rw [g1];rfl) fy
 | uQ c hr hl A hk=>exact push (uP hk).2.2
 | pass c hr hl A Q R hle=>
  have h5:=(h.top.Ds hr).2.2.1;have h6:=(List.getElem?_eq_some_iff.1 A).1;refine same (z:={f with at_:=f.at_+1}) rfl ?_
  unfold xV
  simp only [hr]
  simp
  omega
 | fail c hr hl A Q R m=>
  have m:xV {f with running:=true,at_:=0}<xV f:=by
   unfold xV
   simp only [hr,if_true]
   simp
   omega
  split
  ·
   have he:∀y,aA (cH b (aB b.ah b.ad f.key) true) y=aA b y:=fun y=>nq
   have hn:AJ aa (cH b (aB b.ah b.ad f.key) true)=AJ aa b:=by unfold AJ;simp only [he]
   simp only [he];rw [hn];exact same (z:={f with running:=true,at_:=0}) rfl m
  exact same (z:={f with running:=true,at_:=0}) rfl m
/-! ### what is known of what a request reaches -/
theorem hK.inv(j:aq aa) (A:LC aa x) (hk:∀k∈goals,eG aa k) (h:hK aa (valOf aa x.ab) goals x b l bf):(∃H,TI aa H x b l bf)∧BK aa x.ab x.ad b∧∀f∈l,fx aa f:=by
 induction h with
 | start=>exact⟨TO.start A.bh [],A.lb.ok,fun f m=>by cases m⟩
 | @take b bf k h1 B hn u=>
  obtain⟨⟨H,o⟩,t,C⟩:=u;refine⟨⟨H,o.begin j (hk _ B) hn⟩,t,fun f m=>?_⟩;rw [List.mem_singleton] at m;subst m
  have D:¬(ay k=true∨fY [] k=true∨aA b k=true):=fun h=>by have:=gP.2 h;rw [hn] at this;cases this
  exact fx.new (hk _ B) (by
   cases hi:ay k with
   | false=>rfl
   | true=>exact absurd (.inl hi) D)
 | step h1 E D u=>
  obtain⟨⟨H,o⟩,t,C⟩:=u;have hl:=o.bi.len;have I:=j.1;obtain⟨F,G⟩:=FS.keeps j t C E (by simp;intro;omega);exact⟨⟨H,(lY j o t.fR E).2⟩,F,G⟩
theorem hK.less(j:aq aa) (A:LC aa x) (hk:∀k∈goals,eG aa k) (h:hK aa (valOf aa x.ab) goals x b (p++[f]) bf) (o:FS aa (valOf aa x.ab) b p f b' l' rk 0) (B:l'≠p++[f]):Ux aa b' l'<Ux aa b (p++[f]):=by
 obtain⟨⟨H,t⟩,m,C⟩:=h.inv j A hk;have u:=C f (by simp);have hl:=u.len;have E:=u.gF.le j;exact Ht j t (lY j t m.fR o).2 (fun G D=>tM m.fR D) m.fR.len (by omega) o B
theorem hK.VT(j:aq aa) (m:LC aa x) (hk:∀k∈goals,eG aa k) (h:hK aa (valOf aa x.ab) goals x b (p++[f]) bf) (o:FS aa (valOf aa x.ab) b p f b' l' rk er):er=0:=by
 obtain⟨⟨H,t⟩,u,A⟩:=h.inv j m hk;exact(lY j t u.fR o).1
theorem hK.idle(hu:∀k∈goals,ay k=true∨aA x k=true) (h:hK aa val goals x b l bf):b=x∧l=[]∧bf=[]:=by
 induction h with
 | start=>exact⟨rfl,rfl,rfl⟩
 | @take b bf k _ m hn j=>
  obtain⟨rfl,_,_⟩:=j
  have:cE b [] k=false:=gP.2 ((hu _ m).imp id .inr)
  rw [hn] at this
  cases this
 | step _ _ _ j=>simp at j
end
end Go.Rc

