/- Base of the proof: frames, memory, ownership, and the plain meaning of rule systems. Conditions: as each lemma says. -/
import Derived.Test.YtpoiojafnnaccaaGreatDoorUBf
import Derived.Test.YtpoiojafnnaccaaGreatDoorUBd
set_option linter.all false
namespace Go.Rc
open Go
structure BK (ab:List aJ) (aH:List dE) (rev:Int) (b:dV):Prop where
 kC:Good ab aH ⟨b,[],[],0⟩
 xc:DH ⟨b,[],[],0⟩
 rv:b.ae=rev
 DT:EP rev aH
 yM:aH.length≤64
section
variable {ab:List aJ}{aH:List dE}{rev:Int}{b:dV}
theorem BK.mB(h:BK ab aH rev b):mB b:=
 ⟨by rw [h.rv,show b.ah=aH from h.kC.aH];exact h.DT,fun i r hr=>(h.xc.v r (List.mem_of_getElem? hr)).2,h.xc.r0,h.xc.r1,by rw [show b.ah=aH from h.kC.aH];exact h.yM,h.xc.st.rC h.kC.len fun r hr=>(h.xc.v r hr).1⟩
theorem BK.LV(h:BK ab aH rev b) (g:List Key):BK ab aH rev (dX b g false):=⟨h.kC.mark g false,h.xc.LV g,h.rv,h.DT,h.yM⟩
theorem BK.LW(h:BK ab aH rev b) {g:List Key}(hc:∀x∈g,aA x=true):BK ab aH rev (dX b g true):=⟨h.kC.mark g true,h.xc.LW hc,h.rv,h.DT,h.yM⟩
theorem BK.put(h:BK ab aH rev b) {r:Rec}(hk:gS ab r.key) (hr:r.reads.length≤4000∧∀a∈r.reads,gS ab a) (h4:(!(aD b.ak r.key).isSome && decide (4000≤b.ak.length))=false) (hv:fb r=true) (Xs:r.az≤b.ae):BK ab aH rev {b with ak:=gW b.ak r}:=
 ⟨h.kC.put (bU:=[]) hk hr h4,h.xc.put (bU:=[]) hv Xs,h.rv,h.DT,h.yM⟩
theorem BK.sub(h:BK ab aH rev b) {rs:List Rec}(hs:rs.Sublist b.ak):BK ab aH rev {b with ak:=rs}:=
 ⟨⟨h.kC.aH,Nat.le_trans hs.length_le h.kC.len,fun r hr=>h.kC.key r (hs.subset hr),fun r hr=>h.kC.Jp r (hs.subset hr),.nil,fun k=>.inl rfl⟩,⟨h.xc.st.sublist hs,fun r hr=>h.xc.v r (hs.subset hr),h.xc.r0,h.xc.r1⟩,h.rv,h.DT,h.yM⟩
theorem BK.small(h:BK ab aH rev b):∀r∈b.ak,Nj r∧0≤r.cost∧r.cost≤1073741824:=fun r hr=>by
 obtain⟨i,hi,ht,_⟩:=(h.kC.key r hr).shape;have h1:=(dY _).1 (h.xc.v r hr).1;obtain⟨_,_,_,aq0,hl,_,_,_,aiJ,acy,_⟩:=h1;have h2:=sQ (n:=i) (by omega);refine⟨⟨by rw [ht];omega,by omega,by omega⟩,by omega,acy⟩
end
structure kU (ab:List aJ) (f:eH):Prop where
 key:gS ab f.key
 aH:aB f.key=false
 Jp:∀a∈f.reads,gS ab a
 len:f.reads.length=f.ao.length
 jZ:jL ab f.key f.ao.length
 at0:0≤f.at_
theorem kU.new{ab:List aJ}{k:Key}(hk:gS ab k) (hi:aB k=false):kU ab ⟨k,false,0,[],[]⟩:=⟨hk,hi,fun a h=>(by cases h),rfl,hk.jZ hi,Int.le_refl _⟩
structure TK (ab:List aJ) (aH:List dE) (rev:Int) (t:xa):Prop where
 U5:t.ab=ab
 base:BK ab aH rev t.base
 goals:∀k∈t.goals,gS ab k
 stack:∀f∈t.stack,kU ab f
 bU:∀k∈t.bU,gS ab k
theorem PV.cast{P:Program}{op:Op}{ty:TypeId}{kv:KV}{w:World}{v v':Value}(h:PV P op ty kv w v) (e:v=v'):PV P op ty kv w v':=e ▸ h
theorem fZ{α:Type}(L:List α) (x:α):(L++[x])[L.length]?=some x:=by simp
theorem eV.snoc{L:List (eH × rO)}{f:eH}{A:rO}{Z:Nat→Prop}{w:World}(h:(eV L).p Z w) (hk:Rd RR.key 2 Z w A.a A.n A.c f.reads) (hy:Rd RR.str 1 Z w A.a2 A.n2 A.c2 f.ao):(eV (L++[(f,A)])).p Z w:=fun y hm=>by
 rcases List.mem_append.1 hm with hm | hm
 ·
  exact h y hm
 grind
theorem eV.whole{L:List (eH × rO)}{f:eH}{A:rO}{l:List eH}{E n c:Nat}{a:Option Addr}{Z:Nat→Prop}{w:World}(h:Ow RR.Fa E 6 Z w a n c (L++[(f,A)])) (hf:(eV (L++[(f,A)])).p Z w) (h4:∀y∈L,y.1.reads.length≤4000∧y.1.ao.length≤4000) (Cn:f.reads.length≤4000∧f.ao.length≤4000) (hl:L.map Prod.fst++[f]=l):Ow RR.qU E 6 Z w a n c l:=by
 have h1:=eV.qU h hf fun y hm=>by grind
 grind
theorem HG{L:List (eH × rO)}{f:eH}{A:rO}{l:List eH}{E EK ES n c:Nat}{a:Option Addr}{Z:Nat→Prop}{w:World}(Jo:Ow RR.Fa E 6 Z w a n c (L++[(f,A)])) (hk:Ow RR.key EK 2 Z w A.a A.n A.c f.reads) (hy:Ow RR.str ES 1 Z w A.a2 A.n2 A.c2 f.ao) (hfa:(eV L).p Z w) (h4:∀y∈L,y.1.reads.length≤4000∧y.1.ao.length≤4000) (Cn:f.reads.length≤4000∧f.ao.length≤4000) (hl:L.map Prod.fst++[f]=l) (hll:l.length≤1000000):∃Zb:Nat→Prop,(∀x,Z x→Zb x)∧Rd RR.qU 6 Zb w a n c l:=by
 have h1:=hk.rd (by omega);have h2:=hy.rd (by omega)
 let Zb:Nat→Prop:=fun x=>Z x∨x∈aL A.a∨x∈aL A.a2
 have hz:∀x,Z x→Zb x:=fun x h=>.inl h;have h3:(eV (L++[(f,A)])).p Zb w:=eV.snoc ((eV L).mono hz hfa) (h1.mono fun x h=>h.imp id .inl) (h2.mono fun x h=>h.imp id .inr);have h5:Ow RR.Fa E 6 Zb w a n c (L++[(f,A)]):=(As.os RR.Fa E 6 a n c (L++[(f,A)])).mono hz Jo;have h6:=eV.whole h5 h3 h4 Cn hl;exact⟨_,fun x h=>.inl (hz x h),h6.rd (by omega)⟩
theorem AA{x:dV}{l others:List eH}{k:Key}(h:dG x l others k=1):aB k=false:=by grind [gH,dG]
theorem eV.push{L:List (eH × rO)}{f g:eH}{A:rO}{l:List eH}{E n c:Nat}{a:Option Addr}{Z:Nat→Prop}{w:World}(h:Ow RR.Fa E 6 Z w a n c (L++[(f,A)]++[(g,⟨none,0,0,none,0,0⟩)])) (hf:(eV (L++[(f,A)])).p Z w) (h4:∀y∈L,y.1.reads.length≤4000∧y.1.ao.length≤4000) (Cn:f.reads.length≤4000∧f.ao.length≤4000) (qX:g.reads=[]) (GJ:g.ao=[]) (hl:L.map Prod.fst++[f]=l):Ow RR.qU E 6 Z w a n c (l++[g]):=by
 have h1:=eV.qU h (eV.snoc (f:=g) (A:=⟨none,0,0,none,0,0⟩) hf (by rw [qX];exact Rd.nil _ _ _ _) (by rw [GJ];exact Rd.nil _ _ _ _)) fun y hm=>by grind
 grind
section
variable {w0 w:World}{M Z:Nat→Prop}{l:List As}{A0 A1 A2 A3 A4 A5 A6 A7 A8 A9 oX rD wQ Dw Lu UU A16 A17:As}
end
end Go.Rc

namespace Go.Rc
open Go
section
variable {α:Type}{R:RR α}{P:Program}{E k n c b:Nat}{a:Option Addr}{L:List α}{u:α}{Z:Nat→Prop}{w:World}
variable {N:Nat}{kv:KV}{K:KV→World→Prop}{ty:TypeId}{pos:String}{af:Array Edge}{g:Option (Nat × Bool)}{T:TypeId}
theorem OX.SM{x y:Operand}{f:Nat}{v:Value}(hT:(P.info? T).map (·.size)=some 1) (h:Ow R E k Z w a n c (L++[u])) (ha:a=some ⟨b,0,none⟩) (hf:f<k) (hx:ev kv x=some (.pointer (some ⟨b,0+L.length*k+f,none⟩))) (hy:ev kv y=some v)
  (h1:v.oneCell'=true) (u':α) (hR:∀r,R.r Z w u r→R.r Z w u' (r.set f v)) (hK:∀w',bj (aL a) w w'→OR 0 w' E k (R.r Z w) a n c (L++[u'])→K kv w'):OX P ⟨none,.store T x y,ty,pos,af,g⟩ N kv w K:=
 OX.O4 hT h ha (fZ L u) hf hx hy h1 u' (fun r _ h=>hR r h) fun w' c o=>hK w' c (by grind)
end
section
variable {ab:List aJ}{f:eH}
theorem kU.read(h:kU ab f) {k:Key}{a:ByteArray}(hk:gS ab k) (ha:jL ab f.key (f.ao.length+1)):kU ab {f with reads:=f.reads++[k],ao:=f.ao++[a]}:=
 ⟨h.key,h.aH,fun b hb=>by
  rcases List.mem_append.1 hb with hb | hb
  ·
   exact h.Jp b hb
  grind,by simp [h.len],by simpa using ha,h.at0⟩
theorem kU.runs(h:kU ab f):kU ab {f with running:=true,at_:=0}:=⟨h.key,h.aH,h.Jp,h.len,h.jZ,Int.le_refl _⟩
theorem kU.step(h:kU ab f):kU ab {f with at_:=f.at_+1}:=⟨h.key,h.aH,h.Jp,h.len,h.jZ,by have:=h.at0;show 0≤f.at_+1;omega⟩
theorem kU.snoc{L:List (eH × rO)}(hL:∀y∈L,kU ab y.1) (h:kU ab f):∀g∈L.map Prod.fst++[f],kU ab g:=fun g hg=>by grind
end
structure TR (ab:List aJ) (aH:List dE) (rev:Int) (n:Nat) (t:xa):Prop where
 ok:TK ab aH rev t
 ns:t.stack.length≤n
 nr:t.bU.length≤n
 ng:t.goals.length≤32
section
variable {ab:List aJ}{aH:List dE}{rev:Int}{n:Nat}{t:xa}
theorem TR.mono(h:TR ab aH rev n t) {m:Nat}(hm:n≤m):TR ab aH rev m t:=⟨h.ok,Nat.le_trans h.ns hm,Nat.le_trans h.nr hm,h.ng⟩
theorem TR.sz(h:TR ab aH rev n t) (hR:ay ab) (hn:n≤100000):t.Sz:=by
 have h1:=h.ok.base;have h2:=h1.yM;have h3:t.base.ah=aH:=h1.kC.aH;have h4:t.base.ak.length≤4000:=h1.kC.len;have h5:=h.ns;have h6:=h.nr;have h7:=h.ng;have h8:=hR.len;have h9:=h.ok.U5;refine⟨by rw [h9];omega,fun x hx=>?_,by rw [h3];omega,by omega,by omega,by omega,by omega⟩;rw [h9] at hx;obtain⟨i,hi,rfl⟩:=List.mem_iff_getElem.1 hx
 have:=(hR.2 i _ (List.getElem?_eq_getElem hi)).1
 omega
theorem TR.acA(h:TR ab aH rev n t):TR ab aH rev n {t with goals:=t.goals.drop 1}:=
 ⟨⟨h.ok.U5,h.ok.base,fun k hk=>h.ok.goals k (List.mem_of_mem_drop hk),h.ok.stack,h.ok.bU⟩,h.ns,h.nr,by have:=h.ng;simp;omega⟩
theorem TR.begin(h:TR ab aH rev n t) {k:Key}(hk:gS ab k) (hi:aB k=false) (hn:1≤n):TR ab aH rev n {t with goals:=t.goals.drop 1,stack:=[⟨k,false,0,[],[]⟩]}:=
 ⟨⟨h.ok.U5,h.ok.base,fun k hk=>h.ok.goals k (List.mem_of_mem_drop hk),fun f hf=>by grind [kU.new],h.ok.bU⟩,hn,h.nr,by have:=h.ng;simp;omega⟩
theorem TR.next(h:TR ab aH rev n t) {b:dV}{l:List eH}{rk:List Key}(hb:BK ab aH rev b) (hl:∀f∈l,kU ab f) (hk:∀k∈rk,gS ab k) (h1:rk.length≤1) (h2:l.length≤t.stack.length+1):TR ab aH rev (n+1) {t with base:=b,stack:=l,bU:=t.bU++rk}:=
 ⟨⟨h.ok.U5,hb,h.ok.goals,hl,fun k hm=>by rcases List.mem_append.1 hm with hm | hm;exact h.ok.bU k hm;exact hk k hm⟩,by have:=h.ns;show l.length≤_;omega,by have:=h.nr;grind,h.ng⟩
theorem Fb{x:dV}{l:List eH}{k:Key}(h:gH x l k=true):aB k=false:=by grind [gH]
end
end Go.Rc

namespace Go.Rc
open Go
theorem St.AB{w w':World}{Z:Nat→Prop}{l:List As}{A B:As}(h:St w (rh [B]) Z w' (B::A::l)):∀x,A.fp x→w.heap.size≤x:=fun x hx=>by
 rcases h.rf A (by simp) x hx with⟨C,hC,hc⟩ | h1
 ·
  rw [List.mem_singleton] at hC;subst hC;exact absurd hx ((List.pairwise_cons.1 h.wA).1 A (by simp) x hc)
 exact h1
theorem pU.MT{ab:List aJ}{k:Key}(hR:ay ab) (h:pU ab k):gS ab k:=by
 have pY:=hR.len
 rcases h with⟨n,h0,h3,rfl⟩ | ⟨i,hi,rfl⟩
 ·
  obtain⟨m,rfl⟩:∃m:Nat,n=m:=⟨n.toNat,by omega⟩;exact .cell (by omega)
 exact .gN hi (by omega)
theorem pU.right{ab:List aJ}{k:Key}(hR:ay ab) (h:pU ab k):jP ab k=true:=by
 have hk:=h.MT hR
 rcases h with⟨n,h0,h3,rfl⟩ | ⟨i,hi,rfl⟩
 ·
  unfold jP
  rw [gS.valid hk]
  unfold eL
  rw [if_neg (by omega)]
  simp
 exact Ni hR hi
structure LB (ab:List aJ) (x:dV):Prop where
 ok:BK ab x.ah x.ae x
 aH:l4 x.ae x.ah
section
variable {ab:List aJ}{x:dV}
theorem LB.apply(h:LB ab x) {y:dV}(hr:y.ak=x.ak) (h0:x.ae≤y.ae) (h1:y.ae≤1073741824) (hG:l4 y.ae y.ah) (h6:y.ah.length≤64):LB ab y:=by
 have hg:=h.ok.kC;have ho:=h.ok.xc;have h00:0≤y.ae:=Int.le_trans ho.r0 h0;have hb:=hG.mB h00 h1 h6;exact⟨⟨⟨rfl,by show y.ak.length≤_;rw [hr];exact hg.len,by grind [Good.key],by grind [Good.Jp],.nil,fun k=>.inl rfl⟩,⟨by show qc y.ak;rw [hr];exact ho.st,by show ∀r∈y.ak,_;rw [hr];exact fun r hm=>⟨(ho.v r hm).1,Int.le_trans (ho.v r hm).2 h0⟩,h00,h1⟩,rfl,hb.1,h6⟩,hG⟩
theorem LB.sub(h:LB ab x) {rs:List Rec}(hs:rs.Sublist x.ak):LB ab ⟨x.ae,x.ah,rs⟩:=⟨h.ok.sub hs,h.aH⟩
theorem LB.of(h:LB ab x) {b:dV}(hb:BK ab x.ah x.ae b):LB ab b:=by
 have h1:b.ah=x.ah:=hb.kC.aH;have h2:b.ae=x.ae:=hb.rv;refine⟨?_,?_⟩
 ·
  rw [h1,h2];exact hb
 rw [h1,h2];exact h.aH
theorem LB.task(h:LB ab x) {b:dV}(hb:BK ab x.ah x.ae b) {rs:List Rec}(hs:rs.Sublist b.ak):LB ab ⟨b.ae,b.ah,rs⟩:=(h.of hb).sub hs
theorem LB.req(hR:ay ab) (h:LB ab x) {goals:List Key}(hg:∀k∈goals,pU ab k) (h32:goals.length≤32):∃(f:Nat) (s':ES),iC ab x goals=0∧Good ab x.ah ⟨x,[],[],0⟩∧(∀k∈goals,gS ab k)∧eU ab (valOf ab x.ah) f ⟨x,[],[],0⟩ goals=some s'∧s'.bU.length≤1000000∧LB ab (s'.base x)∧(s'.base x).ae=x.ae:=by
 have pY:=hR.len;have uj:=h.ok.kC;have hk:∀k∈goals,gS ab k:=fun k hm=>(hg k hm).MT hR;obtain⟨f,s',hu⟩:=Ay (val:=valOf ab x.ah) hR goals ⟨x,[],[],0⟩ uj hk;have h1:=uh hR hu uj hk;have h2:=Hx hR hu uj h.ok.xc hk;have qY:=DN hR hu uj hk;have hop:jh ab ⟨x,[],[],0⟩≤ab.length:=U3 _ _;refine⟨f,s',?_,uj,hk,hu,?_,?_,?_⟩
 ·
  unfold iC
  rw [if_neg (fun h=>h hR),if_neg (fun hn=>hn h.ok.mB),if_neg (by omega),if_pos (List.all_eq_true.2 fun k hm=>(hg k hm).right hR)]
 ·
  grind
 ·
  unfold ES.base
  split
  ·
   refine h.of ⟨⟨h1.1.aH,h1.1.len,h1.1.key,h1.1.Jp,.nil,fun k=>.inl rfl⟩,⟨h2.st,h2.v,h2.r0,h2.r1⟩,h1.2.rev,h.ok.DT,h.ok.yM⟩
  exact h
 unfold ES.base
 split
 ·
  exact h1.2.rev
 rfl
theorem LB.start(h:LB ab x) {goals:List Key}(hk:∀k∈goals,gS ab k) (h32:goals.length≤32):TR ab x.ah x.ae 0 ⟨ab,x,goals,[],[]⟩:=
 ⟨⟨rfl,h.ok,hk,fun f hf=>(by cases hf),fun k hk=>(by cases hk)⟩,Nat.le_refl _,Nat.le_refl _,h32⟩
theorem LB.nil{ab:List aJ}(y:dV) (hr:y.ak=[]) (h0:0≤y.ae) (h1:y.ae≤1073741824) (hG:l4 y.ae y.ah) (h6:y.ah.length≤64):LB ab y:=by
 have hb:=hG.mB h0 h1 h6;exact⟨⟨⟨rfl,by grind,by grind,by grind,.nil,fun k=>.inl rfl⟩,⟨by show qc y.ak;rw [hr];exact .nil,by grind,h0,h1⟩,rfl,hb.1,h6⟩,hG⟩
end
end Go.Rc

namespace Go.Rc
open Go
def Xt(l:List Key):Prop:=l.Pairwise fun a b=>cE a b<0
theorem SN{l l':List Key}(hp:l'.Perm l) (hn:l.Nodup) (hs:l'.Pairwise fun a b=>¬cE b a<0):Xt l':=by
 have hn':l'.Pairwise fun a b=>a≠b:=hp.nodup_iff.2 hn
 refine(hs.and hn').imp fun {a b} h=>?_
 grind [lK,qb]
section
variable {ab:List aJ}{aH:List dE}{k:Key}
theorem rP{l:List Key}{q:Nat}{y z:Key}(hy:l[q]?=some y) (hz:z∈l.take (q+1)):z∈l.take q∨z=y:=by grind [List.take_succ_eq_append_getElem]
def po(l:List Key):List (Key × Value):=l.map fun x=>(x,.bool true)
theorem HH(l:List Key) (y:Key):(ck (po l) y).getD (.bool false)=.bool (decide (y∈l)):=by
 unfold po
 induction l with
 | nil=>simp [ck]
 | cons x r ih=>
  simp only [List.map_cons,ck]
  grind
theorem HI(l:List Key) {y:Key}(h:y∉l):dH (po l) y (.bool true)=po (l++[y]):=by
 unfold po
 induction l with
 | nil=>rfl
 | cons x r ih=>
  rw [List.mem_cons,not_or] at h;simp only [List.map_cons,List.cons_append,dH];rw [if_neg (Ne.symm h.1),ih h.2]
end
end Go.Rc

namespace Go.Rc
open Go
structure LR {α:Type}(A:Nat→Prop) (w:World) (k:Nat) (R:α→List Value→Prop) (a:Option Addr) (n:Nat) (xs:List α):Prop where
 len:n=xs.length
 le:n≤140737488355328
 at_:∀{i:Nat}{x:α},xs[i]?=some x→∃b o r,a=some ⟨b,o,none⟩∧r.length=k∧R x r∧w.rangeAt b (o+i*k) r∧A b∧b<w.heap.size
theorem SR.lr{α:Type}{A:Nat→Prop}{w:World}{k n c:Nat}{R:α→List Value→Prop}{a:Option Addr}{xs:List α}(h:SR A w k R a n c xs):LR A w k R a n xs:=
 ⟨SR.len h,SR.le h,fun {i x} hx=>by
  obtain⟨hn,rows,hl,hk,hs,hR⟩:=h;have ed:i<xs.length:=(List.getElem?_eq_some_iff.1 hx).1;obtain⟨r,hr⟩:∃r,rows[i]?=some r:=⟨rows[i],by simp [hl,ed]⟩
  rcases hs.at_ with⟨_,h0,_⟩ | ⟨b,o,h1,_,_,h4,h5,h6⟩
  ·
   omega
  exact⟨b,o,r,h1,hk r (List.mem_of_getElem? hr),hR _ _ r hx hr,pL h6 _ r (n5 rows k _ r hk hr),h4,h5⟩⟩
def aiM(B:Nat→Prop) (w:World) (ks:List Key) (row:List Value):Prop:=∃a n c,row=[.slice a n c]∧LR B w 2 (fun(k:Key) r=>r=k.cells) a n ks
def Ksl(A B:Nat→Prop) (w:World) (a:Option Addr) (n:Nat) (l:List (List Key)):Prop:=LR A w 1 (aiM B w) a n l
structure U6 (ml:List (Key × Value)) (pre:List Key):Prop where
 get:∀k,ck ml k=if k∈pre then some (.bool true) else none
 keys:∀k,k∈ml.map (·.1)↔k∈pre
 le:ml.length≤pre.length
 eq:ml.length=pre.length↔pre.Nodup
theorem U6.nil:U6 [] []:=⟨fun k=>by simp [ck],by simp,by simp,by simp⟩
theorem AD{l:List Key}{k:Key}:(l++[k]).Nodup↔l.Nodup∧k∉l:=by grind
theorem U6.put{ml:List (Key × Value)}{pre:List Key}(h:U6 ml pre) (k:Key):U6 (dH ml k (.bool true)) (pre++[k]):=by
 have hk:=Ds ml k (.bool true)
 have hlen:(dH ml k (.bool true)).length=if k∈pre then ml.length else ml.length+1:=by
  have:=congrArg List.length hk
  rw [List.length_map] at this;rw [this]
  by_cases hm:k∈pre
  ·
   rw [if_pos ((h.keys k).2 hm),if_pos hm,List.length_map]
  rw [if_neg (fun e=>hm ((h.keys k).1 e)),if_neg hm];simp
 refine⟨fun k'=>?_,fun k'=>?_,?_,?_⟩
 ·
  rw [eQ,h.get]
  grind
 ·
  rw [hk]
  by_cases hm:k∈ml.map (·.1)
  ·
   rw [if_pos hm,h.keys]
   have:=(h.keys k).1 hm
   grind
  rw [if_neg hm]
  grind [keys]
 ·
  rw [hlen];have:=h.le;grind
 rw [hlen,AD]
 have:=h.le;have:=h.eq
 grind
theorem DU{l:List (List Key)}{i:Nat}(h:i<l.length):(l.take (i+1)).flatten=(l.take i).flatten++l[i]:=by grind [List.take_succ_eq_append_getElem]
theorem SO{l:List (List Key)}{i j:Nat}(hi:i<l.length) (hj:j<l[i].length) (hk:l[i][j]∈(l.take i).flatten++l[i].take j):¬l.flatten.Nodup:=by
 intro hn
 have e1:l.flatten=(l.take i).flatten++(l[i]++(l.drop (i+1)).flatten):=by grind [List.take_append_drop,List.drop_eq_getElem_cons]
 have e2:l[i]=l[i].take j++(l[i][j]::l[i].drop (j+1)):=by simp_all
 grind
theorem HJ{l:List (List Key)}{i j:Nat}(hi:i<l.length) (hj:j<l[i].length):(l.take i).flatten++l[i].take (j+1)=((l.take i).flatten++l[i].take j)++[l[i][j]]:=by simp_all
theorem SR.Sa{α:Type}{w:World}{k b E:Nat}{R:α→List Value→Prop}{xs:List α}{rows:List (List Value)}(h:cJ w b E rows.flatten) (hl:xs.length=rows.length) (hk:∀r∈rows,r.length=k) (h1:∀u∈rows.flatten,u.oneCell'=true)
  (hle:rows.length≤140737488355328) (hR:∀(i:Nat) (x:α) (r:List Value),xs[i]?=some x→rows[i]?=some r→R x r):SR (fun _=>True) w k R (some ⟨b,0,none⟩) rows.length rows.length xs:=by
 have hlen:rows.flatten.length=rows.length*k:=by
  clear h hl h1 hle hR
  induction rows with
  | nil=>simp
  | cons r t ih=>grind
 have ho:=OL.blk (base:=0) (k:=k) h (Nat.zero_le _) hlen h1 hle;exact⟨hl.symm,rows,hl.symm,hk,ho.sl (A:=fun _=>True) (fun _ _=>trivial) hle,hR⟩
end Go.Rc

namespace Go.Rc
open Go
theorem LB.Px{ab:List aJ}{x:dV}(h:LB ab x):kT ab x:=
 ⟨h.ok.xc.r0,h.ok.xc.r1,⟨h.aH.1,h.aH.2.1⟩,h.aH.k99,h.ok.yM,fun r hr=>⟨h.ok.kC.key r hr,((dY _).1 (h.ok.xc.v r hr).1).2.2.1,(h.ok.kC.Jp r hr).2,(h.ok.xc.v r hr).1⟩,h.ok.xc.st,h.ok.kC.len,fun r hr=>(h.ok.xc.v r hr).2⟩
theorem LB.small{ab:List aJ}{x:dV}(hR:ay ab) (h:LB ab x):∀k,(valOf ab x.ah k).size≤1000:=Ar hR fun y hy=>(h.aH.2.2 y hy).2
end Go.Rc

namespace Go.Rc
open Go
section
variable {ab:List aJ}{aH:List dE}
noncomputable def Nl(ab:List aJ) (aH:List dE) (i q:Nat):List ByteArray:=(gq (dP ab (aQ ab (i:Int))) (valOf ab aH) q).2
noncomputable def uk(ab:List aJ) (aH:List dE) (i q:Nat):Key:=(dP ab (aQ ab (i:Int)) (Nl ab aH i q)).ask
theorem vt(i q:Nat):(Nl ab aH i q).length=q:=(iZ _ _ _).2
theorem lM{i q:Nat}(hq:q<dW ab i):(dC ab aH i)[q]?=some (uk ab aH i q):=by
 unfold dC uk Nl
 generalize dW ab i=n at hq ⊢
 induction n with
 | zero=>omega
 | succ n ih=>
  have hl:=(iZ (dP ab (aQ ab (i:Int))) (valOf ab aH) n).1;simp only [gq]
  grind
theorem LY(hR:ay ab) {i q:Nat}(hi:i<ab.length) (hq:q<dW ab i):dP ab (aQ ab (i:Int)) (Nl ab aH i q)=⟨false,⟨#[]⟩,uk ab aH i q⟩:=by grind [fI,vt,uk]
theorem LZ(hR:ay ab) {i:Nat}(hi:i<ab.length):dP ab (aQ ab (i:Int)) (Nl ab aH i (dW ab i))=⟨true,valOf ab aH (aQ ab (i:Int)),fW⟩:=jw hR hi
theorem HK(hR:ay ab) {i q:Nat}(hi:i<ab.length) (hq:q<dW ab i):gS ab (uk ab aH i q):=
 (nA hR hi _ (List.mem_of_getElem? (lM (aH:=aH) hq))).MT hR
theorem Nn(hR:ay ab) {i:Nat}(hi:i<ab.length) (hr:aI ab i=true):eh (valOf ab aH (aQ ab (i:Int)))=rv ab aH i:=by grind [jE,kn,gR,xW]
end
end Go.Rc

namespace Go.Rc
open Go
section
variable {ab:List aJ}{aH:List dE}{k:Key}{L:List Key}
end
end Go.Rc

namespace Go.Rc
open Go
section
variable {ab:List aJ}{aH:List dE}
theorem dZ.trans{i j k:Nat}(h:dZ ab i j) (h2:dZ ab j k):dZ ab i k:=by
 induction h2 with
 | refl=>exact h
 | step _ h3 ih=>exact .step ih h3
variable {lo n q v:Nat}{S:List Int}{r:aJ}
end
end Go.Rc

namespace Go.Rc
open Go
section
variable {ab:List aJ}{aH vu:List dE}
end
end Go.Rc
namespace Go.Rc
open Go
end Go.Rc

namespace Go.Rc
open Go
section
variable {ab:List aJ}{aH vu:List dE}
theorem AE(hR:ay ab) {i:Nat}(hi:i<ab.length) (h:∀a∈dC ab aH i,valOf ab aH a=valOf ab vu a):dC ab vu i=dC ab aH i∧valOf ab vu (aQ ab (i:Int))=valOf ab aH (aQ ab (i:Int)):=by
 have e:gq (dP ab (aQ ab (i:Int))) (valOf ab aH) (dW ab i)=gq (dP ab (aQ ab (i:Int))) (valOf ab vu) (dW ab i):=Ae _ fun m hm=>h _ (List.mem_of_getElem? (lM hm))
 refine⟨?_,?_⟩
 ·
  unfold dC
  rw [e]
 have h1:=jw (aH:=aH) hR hi;have h2:=jw (aH:=vu) hR hi
 grind
theorem yb(hR:ay ab) {G:Nat→Prop}(hG:∀j,G j→j<ab.length∧aI ab j=true) (h:∀j,G j→∀r x,ab[j]?=some r→x∈r.asks→(∀m,G m→cL ab x≠aQ ab (m:Int))→valOf ab aH (cL ab x)=valOf ab vu (cL ab x)) {j:Nat}(hj:G j) (b:Nat) (hb:(rv ab aH j).testBit b=true):(rv ab vu j).testBit b=true:=by
 obtain⟨mu,Ah⟩:=hG j hj;obtain⟨n,hn,G8⟩:=(fR hR mu Ah b).1 hb
 have key:∀n,dZ ab j n→(G n∧dZ ab j n)∨∃(m:Nat) (x:Ask) (r:aJ) (q:Nat),G m∧dZ ab j m∧ab[m]?=some r∧x∈r.asks∧cL ab x=aQ ab (q:Int)∧¬G q∧iA ab m q∧dZ ab q n:=by
  intro n hn
  induction hn with
  | refl=>exact .inl ⟨hj,.refl⟩
  | @step m q hm ha ih=>
   rcases ih with⟨g1,g2⟩ | ⟨m2,x,r,q2,g1,g2,g3,g4,g5,g6,g7,g8⟩
   ·
    by_cases hq:G q
    ·
     exact .inl ⟨hq,.step g2 ha⟩
    obtain⟨x,hx,_,hk⟩:=ud (hG m g1).1 ha;exact .inr ⟨m,x,_,q,g1,g2,aq (hG m g1).1,hx,hk,hq,ha,.refl⟩
   exact .inr ⟨m2,x,r,q2,g1,g2,g3,g4,g5,g6,g7,.step g8 ha⟩
 rcases key n hn with⟨g1,g2⟩ | ⟨m,x,r,q,g1,g2,g3,g4,g5,g6,g7,g8⟩
 ·
  obtain⟨l3,hnr⟩:=hG n g1;refine(fR hR mu Ah b).2 ⟨n,g2,?_⟩
  rcases(gT l3 b).1 G8 with h1 | ⟨x,hx,ho,h1⟩
  ·
   grind [gT]
  refine(gT l3 b).2 (.inr ⟨x,hx,ho,?_⟩);rw [← h n g1 _ x (aq l3) hx fun m hm e=>?_]
  ·
   exact h1
  grind [lH,cA,ay.len]
 have hql:=g7.lt.2.1;have hqr:=g7.lt.2.2.2;have h1:(rv ab aH q).testBit b=true:=(fR hR hql hqr b).2 ⟨n,g8,G8⟩
 have h2:=h m g1 r x g3 g4 fun m2 jg e=>by grind [fF]
 have h3:rv ab aH q=rv ab vu q:=by grind [Nn]
 rw [h3] at h1;obtain⟨n2,h4,h5⟩:=(fR hR hql hqr b).1 h1;exact(fR hR mu Ah b).2 ⟨n2,(dZ.step g2 g7).trans h4,h5⟩
theorem J2(hR:ay ab) {G:Nat→Prop}(hG:∀j,G j→j<ab.length∧aI ab j=true) (h:∀j,G j→∀r x,ab[j]?=some r→x∈r.asks→(∀m,G m→cL ab x≠aQ ab (m:Int))→valOf ab aH (cL ab x)=valOf ab vu (cL ab x)) {j:Nat}(hj:G j):valOf ab aH (aQ ab (j:Int))=valOf ab vu (aQ ab (j:Int)):=by
 obtain⟨mu,Ah⟩:=hG j hj
 have e:rv ab aH j=rv ab vu j:=by
  apply Nat.eq_of_testBit_eq
  intro b;rw [Bool.eq_iff_iff];exact⟨yb hR hG h hj b,yb hR hG (fun j hj r x h1 h2 h3=>(h j hj r x h1 h2 h3).symm) hj b⟩
 grind [jE,kn]
structure Cons (ab:List aJ) (H:Int→List dE) (on:Key→Bool) (b:dV):Prop where
 now:H b.ae=b.ah
 gQ:∀k t,aB k=true→(ek b.ah k).changed≤t→t≤b.ae→cellOf (H t) k=cellOf b.ah k
 L0:∀r∈b.ak,r.az≤b.ae∧r.changed≤r.az
 vr:∀r∈b.ak,r.value=valOf ab (H r.az) r.key∧r.reads=wV ab (H r.az) r.key
 rr:∀r∈b.ak,∀a∈r.reads,aB a=false→∀ra,aD b.ak a=some ra→(r.az=b.ae∧on a=true)∨(ra.changed≤r.az→valOf ab (H r.az) a=ra.value)
 rs:∀r∈b.ak,aA r.key=true→∀a∈r.reads,aA a=true→∀ra,aD b.ak a=some ra→(r.az=b.ae∧on a=true)∨r.az≤ra.az
variable {H:Int→List dE}{on:Key→Bool}{b:dV}{k:Key}
theorem Cons.up(h:Cons ab H on b) (hu:aO b k=true):∃r,aD b.ak k=some r∧r.az=b.ae∧r.value=valOf ab b.ah k:=by
 obtain⟨r,hr,hv⟩:=cW.1 hu;obtain⟨h1,h2⟩:=bm hr;refine⟨r,hr,hv,?_⟩;rw [(h.vr r h1).1,hv,h.now,h2]
theorem Cons.changed(h:Cons ab H on b) {m:Rec}(hm:m∈b.ak) (ed:m.az<b.ae) {a:Key}(ha:a∈m.reads) (hc:bR (valOf ab b.ah) b a≤m.az):valOf ab (H m.az) a=valOf ab b.ah a:=by
 cases hi:aB a with
 | true=>
  unfold bR at hc
  rw [if_pos hi] at hc
  have:=h.gQ a m.az hi hc (by omega)
  unfold valOf
  grind
 | false=>
  unfold bR at hc
  rw [if_neg (by rw [hi];simp)] at hc
  split at hc
  ·
   rename_i h1
   rw [Bool.and_eq_true] at h1;obtain⟨ra,j9⟩:=Option.isSome_iff_exists.1 h1.1
   have e:aG b.ak a=ra:=by unfold aG;rw [j9];rfl
   rw [e] at h1 hc
   have iD:valOf ab b.ah a=ra.value:=by
    rw [Bool.or_eq_true] at h1
    rcases h1.2 with h2 | h2
    ·
     have h2:=of_decide_eq_true h2;obtain⟨g1,g2⟩:=bm j9;rw [(h.vr ra g1).1,h2,h.now,g2]
    exact of_decide_eq_true h2
   rcases h.rr m hm a ha hi ra j9 with⟨h2,_⟩ | h2
   ·
    omega
   rw [h2 hc,iD]
  omega
end
end Go.Rc

namespace Go.Rc
open Go
/-! ### lists of keys in order -/
def SP(l:List Key):Prop:=l.Pairwise fun a b=>cE a b<0
theorem qe{a b:Key}(h:cE a b<0) (h2:cE b a<0):False:=by grind [j8,jF]
theorem L4{k:Key}:∀{l:List Key},SP l→SP (qW k l)
 | [],_=>by simp [qW,SP]
 | x::r,h=>by
  obtain⟨h1,h2⟩:=List.pairwise_cons.1 h
  unfold qW
  split
  ·
   rename_i c
   refine List.pairwise_cons.2 ⟨fun y hy=>?_,L4 h2⟩
   grind [Hs]
  rename_i c
  split
  ·
   exact h
  rename_i e
  have ed:cE k x<0:=by grind [lK,qb]
  refine List.pairwise_cons.2 ⟨fun y hy=>?_,h⟩
  grind [j8]
theorem Py(l:List Key):SP (iv l):=by
 have key:∀(l acc:List Key),SP acc→SP (l.foldl (fun out k=>qW k out) acc):=by
  intro l
  induction l with
  | nil=>intro acc h;exact h
  | cons x r ih=>grind [L4]
 exact key l [] List.Pairwise.nil
theorem J3:∀{a b:List Key},SP a→SP b→(∀x,x∈a↔x∈b)→a=b
 | [],[],_,_,_=>rfl
 | [],y::b,_,_,h=>by have:=(h y).2 (by simp);cases this
 | x::a,[],_,_,h=>by have:=(h x).1 (by simp);cases this
 | x::a,y::b,h1,h2,h=>by
  obtain⟨h3,h4⟩:=List.pairwise_cons.1 h1;obtain⟨h5,h6⟩:=List.pairwise_cons.1 h2
  have e:x=y:=by
   rcases List.mem_cons.1 ((h x).1 (by simp)) with e | e
   ·
    exact e
   rcases List.mem_cons.1 ((h y).2 (by simp)) with e2 | e2
   ·
    exact e2.symm
   grind [qe]
  subst e
  congr 1
  refine J3 h4 h6 fun z=>⟨fun hz=>?_,fun hz=>?_⟩
  ·
   grind [qe]
  grind [qe]
/-! ### rings that belong together -/
section
variable {l l':List Rec}{rev:Int}{k x y z:Key}
theorem cO:cY l rev k=true↔∃r,aD l k=some r∧aA k=true∧r.az<rev∧r.cq=false:=by
 unfold cY aG
 cases h:aD l k with
 | none=>simp
 | some r=>simp
theorem cN.trans(h:cN l rev k x) (h2:cN l rev x y):cN l rev k y:=by
 induction h2 with
 | one h2=>exact .step h h2
 | step _ h3 ih=>exact .step ih h3
def DV(l:List Rec) (rev:Int) (x y:Key):Prop:=cN l rev x y∧cN l rev y x
theorem DV.symm(h:DV l rev x y):DV l rev y x:=⟨h.2,h.1⟩
theorem DV.trans(h:DV l rev x y) (h2:DV l rev y z):DV l rev x z:=⟨h.1.trans h2.1,h2.2.trans h.2⟩
theorem DV.jh(h:DV l rev x y):cY l rev y=true:=h.1.jh
theorem J4:y∈lJ l rev k l↔y≠k∧DV l rev k y:=by
 unfold lJ Hu
 rw [List.mem_map]
 constructor
 ·
  rintro⟨r,hr,rfl⟩;rw [List.mem_filter] at hr;simp only [Bool.and_eq_true,decide_eq_true_eq,ny] at hr;exact⟨hr.2.1,hr.2.2.1,hr.2.2.2⟩
 rintro⟨h1,h2⟩;obtain⟨r,hr,rfl⟩:=List.mem_map.1 (rG h2.jh);exact⟨r,List.mem_filter.2 ⟨hr,by simp only [Bool.and_eq_true,decide_eq_true_eq,ny];exact⟨h1,h2.1,h2.2⟩⟩,rfl⟩
theorem dM:y∈aF l rev k↔y=k∨(cY l rev k=true∧DV l rev k y):=by
 unfold aF
 split
 ·
  rename_i h
  rw [pj,List.mem_cons,J4]
  grind
 grind
theorem l5:k∈aF l rev k:=dM.2 (.inl rfl)
theorem xd(l:List Rec) (rev:Int) (k:Key):SP (aF l rev k):=by
 unfold aF
 split
 ·
  exact Py _
 exact List.pairwise_singleton _ _
theorem rQ(h:aA k=false):aF l rev k=[k]:=by
 unfold aF
 rw [if_neg]
 grind [cO]
theorem DX(hk:cY l rev k=true) (h:DV l rev k y) (z:Key):z∈aF l rev y↔z∈aF l rev k:=by
 rw [dM,dM]
 constructor
 ·
  rintro(rfl | ⟨_,h1⟩)
  ·
   exact .inr ⟨hk,h⟩
  exact .inr ⟨hk,h.trans h1⟩
 rintro(rfl | ⟨_,h1⟩)
 ·
  exact .inr ⟨h.jh,h.symm⟩
 exact .inr ⟨h.jh,h.symm.trans h1⟩
theorem eR{g:List Key}{c:tz}:c∈cC l g↔c.fy∈g∧c.read∈(aG l c.fy).reads∧c.read∉g:=by
 unfold cC eE
 grind
theorem CB{g:List Key}(h:∀m∈g,aG l' m=aG l m):cC l' g=cC l g:=by
 unfold cC
 have key:∀s:List Key,(∀m∈s,aG l' m=aG l m)→(s.flatMap fun m=>eE g m (aG l' m).reads)=s.flatMap fun m=>eE g m (aG l m).reads:=by
  intro s
  induction s with
  | nil=>intro _;rfl
  | cons m r ih=>grind
 exact key g h
end
/-! ### the change of records -/
def Pt(val:Key→ByteArray) (N:Key→Prop) (rev:Int) (bU:List Key) (y:Key) (o o':Option Rec):Prop:=
 o'=o∨((aA y=true∨N y)∧∃r,o=some r∧r.cq=false∧r.az<rev∧(o'=some {r with az:=rev}∨o'=some {r with cq:=true}))∨
 ((y∈bU∧N y)∧(∀r,o=some r→r.az<rev)∧∃r',o'=some r'∧r'.az=rev∧r'.cq=false∧r'.value=val y∧(∀r,o=some r→r'.changed=if r.value=r'.value then r.changed else rev)∧(o=none→r'.changed=rev))
structure lq (val:Key→ByteArray) (N:Key→Prop) (bU:List Key) (rev:Int) (l l':List Rec):Prop where
 pt:∀y,Pt val N rev bU y (aD l y) (aD l' y)
 scc:∀y z,DV l rev y z→cY l' rev y=true→cY l' rev z=true
def Live(l:List Rec) (rev:Int) (k:Key):Prop:=∃r,aD l k=some r∧r.cq=false∧r.az<rev
theorem Live.Fc{l:List Rec}{rev:Int}{k:Key}(h:cY l rev k=true):Live l rev k:=by
 obtain⟨r,h1,_,h2,h3⟩:=cO.1 h;exact⟨r,h1,h3,h2⟩
theorem Live.jh{l:List Rec}{rev:Int}{k:Key}(h:Live l rev k) (hc:aA k=true):cY l rev k=true:=by
 obtain⟨r,h1,h2,h3⟩:=h
 grind [cO]
section
variable {val:Key→ByteArray}{N N':Key→Prop}{bU acD:List Key}{rev:Int}{l l' l2:List Rec}{k x y z:Key}
theorem lq.refl(l:List Rec):lq val N bU rev l l:=⟨fun _=>.inl rfl,fun _ _ h _=>h.jh⟩
theorem lq.mono(h:lq val N bU rev l l') (hr:∀y∈bU,y∈acD) (hN:∀y,N y→N' y):lq val N' acD rev l l':=
 ⟨fun y=>by
  rcases h.pt y with h | ⟨h1,h2⟩ | ⟨⟨h1,h2⟩,h3⟩
  ·
   exact .inl h
  ·
   exact .inr (.inl ⟨h1.imp id (hN y),h2⟩)
  exact .inr (.inr ⟨⟨hr y h1,hN y h2⟩,h3⟩),h.scc⟩
theorem lq.live(h:lq val N bU rev l l') (hl:Live l' rev y):aD l' y=aD l y:=by
 obtain⟨r,h1,h2,h3⟩:=hl
 rcases h.pt y with e | ⟨_,q,_,_,_,e | e⟩ | ⟨_,_,q,e,h4,_⟩
 ·
  exact e
 ·
  grind
 ·
  grind
 grind
theorem lq.U7(h:lq val N bU rev l l') (hl:Live l' rev y):Live l rev y:=by
 obtain⟨r,h1,h2,h3⟩:=id hl;exact⟨r,by rw [← h.live hl];exact h1,h2,h3⟩
theorem lq.jh(h:lq val N bU rev l l') (ho:cY l' rev y=true):aD l' y=aD l y:=h.live (.Fc ho)
theorem lq.SQ(h:lq val N bU rev l l') (ho:cY l' rev y=true):cY l rev y=true:=by
 obtain⟨r,h1,h2,h3,h4⟩:=cO.1 ho;exact cO.2 ⟨r,by rw [← h.jh ho];exact h1,h2,h3,h4⟩
theorem lq.aG(h:lq val N bU rev l l') (ho:cY l' rev y=true):aG l' y=Rc.aG l y:=by
 unfold Rc.aG
 rw [h.jh ho]
theorem lq.leads(h:lq val N bU rev l l') (hk:cY l' rev k=true) (hl:cN l' rev k x):cN l rev k x:=by
 induction hl with
 | one h1=>exact .one ⟨by rw [← h.aG hk];exact h1.1,h.SQ h1.2⟩
 | step h1 h2 ih=>exact .step ih ⟨by rw [← h.aG h1.jh];exact h2.1,h.SQ h2.2⟩
theorem lq.back(h:lq val N bU rev l l') (hk:cY l' rev k=true) (hl:cN l rev k x):cN l rev x k→cN l' rev k x:=by
 induction hl with
 | one h1=>exact fun hx=>.one ⟨by rw [h.aG hk];exact h1.1,h.scc k _ ⟨.one h1,hx⟩ hk⟩
 | step h1 h2 ih=>
  intro hx;have g:=ih ((cN.one h2).trans hx);exact .step g ⟨by rw [h.aG g.jh];exact h2.1,h.scc k _ ⟨.step h1 h2,hx⟩ hk⟩
theorem lq.mut(h:lq val N bU rev l l') (hk:cY l' rev k=true):DV l' rev k y↔DV l rev k y:=
 ⟨fun m=>⟨h.leads hk m.1,h.leads m.jh m.2⟩,fun m=>⟨h.back hk m.1 m.2,h.back (h.scc k y m hk) m.2 m.1⟩⟩
theorem lq.group(h:lq val N bU rev l l') (hk:Live l' rev k):aF l' rev k=aF l rev k∧∀m∈aF l rev k,aD l' m=aD l m:=by
 cases hc:aA k with
 | false=>
  rw [rQ hc,rQ hc];refine⟨rfl,fun m hm=>?_⟩;rw [List.mem_singleton.1 hm];exact h.live hk
 | true=>
  have ho:=hk.jh hc;refine⟨J3 (xd _ _ _) (xd _ _ _) fun y=>?_,fun m hm=>?_⟩
  ·
   rw [dM,dM,h.mut ho,ho,h.SQ ho]
  rcases dM.1 hm with rfl | ⟨_,m2⟩
  ·
   exact h.live hk
  exact h.jh (h.scc _ _ m2 ho)
theorem lq.Pz(h:lq val N bU rev l l') (hk:Live l' rev k):cC l' (aF l' rev k)=cC l (aF l rev k):=by
 obtain⟨h1,h2⟩:=h.group hk;rw [h1];refine CB fun m hm=>?_
 unfold Rc.aG
 rw [h2 m hm]
theorem lq.trans(h:lq val N bU rev l l') (h2:lq val N bU rev l' l2):lq val N bU rev l l2:=by
 refine⟨fun y=>?_,fun y z m ho=>?_⟩
 ·
  have g2:=h2.pt y
  rcases h.pt y with e | ⟨e0,r,e1,e2,e3,e4 | e4⟩ | ⟨e1,e2,r',e3,e4,e5,e6,e7,e8⟩
  ·
   rw [e] at g2;exact g2
  ·
   rcases g2 with g | ⟨_,q,g1,g2,g3,_⟩ | ⟨_,g1,_⟩
   ·
    exact .inr (.inl ⟨e0,r,e1,e2,e3,.inl (g.trans e4)⟩)
   ·
    grind
   grind
  ·
   rcases g2 with g | ⟨_,q,g1,g2,g3,_⟩ | ⟨g1,g2,q,g3,g4,g5,g6,g7,g8⟩
   ·
    exact .inr (.inl ⟨e0,r,e1,e2,e3,.inr (g.trans e4)⟩)
   ·
    grind
   refine .inr (.inr ⟨g1,fun r2 zd=>?_,q,g3,g4,g5,g6,fun r2 zd=>?_,fun hn=>?_⟩)
   ·
    grind
   ·
    grind
   grind
  rcases g2 with g | ⟨_,q,g1,g2,g3,_⟩ | ⟨_,g1,_⟩
  ·
   exact .inr (.inr ⟨e1,e2,r',g.trans e3,e4,e5,e6,e7,e8⟩)
  ·
   grind
  have:=g1 _ e3
  omega
 have ho1:=h2.SQ ho;exact h2.scc y z ((h.mut ho1).2 m) ho
theorem ff{g:List Key}{d:Bool}:aD (l.map (cZ rev g d)) y=(aD l y).map (cZ rev g d):=pn _ (fun r=>(dU rev g d r).1) y l
theorem lq.mark(hl:Live l rev k) (d:Bool) (hN:aA k=true∨N k):lq val N bU rev l (l.map (cZ rev (aF l rev k) d)):=by
 have gQ:∀y∈aF l rev k,Live l rev y:=fun y hy=>by
  rcases dM.1 hy with rfl | ⟨_,m⟩
  ·
   exact hl
  exact .Fc m.jh
 have gX:∀y,y∉aF l rev k→aD (l.map (cZ rev (aF l rev k) d)) y=aD l y:=fun y hy=>by
  rw [ff]
  cases hf:aD l y with
  | none=>rfl
  | some r=>
   have e:=(bm hf).2
   show some (cZ rev (aF l rev k) d r)=some r
   unfold cZ
   rw [if_neg (by rw [e];exact hy)]
 have UL:∀y∈aF l rev k,∃r,aD l y=some r∧r.cq=false∧r.az<rev∧aD (l.map (cZ rev (aF l rev k) d)) y=some (if d then {r with cq:=true} else {r with az:=rev}):=fun y hy=>by
  obtain⟨r,h1,h2,h3⟩:=gQ y hy;refine⟨r,h1,h2,h3,?_⟩;rw [ff,h1]
  show some (cZ rev (aF l rev k) d r)=_
  unfold cZ
  rw [if_pos (by rw [(bm h1).2];exact hy)]
 refine⟨fun y=>?_,fun y z m ho=>?_⟩
 ·
  by_cases hy:y∈aF l rev k
  ·
   obtain⟨r,h1,h2,h3,h4⟩:=UL y hy;refine .inr (.inl ⟨?_,r,h1,h2,h3,?_⟩)
   ·
    rcases dM.1 hy with rfl | ⟨_,m⟩
    ·
     exact hN
    obtain⟨_,_,g,_⟩:=cO.1 m.jh;exact .inl g
   grind
  exact .inl (gX y hy)
 have hy:y∉aF l rev k:=fun hy=>by grind [cO]
 have hz:z∉aF l rev k:=fun hz=>hy (by
  rcases dM.1 hz with rfl | ⟨h1,h2⟩
  ·
   grind [dM,DV.jh,DV.symm]
  exact dM.2 (.inr ⟨h1,h2.trans m.symm⟩))
 obtain⟨r,h1,h2,h3,h4⟩:=cO.1 m.jh
 grind [cO]
theorem lq.put{r':Rec}(hk:cY l rev r'.key=false) (ed:∀r,aD l r'.key=some r→r.az<rev) (qY:r'.key∈bU∧N r'.key) (hv:r'.az=rev) (hd:r'.cq=false) (iD:r'.value=val r'.key)
  (hc:∀r,aD l r'.key=some r→r'.changed=if r.value=r'.value then r.changed else rev) (hn:aD l r'.key=none→r'.changed=rev):lq val N bU rev l (gW l r'):=by
 refine⟨fun y=>?_,fun y z m ho=>?_⟩
 ·
  rw [gz]
  by_cases e:y=r'.key
  ·
   rw [if_pos e,e];exact .inr (.inr ⟨qY,ed,r',rfl,hv,hd,iD,hc,hn⟩)
  rw [if_neg e];exact .inl rfl
 have hz:z≠r'.key:=fun e=>by grind [DV.jh]
 obtain⟨r,h1,h2,h3,h4⟩:=cO.1 m.jh;exact cO.2 ⟨r,by rw [gz,if_neg hz];exact h1,h2,h3,h4⟩
end
end Go.Rc

namespace Go.Rc
open Go
theorem ct{l:List Rec}{k:Key}{r:Rec}(h:aD l k=some r):aG l k=r:=by
 unfold aG
 rw [h]
 rfl
theorem gA:∀{l:List Rec},qc l→∀{r:Rec},r∈l→aD l r.key=some r
 | [],_,r,hr=>by cases hr
 | x::xs,h,r,hr=>by
  obtain⟨h1,h2⟩:=List.pairwise_cons.1 h
  unfold aD
  rw [List.find?_cons]
  rcases List.mem_cons.1 hr with rfl | hr
  ·
   simp
  have h3:=h1 r hr
  have kh:x.key≠r.key:=fun e=>by rw [e,jF] at h3;omega
  have:(x.key == r.key)=false:=by simpa using kh
  rw [this];exact gA h2 hr
structure Bi (ab:List aJ) (H:Int→List dE) (on:Key→Bool) (b:dV):Prop where
 c:Cons ab H on b
 st:qc b.ak
 kr:∀r∈b.ak,∃i:Nat,i<ab.length∧r.key=aQ ab (i:Int)
 dv:∀r∈b.ak,r.cq=true→r.az<b.ae
section
variable {ab:List aJ}{H:Int→List dE}{on on':Key→Bool}{b:dV}{k:Key}
theorem Bi.U8(h:Bi ab H on b) (ho:∀k,on k=true→on' k=true):Bi ab H on' b:=
 ⟨{h.c with
   rr:=fun r hr a ha hi ra j9=>(h.c.rr r hr a ha hi ra j9).imp (fun⟨x,y⟩=>⟨x,ho _ y⟩) id
   rs:=fun r hr hc a ha hi ra j9=>(h.c.rs r hr hc a ha hi ra j9).imp (fun⟨x,y⟩=>⟨x,ho _ y⟩) id},h.st,h.kr,h.dv⟩
theorem Bi.off(h:Bi ab H on b) (hu:aO b k=true) (ho:∀y,on y=true→y=k∨on' y=true):Bi ab H on' b:=by
 obtain⟨q,hq,hv,iD⟩:=h.c.up hu;refine⟨{h.c with rr:=fun r hr a ha hi ra j9=>?_,rs:=fun r hr hc a ha hi ra j9=>?_},h.st,h.kr,h.dv⟩
 ·
  rcases h.c.rr r hr a ha hi ra j9 with⟨x,y⟩ | z
  ·
   rcases ho a y with rfl | y
   ·
    rw [j9] at hq
    have:=Option.some.inj hq
    subst this;refine .inr fun _=>?_;rw [x,h.c.now];exact iD.symm
   exact .inl ⟨x,y⟩
  exact .inr z
 rcases h.c.rs r hr hc a ha hi ra j9 with⟨x,y⟩ | z
 ·
  grind
 exact .inr z
theorem Np(hR:ay ab) {aH:List dE}{i:Nat}(hi:i<ab.length) (hr:aI ab i=true) {x:Ask}(hx:x∈ab[i].asks):cL ab x∈dC ab aH i:=by
 obtain⟨q,hq⟩:=List.mem_iff_getElem?.1 hx
 have hql:q<dW ab i:=by grind [dW]
 have h1:=lM (aH:=aH) hql
 grind [fI,vt,uk]
theorem Cons.lead(h:Cons ab H on b) {x y:Key}(hx:cY b.ak b.ae x=true) (hl:cN b.ak b.ae x y):(aG b.ak x).az≤(aG b.ak y).az:=by
 have step:∀x y,cY b.ak b.ae x=true→Ld b.ak b.ae x y→(aG b.ak x).az≤(aG b.ak y).az:=by
  intro x y hx hy;obtain⟨r,h1,h2,h3,h4⟩:=cO.1 hx;obtain⟨q,g1,g2,g3,g4⟩:=cO.1 hy.2;have ha:=hy.1;rw [ct h1] at ha;rw [ct h1,ct g1]
  rcases h.rs r (bm h1).1 (by rw [(bm h1).2];exact h2) y ha g2 q g1 with⟨e,_⟩ | e
  ·
   omega
  exact e
 induction hl with
 | one h1=>exact step _ _ hx h1
 | step h1 h2 ih=>grind [cN.jh]
theorem Bi.key(h:Bi ab H on b) (hl:Live b.ak b.ae k):∃i:Nat,i<ab.length∧k=aQ ab (i:Int):=by
 obtain⟨r,h1,_⟩:=hl;obtain⟨h2,h3⟩:=bm h1;obtain⟨i,hi,e⟩:=h.kr r h2
 grind
theorem mL{l:List Rec}{rev:Int}{y:Key}(hl:Live l rev k) (hy:y∈aF l rev k):Live l rev y:=by
 rcases dM.1 hy with rfl | ⟨_,m⟩
 ·
  exact hl
 exact .Fc m.jh
theorem Bi.fixed(hR:ay ab) (h:Bi ab H on b) (hl:Live b.ak b.ae k)
  (hp:∀m∈aF b.ak b.ae k,∀a∈(aG b.ak m).reads,a∉aF b.ak b.ae k→valOf ab (H (aG b.ak m).az) a=valOf ab b.ah a) :
  ∀m∈aF b.ak b.ae k,valOf ab b.ah m=valOf ab (H (aG b.ak m).az) m∧wV ab b.ah m=wV ab (H (aG b.ak m).az) m:=by
 have pY:=hR.len
 have oE:∀m∈aF b.ak b.ae k,∃i:Nat,i<ab.length∧m=aQ ab (i:Int)∧(aG b.ak m).reads=dC ab (H (aG b.ak m).az) i:=fun m hm=>by
  have hlm:=mL hl hm;obtain⟨i,hi,e⟩:=h.key hlm;obtain⟨r,h1,_⟩:=hlm;refine⟨i,hi,e,?_⟩;have h2:=(h.c.vr r (bm h1).1).2;rw [ct h1,h2,(bm h1).2,e,iM hR hi]
 cases hc:aA k with
 | false=>
  rw [rQ hc] at hp oE ⊢;intro m hm;rw [List.mem_singleton] at hm;subst hm;obtain⟨i,hi,e,oE⟩:=oE m (by simp)
  have hs:=AE hR hi (aH:=H (aG b.ak m).az) (vu:=b.ah) fun a ha=>by
   refine hp m (by simp) a (by rw [oE];exact ha) fun hm=>?_;rw [List.mem_singleton] at hm;rw [e] at hm;rw [e,cA hi (by omega)] at hc
   rcases nA hR hi a ha with⟨n,hn,rfl⟩ | ⟨j,hj,rfl,_,h5,_⟩
   ·
    grind [dj,dI]
   grind [fF]
  grind [iM]
 | true=>
  have ho:=hl.jh hc
  have ht:∀m∈aF b.ak b.ae k,(aG b.ak m).az=(aG b.ak k).az:=fun m hm=>by
   rcases dM.1 hm with rfl | ⟨_,m1,m2⟩
   ·
    rfl
   have a1:=h.c.lead ho m1;have a2:=h.c.lead m1.jh m2
   omega
  have LL:∀j:Nat,j<ab.length→aQ ab (j:Int)∈aF b.ak b.ae k→aI ab j=true:=fun j hj hm=>by
   have h1:cY b.ak b.ae (aQ ab (j:Int))=true:=by grind [dM,DV.jh]
   grind [cO,cA]
  have qI:∀j:Nat,j<ab.length→aQ ab (j:Int)∈aF b.ak b.ae k→valOf ab (H (aG b.ak k).az) (aQ ab (j:Int))=valOf ab b.ah (aQ ab (j:Int)):=fun j hj hm=>by
   refine J2 hR (G:=fun j=>j<ab.length∧aQ ab (j:Int)∈aF b.ak b.ae k) (fun j hj=>⟨hj.1,LL j hj.1 hj.2⟩) (fun j hj r x hr hx kh=>?_) ⟨hj,hm⟩
   grind [fF,Np]
  intro m hm;obtain⟨i,hi,e,oE⟩:=oE m hm;have h1:=qI i hi (e ▸ hm);rw [ht m hm] at oE ⊢;refine⟨by rw [e];exact h1.symm,?_⟩
  have hs:=AE hR hi (aH:=H (aG b.ak k).az) (vu:=b.ah) fun a ha=>by grind
  grind [iM]
theorem kq(rev:Int) (g:List Key) (d:Bool) (r:Rec):(cZ rev g d r).value=r.value∧(cZ rev g d r).changed=r.changed:=by
 unfold cZ
 grind
theorem Bi.mark(hR:ay ab) (h:Bi ab H on b) (hl:Live b.ak b.ae k)
  (hp:∀m∈aF b.ak b.ae k,∀a∈(aG b.ak m).reads,a∉aF b.ak b.ae k→valOf ab (H (aG b.ak m).az) a=valOf ab b.ah a∧(aB a=true∨(on a=true∧aA a=true)∨aO b a=true)) :
  Bi ab H on (dX b (aF b.ak b.ae k) false):=by
 have hv:=h.fixed hR hl fun m hm a ha CC=>(hp m hm a ha CC).1
 generalize hG:aF b.ak b.ae k=G at hv hp
 have hvr:∀a ra,a∈G→aD b.ak a=some ra→ra.value=valOf ab b.ah a:=fun a ra ha j9=>by
  have h1:=(h.c.vr ra (bm j9).1).1;have h2:=(hv a ha).1;rw [ct j9] at h2;rw [h1,(bm j9).2,h2]
 have hmv:∀r:Rec,r.key∈G→(cZ b.ae G false r).az=b.ae:=fun r hr=>by
  unfold cZ
  rw [if_pos hr]
  rfl
 have hmo:∀r:Rec,r.key∉G→cZ b.ae G false r=r:=fun r hr=>by
  unfold cZ
  rw [if_neg hr]
 refine⟨⟨h.c.now,h.c.gQ,fun r' jz=>?_,fun r' jz=>?_,fun r' jz a ha hi ra' AF=>?_,fun r' jz hc a ha hi ra' AF=>?_⟩,h.st.map fun r=>(dU _ _ _ r).1,fun r' jz=>?_,fun r' jz hd=>?_⟩
 ·
  obtain⟨r,hr,rfl⟩:=List.mem_map.1 jz;have h1:=h.c.L0 r hr
  by_cases e:r.key∈G
  ·
   rw [hmv r e,(kq _ _ _ r).2];exact⟨Int.le_refl _,by omega⟩
  rw [hmo r e];exact h1
 ·
  obtain⟨r,hr,rfl⟩:=List.mem_map.1 jz;have h1:=h.c.vr r hr
  by_cases e:r.key∈G
  ·
   have hf:=gA h.st hr;have h2:=hv r.key e;rw [ct hf] at h2;rw [hmv r e,(kq _ _ _ r).1,(dU _ _ _ r).1,(dU _ _ _ r).2,h.c.now,h2.1,h2.2];exact h1
  rw [hmo r e];exact h1
 ·
  obtain⟨r,hr,rfl⟩:=List.mem_map.1 jz;rw [show(dX b G false).ak=b.ak.map (cZ b.ae G false) from rfl,ff] at AF;obtain⟨ra,j9,rfl⟩:=Option.map_eq_some_iff.1 AF;have hf:=gA h.st hr;rw [(dU _ _ _ r).2] at ha;rw [(kq _ _ _ ra).1,(kq _ _ _ ra).2]
  show((cZ b.ae G false r).az=b.ae∧_)∨_
  by_cases e:r.key∈G
  ·
   rw [hmv r e]
   by_cases ea:a∈G
   ·
    refine .inr fun _=>?_;rw [h.c.now];exact(hvr a ra ea j9).symm
   rcases(hp r.key e a (by rw [ct hf];exact ha) ea).2 with h1 | h1 | h1
   ·
    rw [hi] at h1
    cases h1
   ·
    exact .inl ⟨rfl,h1.1⟩
   refine .inr fun _=>?_;obtain⟨q,hq,_,iD⟩:=h.c.up h1;rw [j9] at hq
   have:=Option.some.inj hq
   subst this;rw [h.c.now];exact iD.symm
  rw [hmo r e];exact h.c.rr r hr a ha hi ra j9
 ·
  obtain⟨r,hr,rfl⟩:=List.mem_map.1 jz;rw [show(dX b G false).ak=b.ak.map (cZ b.ae G false) from rfl,ff] at AF;obtain⟨ra,j9,rfl⟩:=Option.map_eq_some_iff.1 AF;have hf:=gA h.st hr;rw [(dU _ _ _ r).2] at ha;rw [(dU _ _ _ r).1] at hc
  show((cZ b.ae G false r).az=b.ae∧_)∨_
  have Oi:=(bm j9).2;have hle:=(h.c.L0 r hr).1
  by_cases e:r.key∈G
  ·
   rw [hmv r e]
   by_cases ea:a∈G
   ·
    grind
   rcases(hp r.key e a (by rw [ct hf];exact ha) ea).2 with h1 | h1 | h1
   ·
    obtain⟨j,hj,ej⟩:=h.kr ra (bm j9).1
    grind [ay.len,dI]
   ·
    exact .inl ⟨rfl,h1.1⟩
   obtain⟨q,hq,hqv⟩:=cW.1 h1
   grind
  rw [hmo r e]
  rcases h.c.rs r hr hc a ha hi ra j9 with h1 | h1
  ·
   exact .inl h1
  refine .inr ?_
  by_cases ea:ra.key∈G
  ·
   grind
  grind
 ·
  obtain⟨r,hr,rfl⟩:=List.mem_map.1 jz;rw [(dU _ _ _ r).1];exact h.kr r hr
 obtain⟨r,hr,rfl⟩:=List.mem_map.1 jz
 by_cases e:r.key∈G
 ·
  have hf:=gA h.st hr;obtain⟨q,g1,g2,_⟩:=mL hl (y:=r.key) (by rw [hG];exact e);rw [hf] at g1
  have:=Option.some.inj g1
  subst this
  unfold cZ at hd
  grind
 rw [hmo r e] at hd ⊢;exact h.dv r hr hd
theorem Bi.cq(h:Bi ab H on b) {G:List Key}(hG:∀m∈G,Live b.ak b.ae m):Bi ab H on (dX b G true):=by
 have hm:∀r:Rec,(cZ b.ae G true r).az=r.az:=fun r=>by
  unfold cZ
  grind
 refine⟨⟨h.c.now,h.c.gQ,fun r' jz=>?_,fun r' jz=>?_,fun r' jz a ha hi ra' AF=>?_,fun r' jz hc a ha hi ra' AF=>?_⟩,h.st.map fun r=>(dU _ _ _ r).1,fun r' jz=>?_,fun r' jz hd=>?_⟩
 ·
  obtain⟨r,hr,rfl⟩:=List.mem_map.1 jz;rw [hm,(kq _ _ _ r).2];exact h.c.L0 r hr
 ·
  obtain⟨r,hr,rfl⟩:=List.mem_map.1 jz;rw [hm,(kq _ _ _ r).1,(dU _ _ _ r).1,(dU _ _ _ r).2];exact h.c.vr r hr
 ·
  obtain⟨r,hr,rfl⟩:=List.mem_map.1 jz;rw [show(dX b G true).ak=b.ak.map (cZ b.ae G true) from rfl,ff] at AF;obtain⟨ra,j9,rfl⟩:=Option.map_eq_some_iff.1 AF;rw [(dU _ _ _ r).2] at ha;rw [hm,(kq _ _ _ ra).1,(kq _ _ _ ra).2];exact h.c.rr r hr a ha hi ra j9
 ·
  obtain⟨r,hr,rfl⟩:=List.mem_map.1 jz;rw [show(dX b G true).ak=b.ak.map (cZ b.ae G true) from rfl,ff] at AF;obtain⟨ra,j9,rfl⟩:=Option.map_eq_some_iff.1 AF;rw [(dU _ _ _ r).2] at ha;rw [(dU _ _ _ r).1] at hc;rw [hm,hm];exact h.c.rs r hr hc a ha hi ra j9
 ·
  obtain⟨r,hr,rfl⟩:=List.mem_map.1 jz;rw [(dU _ _ _ r).1];exact h.kr r hr
 obtain⟨r,hr,rfl⟩:=List.mem_map.1 jz;rw [hm]
 by_cases e:r.key∈G
 ·
  obtain⟨q,g1,_,g2⟩:=hG _ e;rw [gA h.st hr] at g1
  have:=Option.some.inj g1
  subst this;exact g2
 unfold cZ at hd
 rw [if_neg e] at hd;exact h.dv r hr hd
theorem Bi.put(hR:ay ab) (h:Bi ab H on b) {i:Nat}(hi:i<ab.length) (LS:aA (aQ ab (i:Int))=true→on (aQ ab (i:Int))=true)
  (Lp:∀a∈dC ab b.ah i,aB a=true∨(on a=true∧aA a=true)∨aO b a=true) :
  Bi ab H on {b with ak:=gW b.ak (et b (aQ ab (i:Int)) (valOf ab b.ah (aQ ab (i:Int))) (dC ab b.ah i))}:=by
 have pY:=hR.len
 generalize hq:et b (aQ ab (i:Int)) (valOf ab b.ah (aQ ab (i:Int))) (dC ab b.ah i)=q
 have q1:q.key=aQ ab (i:Int):=by rw [← hq];rfl
 have q2:q.az=b.ae:=by rw [← hq];rfl
 have q3:q.value=valOf ab b.ah (aQ ab (i:Int)):=by rw [← hq];rfl
 have q4:q.reads=dC ab b.ah i:=by rw [← hq];rfl
 have q5:(∃r,aD b.ak q.key=some r∧r.value=q.value∧q.changed=r.changed)∨q.changed=b.ae:=by
  rw [← hq]
  unfold et
  simp only
  split
  ·
   rename_i hc
   simp only [Bool.and_eq_true,decide_eq_true_eq] at hc;obtain⟨r,hr⟩:=Option.isSome_iff_exists.1 hc.1;rw [ct hr] at hc ⊢;exact .inl ⟨r,hr,hc.2,rfl⟩
  exact .inr rfl
 refine⟨⟨h.c.now,h.c.gQ,fun r hr=>?_,fun r hr=>?_,fun r hr a ha RP ra j9=>?_,fun r hr hc a ha RP ra j9=>?_⟩,qc.put h.st,fun r hr=>?_,fun r hr hd=>?_⟩
 ·
  rcases jc _ _ _ _ hr with rfl | hr
  ·
   refine⟨by rw [q2];exact Int.le_refl _,?_⟩
   rcases q5 with⟨p,hp,_,e⟩ | e
   ·
    have:=h.c.L0 p (bm hp).1
    omega
   omega
  exact h.c.L0 r hr
 ·
  rcases jc _ _ _ _ hr with rfl | hr
  ·
   rw [q1,q2,q3,q4,h.c.now,iM hR hi];exact⟨rfl,rfl⟩
  exact h.c.vr r hr
 ·
  rw [show({b with ak:=gW b.ak q}:dV).ak=gW b.ak q from rfl,gz] at j9
  show(r.az=b.ae∧_)∨_
  rcases jc _ _ _ _ hr with rfl | hr
  ·
   by_cases e:a=r.key
   ·
    refine .inl ⟨q2,?_⟩;rw [e,q1];refine LS ?_;rw [q4] at ha;rw [cA hi (by omega)]
    cases hrg:aI ab i with
    | true=>rfl
    | false=>
     rcases nA hR hi a ha with⟨n,hn,h1⟩ | ⟨j,hj,h1,_,h5,_⟩
     ·
      grind [dj]
     grind [fF]
   rw [if_neg e] at j9
   rcases Lp a (by rw [← q4];exact ha) with h1 | h1 | h1
   ·
    rw [RP] at h1
    cases h1
   ·
    exact .inl ⟨q2,h1.1⟩
   refine .inr fun _=>?_;obtain⟨p,hp,_,iD⟩:=h.c.up h1;rw [j9] at hp
   have:=Option.some.inj hp
   subst this;rw [q2,h.c.now];exact iD.symm
  by_cases e:a=q.key
  ·
   rw [if_pos e] at j9
   have:=Option.some.inj j9
   subst this
   rcases q5 with⟨p,hp,e2,e3⟩ | e2
   ·
    rcases h.c.rr r hr a ha RP p (by rw [e];exact hp) with h1 | h1
    ·
     exact .inl h1
    grind
   refine .inr fun hc=>?_;have h1:=(h.c.L0 r hr).1
   have hv:r.az=b.ae:=by omega
   rw [hv,h.c.now,q3,e,q1]
  rw [if_neg e] at j9;exact h.c.rr r hr a ha RP ra j9
 ·
  rw [show({b with ak:=gW b.ak q}:dV).ak=gW b.ak q from rfl,gz] at j9
  show(r.az=b.ae∧_)∨_
  rcases jc _ _ _ _ hr with rfl | hr
  ·
   by_cases e:a=r.key
   ·
    grind
   rw [if_neg e] at j9
   rcases Lp a (by rw [← q4];exact ha) with h1 | h1 | h1
   ·
    obtain⟨j,hj,ej⟩:=h.kr ra (bm j9).1;rw [← (bm j9).2,ej,dI hj (by omega)] at h1
    cases h1
   ·
    exact .inl ⟨q2,h1.1⟩
   grind [cW]
  by_cases e:a=q.key
  ·
   rw [if_pos e] at j9
   have:=Option.some.inj j9
   subst this
   have:=(h.c.L0 r hr).1
   exact .inr (by omega)
  rw [if_neg e] at j9;exact h.c.rs r hr hc a ha RP ra j9
 ·
  rcases jc _ _ _ _ hr with rfl | hr
  ·
   exact⟨i,hi,q1⟩
  exact h.kr r hr
 rcases jc _ _ _ _ hr with rfl | hr
 ·
  have:r.cq=false:=by rw [← hq];rfl
  rw [this] at hd
  cases hd
 exact h.dv r hr hd
end
end Go.Rc

namespace Go.Rc
open Go
def SS(val:Key→ByteArray) (b:dV) (y:Key):Prop:=∃m a,m∈aF b.ak b.ae y∧a∈(aG b.ak m).reads∧a∉aF b.ak b.ae y∧(aG b.ak m).az<bR val b a
def PA(val:Key→ByteArray) (b:dV) (y:Key):Prop:=aB y=false∧aO b y=false∧(aD b.ak y=none∨(aG b.ak y).cq=true∨SS val b y)
section
variable {ab:List aJ}{H:Int→List dE}{on:Key→Bool}{b b0:dV}{k:Key}{s t:ES}
def ES.GK(s:ES) (k:Key):Bool:=s.on k && aA k
theorem J5(h:s.on k=true∧aA k=true):s.GK k=true:=by grind [ES.GK]
structure Wy (ab:List aJ) (b0:dV) (s:ES):Prop where
 rev:s.b.ae=b0.ae
 aH:s.b.ah=b0.ah
 ev:lq (valOf ab b0.ah) (fun _=>True) s.bU b0.ae b0.ak s.b.ak
 RQ:∀y r,aD s.b.ak y=some r→r.cq=true→(aG b0.ak y).cq=true∨SS (valOf ab b0.ah) b0 y
 bU:∀y∈s.bU,PA (valOf ab b0.ah) b0 y
 SU:∀y∈s.bU,aO s.b y=true
 mrk:∀y,aO b0 y=false→aO s.b y=true→y∈s.bU∨¬SS (valOf ab b0.ah) b0 y
 nY:s.bU.Nodup
theorem tE{val:Key→ByteArray}(hi:aB k=false) (h:aD b.ak k=none):bR val b k=b.ae:=by grind [bR]
theorem gj{val:Key→ByteArray}(hi:aB k=false) {r:Rec}(h:aD b.ak k=some r):bR val b k=if r.az=b.ae∨val k=r.value then r.changed else b.ae:=by
 unfold bR
 rw [hi,ct h,h]
 grind
theorem Wy.changed(hB:Bi ab H on s.b) (h:Wy ab b0 s) (a:Key):bR (valOf ab b0.ah) s.b a=bR (valOf ab b0.ah) b0 a:=by
 cases hi:aB a with
 | true=>
  unfold bR
  rw [hi,if_pos rfl,if_pos rfl,h.aH]
 | false=>
  rcases h.ev.pt a with e | ⟨_,r,e1,e2,e3,e4 | e4⟩ | ⟨_,e2,r',e3,e4,e5,e6,e7,e8⟩
  ·
   cases hf:aD b0.ak a with
   | none=>grind [tE,rev]
   | some r=>rw [gj hi (e.trans hf),gj hi hf,h.rev]
  ·
   have hu:aO s.b a=true:=cW.2 ⟨_,e4,h.rev.symm⟩;obtain⟨q,hq,_,iD⟩:=hB.c.up hu;rw [e4] at hq
   have:=Option.some.inj hq
   subst this;rw [h.aH] at iD;rw [gj hi e4,gj hi e1,if_pos (.inl h.rev.symm),if_pos (.inr iD.symm)]
  ·
   rw [gj hi e4,gj hi e1,h.rev]
  rw [gj hi e3,if_pos (.inl (e4.trans h.rev.symm))]
  cases hf:aD b0.ak a with
  | none=>rw [tE hi hf,e8 hf]
  | some r=>
   rw [gj hi hf,e7 r hf,e6]
   grind
theorem Wy.dif(hB:Bi ab H on s.b) (h:Wy ab b0 s) (hl:Live s.b.ak s.b.ae k) {m a:Key}(hm:m∈aF s.b.ak s.b.ae k) (ha:a∈(aG s.b.ak m).reads) (CC:a∉aF s.b.ak s.b.ae k)
  (hc:(aG s.b.ak m).az<bR (valOf ab b0.ah) s.b a):∀y∈aF s.b.ak s.b.ae k,SS (valOf ab b0.ah) b0 y:=by
 intro y hy;rw [h.rev] at hl hm CC hy;obtain⟨h1,h2⟩:=h.ev.group hl;rw [h1] at hm CC hy;have MF:=h.ev.U7 hl
 have e:aG s.b.ak m=aG b0.ak m:=by
  unfold aG
  rw [h2 m hm]
 rw [e] at ha hc
 have hg:∀z,z∈aF b0.ak b0.ae y↔z∈aF b0.ak b0.ae k:=fun z=>by
  rcases dM.1 hy with rfl | ⟨h3,h4⟩
  ·
   exact Iff.rfl
  exact DX h3 h4 z
 exact⟨m,a,(hg m).2 hm,ha,fun h3=>CC ((hg a).1 h3),by rw [← h.changed hB a];exact hc⟩
theorem Wy.U9(h:Wy ab b0 s) (hl:Live s.b.ak s.b.ae k) (hp:∀m∈aF s.b.ak s.b.ae k,∀a∈(aG s.b.ak m).reads,a∉aF s.b.ak s.b.ae k→bR (valOf ab b0.ah) b0 a≤(aG s.b.ak m).az):∀y∈aF s.b.ak s.b.ae k,¬SS (valOf ab b0.ah) b0 y:=by
 rintro y hy ⟨m,a,hm,ha,CC,hc⟩;rw [h.rev] at hl hp hy;obtain⟨h1,h2⟩:=h.ev.group hl;rw [h1] at hp hy
 have hg:∀z,z∈aF b0.ak b0.ae y↔z∈aF b0.ak b0.ae k:=fun z=>by
  rcases dM.1 hy with rfl | ⟨h3,h4⟩
  ·
   exact Iff.rfl
  exact DX h3 h4 z
 have e:aG s.b.ak m=aG b0.ak m:=by grind [aG]
 grind
theorem Wy.none(h:Wy ab b0 s) (hf:aD s.b.ak k=none):aD b0.ak k=none:=by
 rcases h.ev.pt k with e | ⟨_,r,e1,e2,e3,e4 | e4⟩ | ⟨_,e2,r',e3,_⟩
 ·
  exact e.symm.trans hf
 ·
  rw [hf] at e4;cases e4
 ·
  rw [hf] at e4;cases e4
 rw [hf] at e3;cases e3
theorem lq.aO{val:Key→ByteArray}{N:Key→Prop}{bU:List Key}{b b':dV}(h:lq val N bU b.ae b.ak b'.ak) (hr:b'.ae=b.ae) (hu:Rc.aO b k=true):Rc.aO b' k=true:=by
 obtain⟨r,h1,h2⟩:=cW.1 hu
 rcases h.pt k with e | ⟨_,q,e1,e2,e3,_⟩ | ⟨_,e2,_⟩
 ·
  exact cW.2 ⟨r,e.trans h1,h2.trans hr.symm⟩
 ·
  grind
 have:=e2 r h1
 omega
theorem L5{G:List Key}(hu:Rc.aO b k=false) (J6:Rc.aO (dX b G false) k=true):k∈G:=by
 obtain⟨r',h1,h2⟩:=cW.1 J6;have h1':(aD b.ak k).map (cZ b.ae G false)=some r':=ff.symm.trans h1;obtain⟨r,hr,rfl⟩:=Option.map_eq_some_iff.1 h1';have e:=(bm hr).2;refine Classical.byContradiction fun hk=>?_
 unfold cZ at h2
 rw [if_neg (by rw [e];exact hk)] at h2
 have:=cW.2 ⟨r,hr,h2⟩
 rw [hu] at this
 cases this
theorem HL{G:List Key}:Rc.aO (dX b G true) k=Rc.aO b k:=by
 have e:aD (dX b G true).ak k=(aD b.ak k).map (cZ b.ae G true):=ff
 have hm:∀r:Rec,(cZ b.ae G true r).az=r.az:=fun r=>by
  unfold cZ
  grind
 rw [Bool.eq_iff_iff,cW,cW,e]
 constructor
 ·
  rintro⟨r',h1,h2⟩;obtain⟨r,hr,rfl⟩:=Option.map_eq_some_iff.1 h1;rw [hm] at h2;exact⟨r,hr,h2⟩
 rintro⟨r,h1,h2⟩;exact⟨_,by rw [h1];rfl,by rw [hm];exact h2⟩
theorem DY{l:List Key}(h:l.Nodup) (hk:k∉l):(l++[k]).Nodup:=by grind
theorem Wy.step{s':ES}(h:Wy ab b0 s) (h1:s'.b.ae=s.b.ae) (h2:s'.b.ah=s.b.ah) (dR:lq (valOf ab b0.ah) (fun _=>True) s'.bU b0.ae s.b.ak s'.b.ak) (hr:∀y∈s.bU,y∈s'.bU)
  (hd:∀y r,aD s'.b.ak y=some r→r.cq=true→(aG b0.ak y).cq=true∨SS (valOf ab b0.ah) b0 y) (hw:∀y∈s'.bU,PA (valOf ab b0.ah) b0 y) (hn:∀y∈s'.bU,y∈s.bU∨Rc.aO s'.b y=true)
  (hm:∀y,Rc.aO s.b y=false→Rc.aO s'.b y=true→y∈s'.bU∨¬SS (valOf ab b0.ah) b0 y) (tV:s'.bU.Nodup):Wy ab b0 s':=by
 have rR:lq (valOf ab b0.ah) (fun _=>True) s'.bU s.b.ae s.b.ak s'.b.ak:=by rw [h.rev];exact dR
 refine⟨h1.trans h.rev,h2.trans h.aH,(h.ev.mono hr fun _ h=>h).trans dR,hd,hw,fun y hy=>?_,fun y hu J6=>?_,tV⟩
 ·
  rcases hn y hy with h3 | h3
  ·
   exact rR.aO h1 (h.SU y h3)
  exact h3
 cases hs:Rc.aO s.b y with
 | true=>exact(h.mrk y hu hs).imp (hr y) id
 | false=>exact hm y hs J6
theorem Wy.AG(h:Wy ab b0 s) (hu:aO s.b k=false):aO b0 k=false:=by
 cases hb:aO b0 k with
 | false=>rfl
 | true=>
  have:=h.ev.aO h.rev hb
  rw [hu] at this
  cases this
theorem AH(h:aD b.ak k=none):aO b k=false:=by
 unfold aO
 rw [h]
 rfl
theorem mU{r:Rec}(h:aD b.ak k=some r) (hv:r.az<b.ae):aO b k=false:=by grind [cW]
theorem Bi.answer(hB:Bi ab H on b) (hk:gS ab k) (ht:aB k=true∨aA k=true∨aO b k=true):eJ (valOf ab b.ah) b k=valOf ab b.ah k:=by
 unfold eJ
 by_cases hc:aA k=true
 ·
  rw [if_pos hc]
 rw [if_neg hc]
 unfold zZ
 by_cases hi:aB k=true
 ·
  rw [if_pos hi]
  unfold valOf cellOf
  rw [if_pos hi]
 rw [if_neg hi]
 have hu:aO b k=true:=by grind
 obtain⟨r,hf,hv,iD⟩:=hB.c.up hu
 have ho:rF b k=true:=by grind [rF,ct]
 rw [if_pos ho,ct hf,iD]
theorem vw(h:fJ s k=true):aB k=true∨(s.on k=true∧aA k=true)∨aO s.b k=true:=by
 unfold fJ at h
 grind
theorem PC(h:aB k=true∨(s.on k=true∧aA k=true)∨aO s.b k=true):fJ s k=true:=by
 unfold fJ
 grind
theorem Bi.len(hB:Bi ab H on b):b.ak.length≤ab.length:=by
 have h1:(b.ak.map (·.key)).Nodup:=by
  refine List.pairwise_map.2 (hB.st.imp fun {x y} h e=>?_);rw [e,jF] at h
  omega
 have h2:=jW (S:=(List.range ab.length).map fun i:Nat=>aQ ab (i:Int)) h1 fun x hx=>by
  obtain⟨r,hr,rfl⟩:=List.mem_map.1 hx;obtain⟨i,hi,e⟩:=hB.kr r hr
  grind
 simpa using h2
/-! ### the order of what is asked -/
theorem xe(hR:ay ab) {aH:List dE}{i:Nat}(hi:i<ab.length) {a:Key}(ha:a∈dC ab aH i):gx ab i a∧∀m:Nat,m<ab.length→a=aQ ab (m:Int)→Lw ab m (rJ ab i)∧∀b,Lw ab i b→Lw ab m b:=by grind [List.mem_iff_getElem?,nz,lM,LU,vt,uk]
theorem Nq(hR:ay ab) {aH:List dE}{i:Nat}(hi:i<ab.length) (hr:aI ab i=true) {a:Key}(ha:a∈dC ab aH i) (hc:aA a=true):∃j:Nat,j<ab.length∧a=aQ ab (j:Int)∧iA ab i j:=by grind [List.mem_iff_getElem?,nz,lM,fI,vt,uk,lH,j6]
theorem yd(hR:ay ab) (hB:Bi ab H on b) {i:Nat}(hi:i<ab.length) (ho:cY b.ak b.ae (aQ ab (i:Int))=true) {x:Key}(hl:cN b.ak b.ae (aQ ab (i:Int)) x):∃j:Nat,j<ab.length∧x=aQ ab (j:Int)∧dZ ab i j:=by
 have pY:=hR.len
 have step:∀(m:Nat) y,m<ab.length→cY b.ak b.ae (aQ ab (m:Int))=true→Ld b.ak b.ae (aQ ab (m:Int)) y→∃j:Nat,j<ab.length∧y=aQ ab (j:Int)∧iA ab m j:=by
  intro m y hm hom hy;obtain⟨r,h1,h2,h3,h4⟩:=cO.1 hom;obtain⟨q,g1,g2,_⟩:=cO.1 hy.2;have ha:=hy.1;rw [ct h1,(hB.c.vr r (bm h1).1).2,(bm h1).2,iM hR hm] at ha
  grind [cA,Nq]
 induction hl with
 | one h1=>
  obtain⟨j,h2,h3,h4⟩:=step i _ hi ho h1;exact⟨j,h2,h3,.step .refl h4⟩
 | step h1 h2 ih=>
  obtain⟨j,h3,rfl,h4⟩:=ih;obtain⟨q,h5,h6,h7⟩:=step j _ h3 h1.jh h2;exact⟨q,h5,h6,.step h4 h7⟩
theorem L6(hR:ay ab) (hB:Bi ab H on b) {i j:Nat}(hi:i<ab.length) (hj:j<ab.length) (hl:Live b.ak b.ae (aQ ab (i:Int))) (hm:aQ ab (j:Int)∈aF b.ak b.ae (aQ ab (i:Int))):rJ ab j=rJ ab i∧∀b,Lw ab i b→Lw ab j b:=by
 have pY:=hR.len
 rcases dM.1 hm with e | ⟨ho,m1,m2⟩
 ·
  have:=fF hR hj hi e
  grind
 obtain⟨q,hq,eq,h1⟩:=yd hR hB hi ho m1
 have:=fF hR hj hq eq
 subst this;obtain⟨p,hp,ep,h2⟩:=yd hR hB hj m1.jh m2
 have:=fF hR hi hp ep
 subst this;have h3:=nt hR h1;have h4:=nt hR h2;obtain⟨_,_,c1,_⟩:=cO.1 ho;obtain⟨_,_,c2,_⟩:=cO.1 m1.jh;rw [cA hi (by omega)] at c1;rw [cA hj (by omega)] at c2
 unfold rJ Lw
 grind
end
/-! ### a request -/
section
variable {ab:List aJ}{H:Int→List dE}{b0:dV}
structure Rs (ab:List aJ) (H:Int→List dE) (b0:dV) (N:Key→Prop) (s s':ES):Prop where
 e:s'.e=0
 bi:Bi ab H s.GK s'.b
 ev:lq (valOf ab b0.ah) N s'.bU b0.ae s.b.ak s'.b.ak
 wy:Wy ab b0 s'
theorem Rs.refl{N:Key→Prop}{s:ES}(he:s.e=0) (hB:Bi ab H s.GK s.b) (hW:Wy ab b0 s):Rs ab H b0 N s s:=⟨he,hB,.refl _,hW⟩
theorem Rs.trans{N:Key→Prop}{s t u:ES}(h:Rs ab H b0 N s t) (h2:Rs ab H b0 N t u) (hr:∀y∈t.bU,y∈u.bU) (ho:∀k,t.on k=s.on k):Rs ab H b0 N s u:=
 ⟨h2.e,h2.bi.U8 fun k hk=>by grind [ES.GK],(h.ev.mono hr fun _ h=>h).trans h2.ev,h2.wy⟩
def Ps(ab:List aJ) (H:Int→List dE) (b0:dV) (s:ES) (k:Key) (n:Nat):Prop:=
 Live s.b.ak s.b.ae k→∀j c,j<n→(cC s.b.ak (aF s.b.ak s.b.ae k))[j]?=some c→
  valOf ab (H (aG s.b.ak c.fy).az) c.read=valOf ab b0.ah c.read∧(aB c.read=true∨(s.on c.read=true∧aA c.read=true)∨aO s.b c.read=true)∧bR (valOf ab b0.ah) b0 c.read≤(aG s.b.ak c.fy).az
theorem AJ{val:Key→ByteArray}:∀f,(∀s k s',oc ab val f s k=some s'→∀y∈s.bU,y∈s'.bU)∧(∀s k n s' b,dL ab val f s k n=some (s',b)→∀y∈s.bU,y∈s'.bU)∧(∀s k r a s',jr ab val f s k r a=some s'→∀y∈s.bU,y∈s'.bU):=by
 intro f
 induction f with
 | zero=>grind [oc,dL,jr]
 | succ f ih=>
  obtain⟨Na,GI,Jq⟩:=ih;refine⟨?_,?_,?_⟩
  ·
   intro s k s' h y hy
   unfold oc at h
   split at h
   ·
    cases h;exact hy
   split at h
   ·
    cases h;exact hy
   split at h
   ·
    grind
   obtain⟨p,hp,h⟩:=Option.bind_eq_some_iff.1 h;obtain⟨t,ht,h⟩:=Option.bind_eq_some_iff.1 h
   cases h
   have h1:=GI _ _ _ p.1 p.2 hp y hy
   grind
  ·
   grind [dL,Option.bind_eq_some_iff]
  grind [jr,Option.bind_eq_some_iff]
def UpR(ab:List aJ) (H:Int→List dE) (b0:dV) (f:Nat):Prop:=∀s k s',oc ab (valOf ab b0.ah) f s k=some s'→Good ab b0.ah s→s.e=0→Bi ab H s.GK s.b→Wy ab b0 s→gS ab k→(∀i:Nat,i<ab.length→k=aQ ab (i:Int)→aiG ab s i)→Rs ab H b0 (fun y=>s.on y=false) s s'
def ChR(ab:List aJ) (H:Int→List dE) (b0:dV) (f:Nat):Prop:=∀s (i n:Nat) s' c,dL ab (valOf ab b0.ah) f s (aQ ab (i:Int)) n=some (s',c)→Good ab b0.ah s→s.e=0→Bi ab H s.GK s.b→Wy ab b0 s→i<ab.length→s.on (aQ ab (i:Int))=true→OnR ab s i→Ps ab H b0 s (aQ ab (i:Int)) n→
 Rs ab H b0 (fun y=>s.on y=false∨y=aQ ab (i:Int)) s s'∧(c=true→cY s'.b.ak b0.ae (aQ ab (i:Int))=false∧aO s'.b (aQ ab (i:Int))=false∧PA (valOf ab b0.ah) b0 (aQ ab (i:Int)))
def RuR(ab:List aJ) (H:Int→List dE) (b0:dV) (f:Nat):Prop:=∀s (i n:Nat) s',jr ab (valOf ab b0.ah) f s (aQ ab (i:Int)) (gq (dP ab (aQ ab (i:Int))) (valOf ab b0.ah) n).1 (gq (dP ab (aQ ab (i:Int))) (valOf ab b0.ah) n).2=some s'→Good ab b0.ah s→s.e=0→Bi ab H s.GK s.b→Wy ab b0 s→i<ab.length→n≤dW ab i→s.on (aQ ab (i:Int))=true→OnR ab s i→
 cY s.b.ak b0.ae (aQ ab (i:Int))=false→aO s.b (aQ ab (i:Int))=false→PA (valOf ab b0.ah) b0 (aQ ab (i:Int))→(∀a∈(gq (dP ab (aQ ab (i:Int))) (valOf ab b0.ah) n).1,fJ s a=true)→
 Rs ab H b0 (fun y=>s.on y=false∨y=aQ ab (i:Int)) s s'
theorem Bi.ly{s t:ES}(h:Bi ab H s.GK t.b) (hk:kB s t):Bi ab H t.GK t.b:=h.U8 fun k Jz=>by grind [ES.GK,kB.on]
theorem OnR.ly{s t:ES}{i:Nat}(h:OnR ab s i) (hk:kB s t):OnR ab t i:=fun j hj L7=>h j hj (by rw [← hk.on];exact L7)
theorem Rs.mono{N N':Key→Prop}{s s':ES}(h:Rs ab H b0 N s s') (hN:∀y,N y→N' y):Rs ab H b0 N' s s':=⟨h.e,h.bi,h.ev.mono (fun _ h=>h) hN,h.wy⟩
theorem ye(rev:Int) (G:List Key) (r:Rec):(cZ rev G false r).cq=r.cq:=by
 unfold cZ
 grind
theorem Fe(hR:ay ab):∀f,UpR ab H b0 f∧ChR ab H b0 f∧RuR ab H b0 f:=by
 have pY:=hR.len;intro f
 induction f with
 | zero=>exact⟨fun s k s' h=>by simp [oc] at h,fun s i n s' c h=>by simp [dL] at h,fun s i n s' h=>by simp [jr] at h⟩
 | succ f ih=>
  obtain⟨Na,GI,Jq⟩:=ih;have gd:=dr (val:=valOf ab b0.ah) (aH:=b0.ah) hR f;have kp:=ko (val:=valOf ab b0.ah) (aH:=b0.ah) hR f;have rn:=AJ (ab:=ab) (val:=valOf ab b0.ah) f;refine⟨?_,?_,?_⟩
  ·
   intro s k s' h hg he hB hW hk LS
   unfold oc at h
   split at h
   ·
    cases h;exact .refl he hB hW
   rename_i RD
   have rj:aB k=false:=by simp at RD;exact RD.2
   split at h
   ·
    cases h;exact .refl he hB hW
   rename_i hu
   obtain⟨i,hi,rfl,_⟩:=hk.jZ rj
   split at h
   ·
    rename_i ho
    split at h
    ·
     cases h;exact .refl he hB hW
    rename_i hc
    have h1:=LS i hi rfl i hi ho
    grind [cA,Lw,rJ]
   rename_i ho
   have Jm:s.on (aQ ab (i:Int))=false:=by simpa using ho
   obtain⟨⟨s2,c2⟩,hp,h⟩:=Option.bind_eq_some_iff.1 h;obtain⟨s3,ht,h⟩:=Option.bind_eq_some_iff.1 h;simp only [Option.some.injEq] at h;subst h;have Xu:∀y,ES.on {s with busy:=dH s.busy (aQ ab (i:Int)) (.bool true)} y=(decide (aQ ab (i:Int)=y) || s.on y):=fun y=>rH s _ y;have qX:=hg.on (aQ ab (i:Int))
   generalize mR:({s with busy:=dH s.busy (aQ ab (i:Int)) (.bool true)}:ES)=s1 at hp Xu qX
   have e1:s1.b=s.b:=by rw [← mR]
   have e2:s1.bU=s.bU:=by rw [← mR]
   have e3:s1.e=0:=by rw [← mR];exact he
   have acF:s1.on (aQ ab (i:Int))=true:=by rw [Xu];simp
   have hB1:Bi ab H s1.GK s1.b:=by
    rw [e1];refine hB.U8 fun y hy=>?_
    unfold ES.GK at hy ⊢
    grind
   have hW1:Wy ab b0 s1:=⟨by rw [e1];exact hW.rev,by rw [e1];exact hW.aH,by rw [e1,e2];exact hW.ev,by rw [e1];exact hW.RQ,by rw [e2];exact hW.bU,by rw [e1,e2];exact hW.SU,by rw [e1,e2];exact hW.mrk,by rw [e2];exact hW.nY⟩
   have jG:OnR ab s1 i:=fun j hj L7=>by
    rw [Xu] at L7;simp only [Bool.or_eq_true,decide_eq_true_eq] at L7
    rcases L7 with L7 | L7
    ·
     exact .inl (fF hR hj hi L7.symm)
    exact .inr (LS i hi rfl j hj L7)
   obtain⟨c1,c3⟩:=GI s1 i 0 s2 c2 hp qX e3 hB1 hW1 hi acF jG fun _ j c hj=>by omega
   obtain⟨k1,k2,_⟩:=kp.2.1 _ _ _ _ _ hp qX;have GJ:=(gd.2.1 _ _ _ _ _ hp qX).1
   have key:Rs ab H b0 (fun y=>s1.on y=false∨y=aQ ab (i:Int)) s1 s3∧aO s3.b (aQ ab (i:Int))=true:=by
    cases c2 with
    | false=>
     simp only [Bool.false_eq_true,if_false,Option.some.injEq] at ht;subst ht;exact⟨c1,(k2 c1.e).2 rfl⟩
    | true=>
     simp only [if_true] at ht;obtain⟨d1,d2,d3⟩:=c3 rfl
     have r2:=Jq s2 i 0 s3 ht GJ c1.e (c1.bi.ly k1) c1.wy hi (Nat.zero_le _) (by rw [k1.on];exact acF) (jG.ly k1) d1 d2 d3 fun a ha=>by simp [gq] at ha
     refine⟨c1.trans (r2.mono fun y hy=>by rw [← k1.on];exact hy) (rn.2.2 _ _ _ _ _ ht) k1.on,?_⟩;exact((kp.2.2 _ _ _ _ _ ht GJ (hk.jZ rj)).2.1 r2.e).2
   obtain⟨r3,hu3⟩:=key;refine⟨r3.e,?_,?_,⟨r3.wy.rev,r3.wy.aH,r3.wy.ev,r3.wy.RQ,r3.wy.bU,r3.wy.SU,r3.wy.mrk,r3.wy.nY⟩⟩
   ·
    refine r3.bi.off hu3 fun y hy=>?_
    unfold ES.GK at hy ⊢
    grind
   have:=r3.ev
   rw [e1] at this;refine this.mono (fun _ h=>h) fun y hy=>?_
   grind
  ·
   intro s i n s' c h hg he hB hW hi eO SX Oj;have rj:aB (aQ ab (i:Int))=false:=dI hi (by omega)
   unfold dL at h
   rw [if_neg (by simp [he])] at h
   split at h
   ·
    rename_i hc
    simp only [Option.some.injEq,Prod.mk.injEq] at h;obtain⟨rfl,rfl⟩:=h;refine⟨.refl he hB hW,fun _=>?_⟩
    cases hf:aD s.b.ak (aQ ab (i:Int)) with
    | none=>
     refine⟨?_,AH hf,rj,hW.AG (AH hf),.inl (hW.none hf)⟩;rw [Bool.eq_false_iff]
     grind [cO]
    | some r=>
     rw [hf,ct hf] at hc
     have hd:r.cq=true:=by simpa using hc
     have hv:=hB.dv r (bm hf).1 hd;refine⟨?_,mU hf hv,rj,hW.AG (mU hf hv),.inr (hW.RQ _ r hf hd)⟩;rw [Bool.eq_false_iff]
     grind [cO]
   rename_i hc
   split at h
   ·
    simp only [Option.some.injEq,Prod.mk.injEq] at h;obtain⟨rfl,rfl⟩:=h;exact⟨.refl he hB hW,fun e=>by cases e⟩
   rename_i hv
   have hl:Live s.b.ak s.b.ae (aQ ab (i:Int)):=by
    cases hf:aD s.b.ak (aQ ab (i:Int)) with
    | none=>rw [hf] at hc;simp at hc
    | some r=>
     rw [hf,ct hf] at hc;rw [ct hf] at hv;have h1:=(hB.c.L0 r (bm hf).1).1;exact⟨r,hf,by simpa using hc,by omega⟩
   have Oj:=Oj hl
   have acG:aO s.b (aQ ab (i:Int))=false:=by
    obtain⟨r,h1,_,h2⟩:=hl;exact mU h1 h2
   split at h
   ·
    rename_i hn
    simp only [Option.some.injEq,Prod.mk.injEq] at h;obtain⟨rfl,rfl⟩:=h
    have hp:∀m∈aF s.b.ak s.b.ae (aQ ab (i:Int)),∀a∈(aG s.b.ak m).reads,a∉aF s.b.ak s.b.ae (aQ ab (i:Int))→valOf ab (H (aG s.b.ak m).az) a=valOf ab s.b.ah a∧(aB a=true∨(s.GK a=true∧aA a=true)∨aO s.b a=true):=fun m hm a ha CC=>by
     have lx:(⟨m,a⟩:tz)∈cC s.b.ak (aF s.b.ak s.b.ae (aQ ab (i:Int))):=eR.2 ⟨hm,ha,CC⟩;obtain⟨j,hj⟩:=List.mem_iff_getElem?.1 lx;have h1:=(List.getElem?_eq_some_iff.1 hj).1;have h2:=List.getElem?_eq_none_iff.1 hn;have h3:=Oj j ⟨m,a⟩ (by omega) hj;rw [hW.aH];exact⟨h3.1,h3.2.1.imp id (Or.imp (fun p=>⟨J5 p,p.2⟩) id)⟩
    have tV:=hW.U9 hl fun m hm a ha CC=>by
     have lx:(⟨m,a⟩:tz)∈cC s.b.ak (aF s.b.ak s.b.ae (aQ ab (i:Int))):=eR.2 ⟨hm,ha,CC⟩;obtain⟨j,hj⟩:=List.mem_iff_getElem?.1 lx;have h1:=(List.getElem?_eq_some_iff.1 hj).1;have h2:=List.getElem?_eq_none_iff.1 hn;exact(Oj j ⟨m,a⟩ (by omega) hj).2.2
    have dR:∀N:Key→Prop,N (aQ ab (i:Int))→lq (valOf ab b0.ah) N s.bU b0.ae s.b.ak (dX s.b (aF s.b.ak s.b.ae (aQ ab (i:Int))) false).ak:=fun N hN=>by
     rw [← hW.rev];exact lq.mark hl false (.inr hN)
    refine⟨⟨he,hB.mark hR hl hp,dR _ (.inr rfl),hW.step rfl rfl (dR _ trivial) (fun _ h=>h) (fun y r' hf hd=>?_) hW.bU (fun _ h=>.inl h) (fun y hu J6=>.inr (tV y (L5 hu J6))) hW.nY⟩,fun e=>by cases e⟩;have HM:(aD s.b.ak y).map (cZ s.b.ae (aF s.b.ak s.b.ae (aQ ab (i:Int))) false)=some r':=ff.symm.trans hf;obtain⟨r,hr,rfl⟩:=Option.map_eq_some_iff.1 HM;rw [ye] at hd;exact hW.RQ y r hr hd
   rename_i c0 Ol
   obtain⟨hm,ha,CC⟩:=eR.1 (List.mem_of_getElem? Ol);obtain⟨j,hj,ej⟩:=hB.key (mL hl hm);obtain⟨rm,g1,g2,g3⟩:=mL hl hm;have qE:gS ab c0.read:=i6 hg Ol
   split at h
   ·
    obtain⟨t,ht,h⟩:=Option.bind_eq_some_iff.1 h
    have CD:=xe hR (aH:=H rm.az) hj (a:=c0.read) (by
     have h1:=(hB.c.vr rm (bm g1).1).2;rw [(bm g1).2,ej,iM hR hj] at h1
     grind [ct])
    have r1:=Na s c0.read t ht hg he hB hW qE fun q hq eq p hp hpo=>by
     obtain⟨h4,h5⟩:=CD.2 q hq eq;obtain⟨g4,g5⟩:=L6 hR hB hi hj hl (ej ▸ hm)
     rcases SX p hp hpo with rfl | h6
     ·
      rw [← g4];exact h4
     exact h5 _ (g5 _ h6)
    obtain⟨k1,_,_⟩:=kp.1 _ _ _ ht hg qE;have gt:=(gd.1 _ _ _ ht hg qE).1;have e1:t.b.ae=s.b.ae:=r1.wy.rev.trans hW.rev.symm
    have dR:lq (valOf ab b0.ah) (fun y=>s.on y=false) t.bU s.b.ae s.b.ak t.b.ak:=by
     rw [hW.rev];exact r1.ev
    obtain⟨r2,r3⟩:=GI t i n s' c h gt r1.e (r1.bi.ly k1) r1.wy hi (by rw [k1.on];exact eO) (SX.ly k1) fun ed j' c' hjn PD=>by
     rw [e1] at ed PD;rw [dR.Pz ed] at PD;obtain⟨p1,p2,p3⟩:=Oj j' c' hjn PD;have RJ:=(eR.1 (List.mem_of_getElem? PD)).1
     have e3:aG t.b.ak c'.fy=aG s.b.ak c'.fy:=by
      unfold aG
      rw [(dR.group ed).2 _ RJ]
     rw [e3];refine⟨p1,?_,p3⟩
     rcases p2 with p | p | p
     ·
      exact .inl p
     ·
      grind [kB.on]
     exact .inr (.inr (k1.up _ p))
    exact⟨(r1.mono fun y hy=>.inl hy).trans (r2.mono fun y hy=>by rw [← k1.on];exact hy) (rn.2.1 _ _ _ _ _ h) k1.on,r3⟩
   rename_i Lp
   have Xv:=vw (s:=s) (k:=c0.read) (by simpa using Lp)
   split at h
   ·
    rename_i ed
    have PE:=hW.dif hB hl hm ha CC ed;have J7:PA (valOf ab b0.ah) b0 (aQ ab (i:Int)):=⟨rj,hW.AG acG,.inr (.inr (PE _ l5))⟩;simp only [Option.some.injEq,Prod.mk.injEq] at h;obtain⟨h,rfl⟩:=h
    cases ui:aA (aQ ab (i:Int)) with
    | false=>
     rw [ui] at h;simp only [Bool.false_eq_true,if_false] at h;subst h;refine⟨.refl he hB hW,fun _=>⟨?_,acG,J7⟩⟩;rw [Bool.eq_false_iff]
     grind [cO]
    | true=>
     rw [ui] at h;simp only [if_true] at h;subst h
     have dR:∀N:Key→Prop,lq (valOf ab b0.ah) N s.bU b0.ae s.b.ak (dX s.b (aF s.b.ak s.b.ae (aQ ab (i:Int))) true).ak:=fun N=>by
      rw [← hW.rev];exact lq.mark hl true (.inl ui)
     obtain⟨r,f1,f2,f3⟩:=hl
     have hfk:aD (dX s.b (aF s.b.ak s.b.ae (aQ ab (i:Int))) true).ak (aQ ab (i:Int))=some {r with cq:=true}:=by
      refine ff.trans ?_;rw [f1]
      show some (cZ _ _ _ r)=_
      unfold cZ
      rw [if_pos (by rw [(bm f1).2];exact l5)]
      rfl
     refine⟨⟨he,hB.cq fun m hm=>mL ⟨r,f1,f2,f3⟩ hm,dR _,hW.step rfl rfl (dR _) (fun _ h=>h) (fun y r' hf hd=>?_) hW.bU (fun _ h=>.inl h) (fun y hu J6=>by grind [HL]) hW.nY⟩,fun _=>⟨?_,mU hfk f3,J7⟩⟩
     ·
      have HM:(aD s.b.ak y).map (cZ s.b.ae (aF s.b.ak s.b.ae (aQ ab (i:Int))) true)=some r':=ff.symm.trans hf;obtain⟨q,hq,rfl⟩:=Option.map_eq_some_iff.1 HM
      by_cases hy:y∈aF s.b.ak s.b.ae (aQ ab (i:Int))
      ·
       exact .inr (PE y hy)
      unfold cZ at hd
      rw [if_neg (by rw [(bm hq).2];exact hy)] at hd;exact hW.RQ y q hq hd
     rw [Bool.eq_false_iff]
     grind [cO]
   rename_i hle
   refine GI s i (n+1) s' c h hg he hB hW hi eO SX fun _ j' c' hjn PD=>?_
   rcases Nat.lt_or_ge j' n with ed | rp
   ·
    exact Oj j' c' ed PD
   have:j'=n:=by omega
   subst this;rw [Ol] at PD
   have:=Option.some.inj PD
   subst this;refine⟨?_,Xv,by rw [← hW.changed hB c0.read];exact Int.not_lt.1 hle⟩;rw [ct g1] at hle ha ⊢;have h1:=hB.c.changed (bm g1).1 g3 ha (by rw [hW.aH];omega)
   grind [Wy.aH]
  intro s i n s' h hg he hB hW hi hn eO SX hop ll J7 Lp
  have mn:i≤99:=by omega
  unfold jr at h
  rw [if_neg (by simp [he]),im hi mn] at h
  rcases Nat.lt_or_ge n (dW ab i) with ed | rp
  ·
   obtain⟨a,h1,h2,h3⟩:=LU hR hi (ao:=(gq (dP ab (aQ ab (i:Int))) (valOf ab b0.ah) n).2) (by grind [iZ]);rw [h1] at h;simp only [Bool.false_eq_true,if_false] at h;obtain⟨t,ht,h⟩:=Option.bind_eq_some_iff.1 h;have qE:=h2.MT hR
   have r1:=Na s a t ht hg he hB hW qE fun m hm Xj j hj L7=>by
    obtain⟨h4,h5⟩:=h3 m hm Xj
    rcases SX j hj L7 with rfl | h6
    ·
     exact h4
    exact h5 _ h6
   obtain⟨k1,k2,_⟩:=kp.1 _ _ _ ht hg qE;have gt:=(gd.1 _ _ _ ht hg qE).1
   have Om:fJ t a=true:=by grind [Rs.e,PC]
   have Xw:eJ (valOf ab b0.ah) t.b a=valOf ab b0.ah a:=by
    rw [← r1.wy.aH];refine r1.bi.answer qE ?_
    rcases vw Om with h4 | h4 | h4
    ·
     exact .inl h4
    ·
     exact .inr (.inl h4.2)
    exact .inr (.inr h4)
   rw [if_pos r1.e,Xw] at h
   have qI:aD t.b.ak (aQ ab (i:Int))=aD s.b.ak (aQ ab (i:Int)):=by
    rcases r1.ev.pt (aQ ab (i:Int)) with e | ⟨e0,r,e1,e2,e3,_⟩ | ⟨⟨_,e0⟩,_⟩
    ·
     exact e
    ·
     grind [cO]
    grind
   have r2:=Jq t i (n+1) s' (by grind [gq]) gt r1.e (r1.bi.ly k1) r1.wy hi ed (by rw [k1.on];exact eO) (SX.ly k1) (by grind [cY,aG]) (by
    rw [← ll]
    unfold aO aG
    rw [qI,r1.wy.rev,hW.rev]) J7 (fun x hx=>by
    simp only [gq] at hx;rw [h1] at hx
    rcases List.mem_append.1 hx with hx | hx
    ·
     exact k1.there (Lp x hx)
    grind)
   exact(r1.mono fun y hy=>.inl hy).trans (r2.mono fun y hy=>by rw [← k1.on];exact hy) (rn.2.2 _ _ _ _ _ h) k1.on
  have kh:n=dW ab i:=by omega
  subst kh;rw [jw hR hi] at h;simp only [if_true] at h;rw [if_neg (by have:=hB.len;simp;omega)] at h;simp only [Option.some.injEq] at h;subst h;have acH:∀a∈dC ab b0.ah i,aB a=true∨(s.on a=true∧aA a=true)∨aO s.b a=true:=fun a ha=>vw (Lp a ha);have CE:=hB.put hR hi (fun hc=>J5 ⟨eO,hc⟩) (by rw [hW.aH];exact fun a ha=>(acH a ha).imp id (Or.imp (fun p=>⟨J5 p,p.2⟩) id));rw [hW.aH] at CE
  have dR:∀N:Key→Prop,N (aQ ab (i:Int))→lq (valOf ab b0.ah) N (s.bU++[aQ ab (i:Int)]) b0.ae s.b.ak (gW s.b.ak (et s.b (aQ ab (i:Int)) (valOf ab b0.ah (aQ ab (i:Int))) (dC ab b0.ah i))):=fun N hN=>by
   refine lq.put hop (fun r hr=>?_) ⟨by simp [et],hN⟩ hW.rev rfl rfl (fun r hr=>?_) fun hn=>?_
   ·
    have h1:=(hB.c.L0 r (bm hr).1).1
    have h2:r.az≠s.b.ae:=fun e=>by
     have:aO s.b (aQ ab (i:Int))=true:=cW.2 ⟨r,hr,e⟩
     grind
    have:=hW.rev
    omega
   ·
    have jz:aD s.b.ak (aQ ab (i:Int))=some r:=hr
    unfold et
    simp only [jz,ct jz,hW.rev]
    grind
   grind [et,Wy.rev]
  refine⟨he,by show Bi ab H s.GK ⟨s.b.ae,s.b.ah,_⟩;rw [hW.aH];exact CE,dR _ (.inr rfl),hW.step rfl rfl (dR _ trivial) (fun y hy=>by simp [hy]) (fun y r hf hd=>?_) (fun y hy=>?_) (fun y hy=>?_) (fun y hu J6=>?_) (DY hW.nY fun hr=>by have:=hW.SU _ hr;rw [ll] at this;cases this)⟩
  ·
   have HM:aD (gW s.b.ak (et s.b (aQ ab (i:Int)) (valOf ab b0.ah (aQ ab (i:Int))) (dC ab b0.ah i))) y=some r:=hf;rw [gz] at HM
   split at HM
   ·
    have:=Option.some.inj HM
    subst this
    cases hd
   exact hW.RQ y r HM hd
  ·
   rcases List.mem_append.1 hy with hy | hy
   ·
    exact hW.bU y hy
   grind
  ·
   rcases List.mem_append.1 hy with hy | hy
   ·
    exact .inl hy
   rw [List.mem_singleton] at hy;rw [hy];exact .inr (uf (r:=et s.b (aQ ab (i:Int)) (valOf ab b0.ah (aQ ab (i:Int))) (dC ab b0.ah i)) rfl)
  refine .inl ?_
  by_cases e:y=aQ ab (i:Int)
  ·
   rw [e]
   simp
  obtain⟨r,hr,hv⟩:=cW.1 J6;have jz:aD (gW s.b.ak (et s.b (aQ ab (i:Int)) (valOf ab b0.ah (aQ ab (i:Int))) (dC ab b0.ah i))) y=some r:=hr;rw [gz,if_neg (show ¬y=(et s.b (aQ ab (i:Int)) (valOf ab b0.ah (aQ ab (i:Int))) (dC ab b0.ah i)).key from e)] at jz
  grind [cW]
theorem L8{val:Key→ByteArray}{f:Nat}:∀{l:List Key}{s s':ES},eU ab val f s l=some s'→∀y∈s.bU,y∈s'.bU
 | [],s,s',h,y,hy=>by grind [eU]
 | k::r,s,s',h,y,hy=>by
  simp only [eU] at h;obtain⟨t,h1,h2⟩:=Option.bind_eq_some_iff.1 h;exact L8 h2 y ((AJ f).1 _ _ _ h1 y hy)
theorem DZ(hR:ay ab) {f:Nat}:∀{l:List Key}{s s':ES},eU ab (valOf ab b0.ah) f s l=some s'→Good ab b0.ah s→s.e=0→Bi ab H s.GK s.b→Wy ab b0 s→(∀k∈l,gS ab k)→(∀k,s.on k=false)→Rs ab H b0 (fun _=>True) s s'∧(∀k,s'.on k=false)∧(∀k,aO s.b k=true→aO s'.b k=true)∧∀k∈l,aB k=false→aO s'.b k=true
 | [],s,s',h,hg,he,hB,hW,_,ho=>by
  simp only [eU,Option.some.injEq] at h;subst h;exact⟨.refl he hB hW,ho,fun _ h=>h,fun k hk=>by cases hk⟩
 | k::r,s,s',h,hg,he,hB,hW,hk,ho=>by
  simp only [eU] at h;obtain⟨t,h1,h2⟩:=Option.bind_eq_some_iff.1 h;have tD:=hk k (by simp);have Jr:=((dr (val:=valOf ab b0.ah) hR f).1 _ _ _ h1 hg tD).1;obtain⟨kp,kt,_⟩:=(ko (val:=valOf ab b0.ah) hR f).1 _ _ _ h1 hg tD
  have r1:=(Fe (H:=H) (b0:=b0) hR f).1 s k t h1 hg he hB hW tD fun i _ _ j _ L7=>by rw [ho] at L7;cases L7
  obtain⟨r2,o2,u2,g2⟩:=DZ hR h2 Jr r1.e (r1.bi.ly kp) r1.wy (fun k Jz=>hk k (by simp [Jz])) fun k=>by rw [kp.on];exact ho k
  have qY:=L8 h2;refine⟨(r1.mono fun _ _=>trivial).trans r2 qY kp.on,o2,fun y hy=>u2 y (kp.up y hy),fun q hq RU=>?_⟩
  rcases List.mem_cons.1 hq with rfl | hq
  ·
   refine u2 _ ?_
   rcases(kt r1.e).2 with h4 | h4
   ·
    rw [RU] at h4
    cases h4
   rcases vw h4 with h5 | h5 | h5
   ·
    rw [RU] at h5
    cases h5
   ·
    rw [kp.on,ho] at h5
    cases h5.1
   exact h5
  exact g2 q hq RU
end
end Go.Rc

namespace Go.Rc
open Go
def Bh(ab:List aJ) (b:dV):Prop:=∃H:Int→List dE,Bi ab H (fun _=>false) b
section
variable {ab:List aJ}{H:Int→List dE}{on:Key→Bool}{x y b:dV}{k:Key}
theorem Bh.new(ab:List aJ) (rev:Int) (aH:List dE):Bh ab ⟨rev,aH,[]⟩:=
 ⟨fun _=>aH,⟨⟨rfl,fun _ _ _ _ _=>rfl,fun r hr=>(by cases hr),fun r hr=>(by cases hr),fun r hr=>(by cases hr),fun r hr=>(by cases hr)⟩,List.Pairwise.nil,fun r hr=>(by cases hr),fun r hr=>(by cases hr)⟩⟩
theorem Bi.drop(h:Bi ab H on b) {rs:List Rec}(hs:rs.Sublist b.ak) (ho:∀r∈rs,on r.key=false):Bi ab H (fun _=>false) {b with ak:=rs}:=by
 have aiR:qc rs:=h.st.sublist hs
 have hf:∀a ra,aD rs a=some ra→aD b.ak a=some ra:=fun a ra j9=>by
  obtain⟨h1,h2⟩:=bm j9
  grind [gA,st]
 refine⟨⟨h.c.now,h.c.gQ,fun r hr=>h.c.L0 r (hs.subset hr),fun r hr=>h.c.vr r (hs.subset hr),fun r hr a ha hi ra j9=>?_,fun r hr hc a ha hi ra j9=>?_⟩,aiR,fun r hr=>h.kr r (hs.subset hr),fun r hr=>h.dv r (hs.subset hr)⟩
 ·
  rcases h.c.rr r (hs.subset hr) a ha hi ra (hf a ra j9) with⟨_,h1⟩ | h1
  ·
   obtain⟨h2,h3⟩:=bm j9
   grind
  exact .inr h1
 rcases h.c.rs r (hs.subset hr) hc a ha hi ra (hf a ra j9) with⟨_,h1⟩ | h1
 ·
  obtain⟨h2,h3⟩:=bm j9
  grind
 exact .inr h1
theorem Bh.drop(h:Bh ab b) {rs:List Rec}(hs:rs.Sublist b.ak):Bh ab {b with ak:=rs}:=by
 obtain⟨H,h⟩:=h;exact⟨H,h.drop hs fun _ _=>rfl⟩
theorem Bh.apply(h:Bh ab x) (hr:y.ak=x.ak) (hv:y.ae=x.ae+1) (hk:∀k,ek y.ah k=ek x.ah k∨(ek y.ah k).changed=y.ae):Bh ab y:=by
 obtain⟨H,h⟩:=h;have hH:∀t,t≤x.ae→(if t≤x.ae then H t else y.ah)=H t:=fun t ht=>if_pos ht;refine⟨fun t=>if t≤x.ae then H t else y.ah,⟨⟨?_,fun k t hi h1 h2=>?_,fun r jz=>?_,fun r jz=>?_,fun r jz a ha hi ra j9=>?_,fun r jz hc a ha hi ra j9=>?_⟩,by rw [hr];exact h.st,by rw [hr];exact h.kr,fun r jz hd=>?_⟩⟩
 ·
  grind
 ·
  by_cases ht:t≤x.ae
  ·
   show cellOf (if t≤x.ae then H t else y.ah) k=_
   rw [if_pos ht]
   rcases hk k with e | e
   ·
    rw [e] at h1;rw [h.c.gQ k t hi h1 ht]
    unfold cellOf
    rw [e]
   omega
  grind
 ·
  rw [hr] at jz
  have:=h.c.L0 r jz
  omega
 ·
  rw [hr] at jz;have h1:=h.c.L0 r jz;rw [hH _ h1.1];exact h.c.vr r jz
 ·
  rw [hr] at jz j9;have h1:=h.c.L0 r jz;rw [hH _ h1.1]
  rcases h.c.rr r jz a ha hi ra j9 with⟨_,h2⟩ | h2
  ·
   cases h2
  exact .inr h2
 ·
  rw [hr] at jz j9
  rcases h.c.rs r jz hc a ha hi ra j9 with⟨_,h2⟩ | h2
  ·
   cases h2
  exact .inr h2
 rw [hr] at jz
 have:=h.dv r jz hd
 omega
theorem Wy.start(b:dV):Wy ab b ⟨b,[],[],0⟩:=⟨rfl,rfl,.refl _,fun y r hf hd=>.inl (by rw [ct hf];exact hd),fun y hy=>(by cases hy),fun y hy=>(by cases hy),fun y h1 h2=>(by rw [h1] at h2;cases h2),List.nodup_nil⟩
theorem Bh.request(hR:ay ab) (h:Bh ab b) {f:Nat}{l:List Key}{s':ES}(hg:Good ab b.ah ⟨b,[],[],0⟩) (hk:∀k∈l,gS ab k) (hs:eU ab (valOf ab b.ah) f ⟨b,[],[],0⟩ l=some s') :
  s'.e=0∧Bh ab s'.b∧Wy ab b s'∧(∀k,aO b k=true→aO s'.b k=true)∧(∀k∈l,aB k=false→aO s'.b k=true)∧∀r∈s'.b.ak,r.az=s'.b.ae→r.value=valOf ab b.ah r.key:=by
 obtain⟨H,h⟩:=h;have hW:Wy ab b ⟨b,[],[],0⟩:=Wy.start b
 obtain⟨h1,h2,h3,h4⟩:=DZ (H:=H) (b0:=b) hR hs hg rfl (h.U8 fun k hk=>by cases hk) hW hk fun k=>rfl
 have hB:Bi ab H (fun _=>false) s'.b:=h1.bi.U8 fun k hk=>by grind [ES.GK,ES.on,ck]
 refine⟨h1.e,⟨H,hB⟩,h1.wy,h3,h4,fun r hr hv=>?_⟩;rw [(hB.c.vr r hr).1,hv,hB.c.now,h1.wy.aH]
end
end Go.Rc

