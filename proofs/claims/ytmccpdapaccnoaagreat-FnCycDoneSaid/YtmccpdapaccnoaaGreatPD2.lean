/- Texts laid together by a program: rules, contracts and the walk that leads to the law. -/
import Derived.Test.YtmccpdapaccnoaaGreatPD1
import Derived.Deep.LoopGhost
set_option linter.unusedVariables false
set_option linter.unusedSimpArgs false
set_option linter.unusedSectionVars false
set_option maxRecDepth 100000
set_option maxHeartbeats 8000000
namespace Go.AM
open Go.RowKit
section
variable {P : Program} {c c' : Cf} {H H' : aA} {T : Nat} {e : Env} {a : Act} {b : Nat}
theorem agH {M:Nat→Prop} [DecidablePred M] {Hm:aA} (hs:St c H) (hm: ∀i,Hm i=if M i then none else H i) (h1:St c' H') (h2:Step c Hm c' H'):
 St c' (fun i=>if M i then H i else H' i)∧Step c H c' (fun i=>if M i then H i else H' i):=by
 have hsub: ∀i o,Hm i=some o→H i=some o:=by
  intro i o h;rw[hm] at h;split at h;·simp at h
  ·exact h
 have hOm: ∀k,uG c Hm k→uG c H k:=fun k ⟨i,o,x,y,z⟩=>⟨i,o,hsub i o x,y,z⟩
 have hno: ∀i o,M i→H i=some o→0<o.ext→¬uG c Hm (c.ρ i).1:=by
  rintro i o hM ho he ⟨j,o',x,y,z⟩;have hne:j≠i:=by rintro rfl;rw[hm,if_pos hM] at x;simp at x
  exact hs.sep j i o' o (hsub j o' x) ho y he hne z
 have hlt: ∀i o,H i=some o→0<o.ext→(c.ρ i).1<c.w.heap.size:=by intro i o ho he;exact(hs.blk i o ho he).lt
 have hρ: ∀i o,H i=some o→c'.ρ i=c.ρ i:=fun i o ho=>h2.ρ i (hs.named i o ho)
 have hheap: ∀i o,M i→H i=some o→0<o.ext→c'.w.heap[(c.ρ i).1]?=c.w.heap[(c.ρ i).1]?:=fun i o hM ho he=>h2.frame _ (hlt i o ho he) (hno i o hM ho he)
 have hpos: ∀i o (k:Nat) r,H i=some o→o.rows[k]?=some r→0<o.ext:=by intro i o k r ho hr;have:=(hs.wf i o ho).1;have hk:k<o.rows.length:=(m3.1 hr).1;omega
 have hstep:Step c H c' (fun i=>if M i then H i else H' i):={
  ρ:=h2.ρ
  N:=h2.N
  I:=h2.I
  I':=fun k hk=>(h2.I' k hk).imp (fun h=>h) (fun h=>h.imp (hOm k) fun h=>h)
  size:=h2.size
  os:=h2.os
  tape:=h2.tape
  output:=h2.output
  frame:=fun k hk hk2=>h2.frame k hk fun h=>hk2 (hOm k h)
  own:=by
   rintro k ⟨i,o,x,y,z⟩;simp only at x;split at x;·rename_i hM;left;exact⟨i,o,x,y,by rw[hρ i o x] at z;exact z⟩
   ·exact(h2.own k ⟨i,o,x,y,z⟩).imp (hOm k) fun h=>h}
 have hRel: ∀d x,Rel c d x→Rel c' d x:=fun d x h=>h.step hstep hs
 refine⟨?_,hstep⟩
 refine {named:= ?_,wf:= ?_,blk:= ?_,cells:= ?_,sep:= ?_,imm:= ?_,old:=h1.old}
 ·intro i o x;split at x;·exact h2.N i (hs.named i o x)
  ·exact h1.named i o x
 ·intro i o x;split at x;·exact hs.wf i o x
  ·exact h1.wf i o x
 ·intro i o x he;split at x;·rename_i hM;rw[hρ i o x,hheap i o hM x he];exact hs.blk i o x he
  ·exact h1.blk i o x he
 ·intro i o k j r d x hr hd;split at x;·rename_i hM;obtain⟨u,h3,h4⟩:=hs.cells i o k j r d x hr hd;refine⟨u,?_,hRel _ _ h4⟩;rw[hρ i o x,←h3];exact World.cell?_of_block (w:=c.w) (hheap i o hM x (hpos i o k r x hr))
  ·exact h1.cells i o k j r d x hr hd
 ·intro i i' o o' x x' he he' hne;split at x<;>split at x';·rw[hρ i o x,hρ i' o' x'];exact hs.sep i i' o o' x x' he he' hne
  ·rename_i hM _;intro heq;rw[hρ i o x] at heq;rcases h2.own _ ⟨i',o',x',he',heq.symm⟩ with h|h;·exact hno i o hM x he h
   ·have:=hlt i o x he;omega
  ·rename_i _ hM;intro heq;rw[hρ i' o' x'] at heq;rcases h2.own _ ⟨i,o,x,he,heq⟩ with h|h;·exact hno i' o' hM x' he' h
   ·have:=hlt i' o' x' he';omega
  ·exact h1.sep i i' o o' x x' he he' hne
 ·intro i o x he;split at x
  ·rename_i hM;rw[hρ i o x];intro hI;rcases h2.I' _ hI with h|h|h;·exact hs.imm i o x he h
   ·exact hno i o hM x he h
   ·have:=hlt i o x he;omega
  ·exact h1.imm i o x he
theorem ER.put (hs:St c H) (hstep:Step c H c' H') (he:ER c T e a) {dst:Option Nat} (hd: ∀t,dst=some t→t<T) {d:D} {v:Value} (hr:fD c' d v):ER c' T (e.put dst d) (a.put dst v):=by
 obtain⟨h1,h2,h3⟩:=he
 cases dst with
 |none=>exact⟨h1,h2,fun t=>(h3 t).step hstep hs⟩
 |some t=>
  refine⟨by simp[Act.put,h1],h2,fun u=> ?_⟩;simp only[Env.put,Env.set,Act.put];by_cases hu:u=t;·subst hu;rw[if_pos rfl];have:u<a.tmps.size:=(by rw[h1];exact hd u rfl);simpa [this] using hr
  ·rw[if_neg hu];have:(a.tmps.setIfInBounds t v).getD u undef=a.tmps.getD u undef:=(by simp[Z2 (Ne.symm hu)]);rw[this];exact(h3 u).step hstep hs
structure RS (T b R:Nat) (c0:Cf) (H0:aA) (L:List aY) (c:Cf) (e:Env) (H:aA) (nx:Nat) (a:Act):Prop where
 st:St c H
 er:ER c T e a
 step:Step c0 H0 c H
 N: ∀i,c.N i→c0.N i∨(b≤i∧i<nx∧ ∀o∈L,i≠b+o.ix)
 nx:b+R≤nx
structure Tr (P:Program) (T R:Nat) (ops:Array Oper) (o:aY):Prop where
 ex: ∃ro,ops[o.ix]?=some ro∧LC P ro.op=o.op∧ro.dst=o.dst∧
  ((ro.guard=none∧o.guard=none)∨ ∃j w rj t,ro.guard=some (j,w)∧ops[j]?=some rj∧rj.dst=some t∧o.guard=some (t,w)∧t<T)
 dst: ∀t,o.dst=some t→t<T
 ix:o.ix<R
theorem V2 {ops:Array Oper} {ro:Oper} {o:aY} (he:ER c T e a)
 (hg:(ro.guard=none∧o.guard=none)∨ ∃j w rj t,ro.guard=some (j,w)∧ops[j]?=some rj∧rj.dst=some t∧o.guard=some (t,w)∧t<T) {x:Bool} (h:vI o.guard e=some x):
 Region.wanted ro (yielded ops a.tmps)=x:=by
 rcases hg with⟨h1,h2⟩|⟨j,w,rj,t,h1,h2,h3,h4,h5⟩
 ·rw[h2] at h;simp[vI] at h;simp[Region.wanted,h1,h]
 ·rw[h4] at h;simp only[vI] at h;split at h;·rename_i y hy;simp only[Option.some.injEq] at h;have hr:=he.2.2 t;rw[hy] at hr;have hv:=x6 (c:=c) hr;have ht:t<a.tmps.size:=(by rw[he.1];exact h5);have hyield:yielded ops a.tmps j=some y:=(by simp only[yielded,h2,h3,Option.bind_some];simp[ht] at hv ⊢;rw[hv]);simp only[Region.wanted,h1,hyield,←h];cases y<;>cases w<;>rfl
  ·rename_i hy;simp only[Option.some.injEq] at h;have hr:=he.2.2 t;rw[hy] at hr;obtain⟨vs,hv,hl,_⟩:=hr;have hvs:vs=[]:=CE hl;subst hvs;have ht:t<a.tmps.size:=(by rw[he.1];exact h5);have hyield:yielded ops a.tmps j=none:=(by simp only[yielded,h2,h3,Option.bind_some];simp[ht] at hv ⊢;rw[hv]);simp only[Region.wanted,h1,hyield,←h];rfl
  ·simp at h
theorem exec {ops:Array Oper} {o:aY} {L:List aY} {R:Nat} {c0:Cf} {H0:aA} {nx:Nat} {S:dJ} {K:D→aA→Nat→dJ→Prop} (htr:Tr P T R ops o) (hN0: ∀i,c0.N i→i<b) (hnd: ∀o'∈L,o'.ix≠o.ix) (hix: ∀o'∈L,o'.ix<R)
 (hs:RS T b R c0 H0 (o::L) c e H nx a) (h:l8 P b o e H nx S K) {Kr:Act→World→Prop} {Qr:Exit→Act→World→Prop}
 (hk: ∀d H' nx' S' c' a',RS T b R c0 H0 L c' (e.put o.dst d) H' nx' a'→K d H' nx' S'→Kr a' c'.w):wpOp P ops Qr o.ix Kr a c.w:=by
 obtain⟨ro,h1,h2,h3,h4⟩:=htr.ex
 have hid: ¬c.N (b+o.ix):=by
  intro h5;rcases hs.N _ h5 with h6|⟨_,_,h6⟩
  ·have:=hN0 _ h6;omega
  ·exact h6 o (by simp) rfl
 have hNs: ∀i,c.N i→c0.N i∨(b≤i∧i<nx∧ ∀o'∈L,i≠b+o'.ix):=fun i hi=>(hs.N i hi).imp (fun h=>h) fun⟨x,y,z⟩=>⟨x,y,fun o' ho'=>z o' (by simp[ho'])⟩
 unfold wpOp
 rw[h1]
 simp only
 unfold l8 at h
 split at h
 ·rename_i hg;rw[if_pos (V2 hs.er h4 hg)];left;unfold aop at h;split at h;·obtain⟨d,h5,h6⟩:=h;have hsm:=hs.st.forget (H':=msk b o.mask H) (fun i o' h=>by unfold msk at h;split at h<;>simp_all);obtain⟨v,hrun,hr⟩:=ahT (P:=P) (o:=ro) hsm hs.er (by rw[h2];exact h5);unfold Oper.wp;rw[hrun];show Kr _ _;rw[h3];exact hk d H nx _ c _ ⟨hs.st,hs.er.put hs.st (Step.refl c H) htr.dst hr,hs.step,hNs,hs.nx⟩ h6
  ·obtain⟨d,ob,h5,h6⟩:=h;obtain⟨v,c',hrun,hs',hstep,hr,hN⟩:=ahM (P:=P) (o:=ro) hs.st hs.er hid (by rw[h2];exact h5);unfold Oper.wp;rw[hrun];show Kr _ _;rw[h3];refine hk d _ nx _ c' _ ⟨hs',hs.er.put hs.st hstep htr.dst hr,hs.step.trans hstep,fun i hi=> ?_,hs.nx⟩ h6;rcases(hN i).1 hi with rfl|hi;·refine .inr ⟨by omega,by have:=hs.nx;have:=htr.ix;omega,fun o' ho' h7=>hnd o' ho' (by omega)⟩
   ·exact hNs i hi
  ·have hsm:=hs.st.forget (H':=msk b o.mask H) (fun i o' h=>by unfold msk at h;split at h<;>simp_all);refine ajX (P:=P) (o:=ro) hsm hs.er (nx:=nx) (fun i hi=> ?_) hid (by rw[h2];exact h) fun d v c' H' nx' k1 k2 k3 k4 k5 k6=> ?_
   ·rcases hs.N i hi with h5|h5;·have:=hN0 i h5;have:=hs.nx;omega
    ·exact h5.2.1
   ·rw[h3];have hun:=agH (M:=fun i=>i∈o.mask.map (b+ ·)) (Hm:=msk b o.mask H) hs.st (fun i=>rfl) k1 k2;refine hk d _ nx' _ c' _ ⟨hun.1,hs.er.put hs.st hun.2 htr.dst k3,hs.step.trans hun.2,fun i hi=> ?_,by have:=hs.nx;omega⟩ k6.2;rcases k4 i hi with h5|rfl|h5;·exact(hNs i h5).imp (fun h=>h) fun⟨x,y,z⟩=>⟨x,by omega,z⟩
    ·exact .inr ⟨by omega,by have:=hs.nx;have:=htr.ix;omega,fun o' ho' h7=>hnd o' ho' (by omega)⟩
    ·exact .inr ⟨by have:=hs.nx;omega,h5.2,fun o' ho' h7=>by have:=hix o' ho';have:=hs.nx;omega⟩
 ·rename_i hg;rw[if_neg (by rw[V2 hs.er h4 hg];simp),h3];exact hk (.tup []) H nx _ c _ ⟨hs.st,hs.er.put hs.st (Step.refl c H) htr.dst ⟨[],rfl,rfl,by simp⟩,hs.step,hNs,hs.nx⟩ h
 ·exact h.elim
inductive Anc (ops:Array Oper):Nat→Nat→Prop where
 |base {i j:Nat} {ro:Oper} {ed:Edge} (h:ops[i]?=some ro) (he:ed∈ro.after) (hb:Region.binds .any ed=true) (hj:ed.on=j):Anc ops i j
 |step {i k j:Nat} {ro:Oper} {ed:Edge} (h:ops[i]?=some ro) (he:ed∈ro.after) (hb:Region.binds .any ed=true) (hk:ed.on=k) (hr:Anc ops k j):Anc ops i j
def aqV (ms:List Nat) (es:List Edge):Nat:=es.foldl (fun s ed=>if Region.binds .any ed then s|||2^ed.on|||ms.getD ed.on 0 else s) 0
def HC:List Oper→List Nat→List Nat
 | [],ms=>ms
 |o::os,ms=>HC os (ms++[aqV ms o.after.toList])
theorem NM {ms:List Nat} {j:Nat}: ∀(es:List Edge) (s:Nat),(es.foldl (fun s ed=>if Region.binds .any ed then s|||2^ed.on|||ms.getD ed.on 0 else s) s).testBit j=true→
 s.testBit j=true∨ ∃ed∈es,Region.binds .any ed=true∧(ed.on=j∨(ms.getD ed.on 0).testBit j=true)
 | [],s,h=>.inl h
 |ed::es,s,h=>by
  simp only[List.foldl_cons] at h;rcases NM es _ h with h1|⟨ed',h1,h2,h3⟩
  ·split at h1
   ·rename_i hb;simp only[Nat.testBit_or,CB] at h1;rcases h1 with(h1|h1)|h1;·exact .inl h1
    ·rw[Nat.testBit_two_pow] at h1;exact .inr ⟨ed,by simp,hb,.inl (by simpa using h1)⟩
    ·exact .inr ⟨ed,by simp,hb,.inr h1⟩
   ·exact .inl h1
  ·exact .inr ⟨ed',by simp[h1],h2,h3⟩
theorem J1 {ops:Array Oper}: ∀(os:List Oper) (ms:List Nat),(∀k:Nat,os[k]?=ops[ms.length+k]?)→(∀i j:Nat,(ms.getD i 0).testBit j=true→Anc ops i j)→
 ∀i j:Nat,((HC os ms).getD i 0).testBit j=true→Anc ops i j
 | [],ms,_,h=>h
 |o::os,ms,ho,h=>by
  simp only[HC];refine J1 os _ (fun k=> ?_) (fun i j hij=> ?_);·have:=ho (k+1);simp only[List.getElem?_cons_succ,t2,List.length_singleton] at this ⊢;rw[this];congr 1;omega
  ·by_cases hi:i<ms.length;·rw[KL,o5,if_pos hi,←KL] at hij;exact h i j hij
   ·by_cases hi2:i=ms.length
    ·subst hi2;rw[KL,o5,if_neg hi] at hij;simp at hij;have hops:ops[ms.length]?=some o:=(by have:=ho 0;simpa using this.symm);rcases NM (ms:=ms) o.after.toList 0 hij with h1|⟨ed,h1,h2,h3⟩
     ·simp at h1
     ·have hm:ed∈o.after:=(by simpa using h1);rcases h3 with h3|h3;·exact .base hops hm h2 h3
      ·exact .step hops hm h2 rfl (h _ _ h3)
    ·rw[KL,o5,if_neg hi] at hij;rw[Z3 (by simp;omega)] at hij;simp at hij
def akP (ops:Array Oper) (listed:Array Bool):Prop:=∀(i:Nat) (ro:Oper) (ed:Edge),listed.getD i false=true→ops[i]?=some ro→ed∈ro.after→Region.binds .any ed=true→listed.getD ed.on false=true
theorem aeT {ops:Array Oper} {listed:Array Bool} (hc:akP ops listed) {i j:Nat} (h:Anc ops i j) (hi: ∀(ro:Oper) (ed:Edge),ops[i]?=some ro→ed∈ro.after→Region.binds .any ed=true→listed.getD ed.on false=true):
 listed.getD j false=true:=by
 induction h with
 |base h he hb hj=>subst hj;exact hi _ _ h he hb
 |step h he hb hk hr ih=>subst hk;exact ih fun ro ed h1 h2 h3=>hc _ ro ed (hi _ _ h he hb) h1 h2 h3
end
def J3 {α:Type} (f:α→α→Bool):List α→Bool
 | []=>true
 |x::xs=>xs.all (f x)&&J3 f xs
theorem IL {α:Type} {f:α→α→Bool}: ∀{l:List α},J3 f l=true→l.Pairwise (fun x y=>f x y=true)
 | [],_=>.nil
 |x::xs,h=>by simp only[J3,q7,w2] at h;exact .cons h.1 (IL h.2)
def afJ (ops:Array Oper) (T:Nat):Option (Nat×Bool)→Option (Option (Nat×Bool))
 |none=>some none
 |some (j,w)=>match ops[j]? with
  |some rj=>match rj.dst with
   |some t=>if t<T then some (some (t,w)) else none
   |none=>none
  |none=>none
def apT (T:Nat):Option Nat→Bool
 |none=>true
 |some t=>decide (t<T)
def adF (P:Program) (T:Nat) (ops:Array Oper) (i:Nat) (mask amN:List Nat) (look:Bool):Option aY:=
 match ops[i]? with
 |some ro=>match afJ ops T ro.guard with
  |some g=>if apT T ro.dst&&(!look||(LC P ro.op).kind.xP) then some ⟨i,ro.dst,LC P ro.op,g,mask,amN,look⟩ else none
  |none=>none
 |none=>none
def LD (P:Program) (T:Nat) (ops:Array Oper):List (Nat×List Nat×List Nat×Bool)→Option (List aY)
 | []=>some []
 | (i,m,s,k)::r=>match adF P T ops i m s k,LD P T ops r with
   |some o,some l=>some (o::l)
   |_,_=>none
def AG (ops:Array Oper) (anc:List Nat) (l o:aY):Bool:=
 l.ix != o.ix&&((anc.getD o.ix 0).testBit l.ix||comm l o)&&MA l o&&
 (match ops[l.ix]? with
  |some ro=>ro.after.toList.all fun ed=> !Region.binds .any ed||ed.on != o.ix
  |none=>false)
def X3 (ops:Array Oper) (l:aY):Bool:=
 match ops[l.ix]? with
 |some ro=>ro.after.toList.all fun ed=> !Region.binds .any ed||(ed.on != l.ix&&decide (ed.on<ops.size))
 |none=>false
def ap7 (ops:Array Oper) (L:List aY):Bool:=L.length==ops.size&&L.all (X3 ops)&&J3 (AG ops (HC ops.toList [])) L
def YS:List Nat→List Nat→Bool
 | [],[]=>true
 |x::xs,y::ys=>x==y&&YS xs ys
 |_,_=>false
def WD (n:Nat):List (Nat×List Nat×List Nat×Bool):=(List.range n).map fun i=>(i,[],[],false)
def SO (P:Program) (T:Nat) (ops:Array Oper) (draw:Bool) (cert:List (Nat×List Nat×List Nat×Bool)):Option (List aY):=
 match LD P T ops (if draw then cert else WD ops.size) with
 |some L=>if draw then (if ap7 ops L then some L else none) else some L
 |none=>none
section
variable {P : Program} {c c' : Cf} {H H' : aA} {T : Nat} {e : Env} {a : Act} {b : Nat} {ops : Array Oper}
theorem abF {i:Nat} {m s:List Nat} {k:Bool} {o:aY} (h:adF P T ops i m s k=some o):o.ix=i∧Tr P T ops.size ops o∧(o.look=true→o.op.kind.xP=true):=by
 unfold adF at h;split at h
 ·rename_i ro hro;split at h
  ·rename_i g h2;split at h
   ·rename_i hd;simp only[Option.some.injEq] at h;subst h;simp only[q7,CB,CA] at hd;refine⟨rfl,⟨⟨ro,hro,rfl,rfl,?_⟩,fun t ht=> ?_,(C4.1 hro).1⟩,fun hl=> ?_⟩
    ·unfold afJ at h2;split at h2;·rename_i hg;simp only[Option.some.injEq] at h2;exact .inl ⟨hg,h2.symm⟩
     ·rename_i j w hg;split at h2
      ·rename_i rj hj;split at h2
       ·rename_i t ht;split at h2;·rename_i hlt;simp only[Option.some.injEq] at h2;exact .inr ⟨j,w,rj,t,hg,hj,ht,h2.symm,hlt⟩
        ·simp at h2
       ·simp at h2
      ·simp at h2
    ·have:=hd.1;simp only at ht;rw[ht] at this;simpa [apT] using this
    ·rcases hd.2 with h|h;·simp only at hl;rw[hl] at h;cases h
     ·exact h
   ·simp at h
  ·simp at h
 ·simp at h
theorem LK: ∀{ct:List (Nat×List Nat×List Nat×Bool)} {L:List aY},LD P T ops ct=some L→
 L.map (·.ix)=ct.map (·.1)∧ ∀o∈L,Tr P T ops.size ops o∧(o.look=true→o.op.kind.xP=true)
 | [],L,h=>by simp only[LD,Option.some.injEq] at h;subst h;simp
 | (i,m,s,k)::r,L,h=>by
   simp only[LD] at h;split at h
   ·rename_i o l h1 h2;simp only[Option.some.injEq] at h;subst h;obtain⟨e1,e2⟩:=LK h2;obtain⟨e3,e4,e5⟩:=abF h1;refine⟨by simp[e1,e3],fun o' ho'=> ?_⟩;rcases t3.1 ho' with rfl|h;·exact⟨e4,e5⟩
    ·exact e2 o' h
   ·simp at h
theorem arE {H:aA} {nx:Nat} {o:aY} {S:dJ} {K:D→aA→Nat→dJ→Prop} (h:l8 P b o e H nx S K):
 l8 P b o e H nx S fun d H' nx' S'=>K d H' nx' S'∧ ∀p∈S',p∈S∨ ∃d,p∈entry b o e d:=by
 unfold l8 at*
 split at h
 ·unfold aop at*;split at h;·obtain⟨d,h1,h2⟩:=h;exact⟨d,h1,h2,fun p hp=>(o3.1 hp).elim (fun h=>.inr ⟨d,h⟩) .inl⟩
  ·obtain⟨d,ob,h1,h2⟩:=h;exact⟨d,ob,h1,h2,fun p hp=>.inl hp⟩
  ·exact wX h fun d H' nx' _ h1=>⟨h1.1,h1.2,fun p hp=>.inl hp⟩
 ·exact⟨h,fun p hp=>.inl hp⟩
 ·exact h
theorem VY {c0:Cf} {H0:aA} {Q:Env→aA→Nat→Prop} {Qr:Exit→Act→World→Prop} (hN0: ∀i,c0.N i→i<b)
 (hQ: ∀c e H nx a,RS T b ops.size c0 H0 [] c e H nx a→Q e H nx→Qr .normal a c.w): ∀(L:List aY) (c:Cf) (e:Env) (H:aA) (nx:Nat) (a:Act) (S:dJ),
 (∀o∈L,Tr P T ops.size ops o)→(L.map (·.ix)).Nodup→RS T b ops.size c0 H0 L c e H nx a→avc P b Q L e H nx S→wpOps P ops Qr (L.map (·.ix)) a c.w
 | [],c,e,H,nx,a,S,_,_,hs,h=>hQ c e H nx a hs h
 |o::L,c,e,H,nx,a,S,htr,hnd,hs,h=>by simp only[n3,bq8] at hnd;simp only[n3];rw[wpOps_cons];simp only[avc] at h;refine exec (htr o (by simp)) hN0 (fun o' ho' heq=>hnd.1 (heq▸CF.2 ⟨o',ho',rfl⟩)) (fun o' ho'=>(htr o' (by simp[ho'])).ix) hs h fun d H' nx' S' c' a' h1 h2=> ?_;exact VY hN0 hQ L c' _ H' nx' a' S' (fun o' ho'=>htr o' (by simp[ho'])) hnd.2 h1 h2
structure Inv (ops:Array Oper) (L:List aY) (listed:Array Bool):Prop where
 size:listed.size=ops.size
 mem: ∀i,i<ops.size→(listed.getD i false=false↔∃o∈L,o.ix=i)
 closed:akP ops listed
theorem aaJ {listed:Array Bool} {i j:Nat} (hi:i<listed.size):(listed.setIfInBounds i true).getD j false=if j=i then true else listed.getD j false:=by
 by_cases hj:j=i;·subst hj;simp[hi]
 ·rw[if_neg hj];simp[Z2 (Ne.symm hj)]
theorem aiF {c0:Cf} {H0:aA} {Q:Env→aA→Nat→Prop} {Qr:Exit→Act→World→Prop} (hN0: ∀i,c0.N i→i<b)
 (hQ: ∀c e H nx a,RS T b ops.size c0 H0 [] c e H nx a→Q e H nx→Qr .normal a c.w): ∀(fuel:Nat) (L:List aY) (listed:Array Bool) (c:Cf) (e:Env) (H:aA) (nx:Nat) (a:Act) (S:dJ),L.length≤fuel→
 (∀o∈L,Tr P T ops.size ops o∧(o.look=true→o.op.kind.xP=true)∧X3 ops o=true)→L.Pairwise (fun x y=>AG ops (HC ops.toList []) x y=true)→Inv ops L listed→
 RS T b ops.size c0 H0 L c e H nx a→WG b S L→avc P b Q L e H nx S→wpAny P .any ops Qr fuel listed a c.w:=by
 have hready: ∀(L:List aY) (listed:Array Bool),(∀o∈L,Tr P T ops.size ops o∧(o.look=true→o.op.kind.xP=true)∧X3 ops o=true)→L.Pairwise (fun x y=>AG ops (HC ops.toList []) x y=true)→
  Inv ops L listed→Region.ready .any ops listed=[]→L=[]:=by
  intro L listed htr hp hinv hr
  match L,htr,hp,hinv with
  | [],_,_,_=>rfl
  |l::L,htr,hp,hinv=>
   exfalso;obtain⟨⟨⟨ro,hro,_⟩,_,hix⟩,_,hself⟩:=htr l (by simp);have hun:listed.getD l.ix false=false:=(hinv.mem l.ix hix).2 ⟨l,by simp,rfl⟩
   have hmem:l.ix∈Region.ready .any ops listed:=by
    unfold Region.ready;simp only[List.mem_filter,C2];refine⟨hix,?_⟩;have hsz:l.ix<listed.size:=(by rw[hinv.size];exact hix);have h1:listed.getD l.ix true=false:=(by have:listed.getD l.ix false=listed[l.ix]:=(by simp[hsz]);simp[hsz];rw[←this];exact hun);simp only[h1,Bool.not_false,hro,Option.map_some,Option.getD_some,btQ,KN];intro ed hed;by_cases hb:Region.binds .any ed=true
    ·simp only[hb,Z1,Bool.false_or];simp only[X3,hro,w2,CB,CA,q7,bne_iff_ne,decide_eq_true_eq] at hself;rcases hself ed (by simpa using hed) with h2|⟨h2,h3⟩
     ·rw[hb] at h2;cases h2
     ·cases hl:listed.getD ed.on false with
      |true=>rfl
      |false=>
       obtain⟨o,ho,hoix⟩:=(hinv.mem ed.on h3).1 hl;rcases t3.1 ho with rfl|ho;·exact absurd hoix.symm h2
       ·have h4:=(G0.1 hp).1 o ho;simp only[AG,hro,q7,w2,CB,CA,bne_iff_ne] at h4;rcases h4.2 ed (by simpa using hed) with h5|h5;·rw[hb] at h5;cases h5
        ·exact absurd hoix.symm h5
    ·simp[hb]
   rw[hr] at hmem;simp at hmem
 intro fuel
 induction fuel with
 |zero=>
  intro L listed c e H nx a S hlen htr hp hinv hs hf h;have hL:L=[]:=CE (by omega);subst hL;refine⟨?_,hQ c e H nx a hs h⟩;unfold Region.ready;rw[List.filter_eq_nil_iff];intro i hi;simp only[C2] at hi
  have:listed.getD i true=true:=by
   have hsz:i<listed.size:=by rw[hinv.size];exact hi
   cases hl:listed.getD i false with
   |true=>simp[hsz] at hl ⊢;exact hl
   |false=>obtain⟨o,ho,_⟩:=(hinv.mem i hi).1 hl;simp at ho
  simp[this]
 |succ fuel ih=>
  intro L listed c e H nx a S hlen htr hp hinv hs hf h;refine⟨fun hr=> ?_,fun i hi=> ?_⟩;·have hL:=hready L listed htr hp hinv hr;subst hL;exact hQ c e H nx a hs h
  ·unfold Region.ready at hi;simp only[List.mem_filter,C2,q7,CA] at hi;obtain⟨hilt,hunl,hpred⟩:=hi;have hsz:i<listed.size:=(by rw[hinv.size];exact hilt);have hunl':listed.getD i false=false:=(by simp[hsz] at hunl ⊢;exact hunl);obtain⟨o,ho,hoix⟩:=(hinv.mem i hilt).1 hunl';obtain⟨pre,post,rfl⟩:=List.append_of_mem ho;obtain⟨⟨⟨ro,hro,_⟩,_⟩,_⟩:=htr o (by simp);rw[hoix] at hro;simp only[hro,Option.map_some,Option.getD_some,KN,CB,CA] at hpred
   have hpl: ∀(ro':Oper) (ed:Edge),ops[i]?=some ro'→ed∈ro'.after→Region.binds .any ed=true→listed.getD ed.on false=true:=by
    intro ro' ed h1 h2 h3;rw[hro] at h1;cases h1;rcases hpred ed h2 with h4|h4;·rw[h3] at h4;cases h4
    ·exact h4
   have hp2:=brM.1 hp;have hp3:=G0.1 hp2.2.1
   have hcomm: ∀l∈pre,Comm l o:=by
    intro l hl;have h1:=hp2.2.2 l hl o (by simp);simp only[AG,q7,CB] at h1;rcases h1.1.1.2 with h2|h2;·exfalso;have hanc:=J1 (ops:=ops) ops.toList [] (fun k=>by simp) (fun i j hij=>by simp at hij) o.ix l.ix h2;rw[hoix] at hanc;have hll:=aeT hinv.closed hanc hpl;have hlix:=(htr l (by simp[hl])).1.ix;have:=(hinv.mem l.ix hlix).2 ⟨l,by simp[hl],rfl⟩;rw[hll] at this;cases this
    ·exact agL h2
   have hmasks:(pre++o::post).Pairwise (fun q l=>MA q l=true):=hp.imp fun {x y} hxy=>by simp only[AG,q7] at hxy;exact hxy.1.2
   have hpull:=pull pre e H nx S hcomm hmasks hf h;simp only[avc] at hpull;have hpull2:=arE hpull
   have hne: ∀l∈pre++post,l.ix≠o.ix:=by
    intro l hl heq;rcases o3.1 hl with hl|hl;·have:=hp2.2.2 l hl o (by simp);simp[AG,heq] at this
    ·have:=hp3.1 l hl;simp[AG,heq] at this
   rw[←hoix]
   have hs':RS T b ops.size c0 H0 (o::(pre++post)) c e H nx a:=⟨hs.st,hs.er,hs.step,fun i hi=>(hs.N i hi).imp (fun h=>h) fun⟨x,y,z⟩=>⟨x,y,fun o' ho'=>z o' (by
    simp only[t3,o3] at ho' ⊢
    rcases ho' with h|h|h
    ·exact .inr (.inl h)
    ·exact .inl h
    ·exact .inr (.inr h))⟩,hs.nx⟩
   have hsubl:(pre++post).Sublist (pre++o::post):=(by simp);refine exec (htr o (by simp)).1 hN0 hne (fun o' ho'=>(htr o' (hsubl.subset ho')).1.ix) hs' hpull2 fun d H' nx' S' c' a' h1 ⟨h2,h3⟩=> ?_;refine ih (pre++post) _ c' _ H' nx' a' S' (by simp at hlen ⊢;omega) (fun o' ho'=>htr o' (hsubl.subset ho')) (hp.sublist hsubl) ?_ h1 ?_ h2
   ·refine⟨by simpa using hinv.size,fun j hj=> ?_,?_⟩
    ·rw[aaJ (by rw[hoix];exact hsz)];split;·rename_i hji;subst hji;refine⟨(fun h=>by cases h),fun⟨o',ho',heq⟩=>absurd heq (hne o' ho')⟩
     ·rename_i hji;rw[hinv.mem j hj];constructor
      ·rintro⟨o',ho',rfl⟩;refine⟨o',?_,rfl⟩;simp only[o3,t3] at ho' ⊢;rcases ho' with h|h|h;·exact .inl h
       ·subst h;exact absurd rfl hji
       ·exact .inr h
      ·rintro⟨o',ho',rfl⟩;exact⟨o',hsubl.subset ho',rfl⟩
    ·intro k ro' ed hk hops hed hbind;rw[aaJ (by rw[hoix];exact hsz)] at hk ⊢;split;·rfl
     ·split at hk;·rename_i hki;subst hki;rw[hoix] at hops;exact hpl ro' ed hops hed hbind
      ·exact hinv.closed k ro' ed hk hops hed hbind
   ·intro l hl hk p hpm H1 ob hh;rcases h3 p hpm with h4|⟨d',h4⟩
    ·exact hf l (hsubl.subset hl) hk p h4 H1 ob hh
    ·refine QS ?_ hk p h4 H1 ob hh;rcases o3.1 hl with hl|hl
     ·have hc:=hcomm l hl;simp only[MA,CB,CA,boI,Y9]
      cases hlook:o.look with
      |false=>exact .inl (.inl rfl)
      |true=>right;exact hc.mo (by rw[hk];rfl) (.inl ((htr o (by simp)).2.1 hlook))
     ·have:=hp3.1 l hl;simp only[AG,q7] at this;exact this.1.2
end
def D1.dQ:D1→Bool
 | .v _| .isl _| .fQ _| .MY _=>true
 |_=>false
inductive Frz (H:aA) (F:Nat→Prop):D1→D1→Prop where
 |same (d:D1) (h:d.dQ=true):Frz H F d d
 |nil (n id off:Nat):Frz H F (.isl []) (.osl n id off 0 0)
 |frz (rows:List (List D1)) (n id off cap:Nat) (o:bA) (f:Nat→Nat→D1) (hF:F id) (ho:H id=some o) (hn:o.n=n) (hlen:off+rows.length≤o.rows.length) (hcap:rows.length≤cap)
  (hr: ∀(i:Nat) (r':List D1),rows[i]?=some r'→r'.length=n)
  (hf: ∀(i j:Nat) (r':List D1) (d':D1),rows[i]?=some r'→r'[j]?=some d'→∃r,o.rows[off+i]?=some r∧r[j]?=some (f i j))
  (hd: ∀(i j:Nat) (r':List D1) (d':D1),rows[i]?=some r'→r'[j]?=some d'→Frz H F d' (f i j)):Frz H F (.isl rows) (.osl n id off rows.length cap)
 |ptr (cells:List D1) (n id row col:Nat) (o:bA) (r:List D1) (f:Nat→D1) (hF:F id) (ho:H id=some o) (hn:o.n=n) (hr:o.rows[row]?=some r)
  (hf: ∀(j:Nat) (d':D1),cells[j]?=some d'→r[col+j]?=some (f j)) (hd: ∀(j:Nat) (d':D1),cells[j]?=some d'→Frz H F d' (f j)):Frz H F (.fQ cells) (.ptr n id row col)
 |omap (x:mH) (id:Nat) (hF:F id) (ho:H id=some (u4 x)):Frz H F (.MY x) (.omap id)
inductive Cv1 (H:aA) (F:Nat→Prop) (σ:Nat→Nat) (nh:Nat):D1→D1→Prop where
 |frz {d' d:D1} (h:Frz H F d' d):Cv1 H F σ nh d' d
 |osl (n id off len cap:Nat) (h:id<nh):Cv1 H F σ nh (.osl n id off len cap) (.osl n (σ id) off len cap)
 |VS (n id id' off off' n':Nat):Cv1 H F σ nh (.osl n id off 0 0) (.osl n' id' off' 0 0)
 |ptr (n id row col:Nat) (h:id<nh):Cv1 H F σ nh (.ptr n id row col) (.ptr n (σ id) row col)
 |clo (f:FuncId) (caps caps':List D1) (hl:caps'.length=caps.length) (h: ∀(i:Nat) (x y:D1),caps'[i]?=some x→caps[i]?=some y→x.dQ=true∧Frz H F x y∨ ∃n id row col,id<nh∧x= .ptr n id row col∧y= .ptr n (σ id) row col):Cv1 H F σ nh (.clo f caps') (.clo f caps)
 |omap (id:Nat) (h:id<nh):Cv1 H F σ nh (.omap id) (.omap (σ id))
 |dead (d:D1):Cv1 H F σ nh .dead d
def CvL (H:aA) (F:Nat→Prop) (σ:Nat→Nat) (nh:Nat) (ds' ds:List D1):Prop:=ds'.length=ds.length∧ ∀(i:Nat) (x y:D1),ds'[i]?=some x→ds[i]?=some y→Cv1 H F σ nh x y
def CvV (H:aA) (F:Nat→Prop) (σ:Nat→Nat) (nh:Nat):DV→DV→Prop
 | .c x,.c y=>Cv1 H F σ nh x y
 | .agg xs,.agg ys=>CvL H F σ nh xs ys
 |_,_=>False
def CvD (H:aA) (F:Nat→Prop) (σ:Nat→Nat) (nh:Nat):D→D→Prop
 | .dead,_=>True
 | .one x,.one y=>CvV H F σ nh x y
 | .tup xs,.tup ys=>xs.length=ys.length∧ ∀(i:Nat) (x y:DV),xs[i]?=some x→ys[i]?=some y→CvV H F σ nh x y
 |_,_=>False
def CvE (H:aA) (F:Nat→Prop) (σ:Nat→Nat) (nh:Nat) (e' e:Env):Prop:=∀t,CvD H F σ nh (e' t) (e t)
def CvO (H:aA) (F:Nat→Prop) (σ:Nat→Nat) (nh:Nat) (o' o:bA):Prop:=o'.n=o.n∧o'.ext=o.ext∧o'.rows.length≤o.rows.length∧(o.n=0→o'.rows=[]→o.rows=[])∧(∀(i:Nat) (r':List D1),o'.rows[i]?=some r'→∃r,o.rows[i]?=some r∧CvL H F σ nh r' r)
structure CvH (H:aA) (F:Nat→Prop) (σ:Nat→Nat) (nh:Nat) (H':aA):Prop where
 obj: ∀id o',H' id=some o'→id<nh∧ ¬F (σ id)∧ ∃o,H (σ id)=some o∧CvO H F σ nh o' o
 inj: ∀i j o o',H' i=some o→H' j=some o'→σ i=σ j→i=j
structure Cv (nx:Nat) (e:Env) (H:aA) (nh:Nat) (e':Env) (H':aA) (F:Nat→Prop) (σ:Nat→Nat):Prop where
 le:nx≤nh
 fix: ∀i,i<nx→σ i=i
 env:CvE H F σ nh e' e
 heap:CvH H F σ nh H'
section
variable {c c0 : Cf} {H H0 H' : aA} {T : Nat} {e e' : Env} {a : Act} {F : Nat → Prop} {σ : Nat → Nat} {nx nh : Nat}
theorem afL (hs:St c H) {I':Nat→Prop} (hI: ∀b,c.I b→I' b) (hF: ∀id o,F id→H id=some o→0<o.ext→I' (c.ρ id).1) {d' d:D1} (h:Frz H F d' d): ∀{x:Value},Rel c d x→Imm I' c.w d' x:=by
 induction h with
 |same d h=>
  intro x hr
  cases d<;>simp only[D1.dQ] at h<;>first
   | (simp only[Rel,bY] at hr;exact hr.wT hI (fun _ _=>rfl))
   |cases h
 |nil n id off=>
  intro x hr;simp only[Rel,bY] at hr;obtain⟨_,⟨_,A,rfl⟩|⟨h0,_⟩⟩:=hr;·exact .isl [] A 0 0 0 0 (fun _ _=>undef) (by simp) (by simp) (by simp) (by simp) (by simp)
  ·omega
 |frz rows n id off cap o f hFi ho hn hlen hcap hr hf hd ih=>
  intro x hrel;simp only[Rel,bY] at hrel;obtain⟨_,⟨h0,A,rfl⟩|⟨hpos,hN,rfl⟩⟩:=hrel;·have hrows:rows=[]:=CE (by omega);subst hrows;exact .isl [] A 0 0 0 0 (fun _ _=>undef) (by simp) (by simp) (by simp) (by simp) (by simp)
  ·have hall: ∀p:Nat×Nat,∃u:Value,∀r' d',rows[p.1]?=some r'→r'[p.2]?=some d'→c.w.cell? ⟨(c.ρ id).1,(c.ρ id).2+off*n+(p.1*n+p.2),none⟩=some u∧Imm I' c.w d' u:=by
    rintro⟨i,j⟩
    cases hri:rows[i]? with
    |none=>exact⟨undef,fun r' d' h=>by cases h⟩
    |some r'=>
     cases hrj:r'[j]? with
     |none=>exact⟨undef,fun r'' d' h h2=>by cases h;rw[hrj] at h2;cases h2⟩
     |some d'=>obtain⟨r,h1,h2⟩:=hf i j r' d' hri hrj;obtain⟨u,h3,h4⟩:=hs.cells id o (off+i) j r _ ho h1 h2;refine⟨u,fun r'' d'' h5 h6=> ?_⟩;cases h5;rw[hrj] at h6;cases h6;refine⟨?_,ih i j r' d' hri hrj h4⟩;rw[←h3,hn];show c.w.cell? ⟨(c.ρ id).1,(c.ρ id).2+off*n+(i*n+j),none⟩=c.w.cell? ⟨(c.ρ id).1,(c.ρ id).2+((off+i)*n+j),none⟩;rw[o4,←t1,←t1,t1 (c.ρ id).2]
   obtain⟨g,hg⟩:=Classical.axiomOfChoice hall
   refine .isl rows _ cap n (c.ρ id).1 ((c.ρ id).2+off*n) (fun i j=>g (i,j)) (fun hne=>⟨rfl,hF id o hFi ho ?_⟩) hcap hr (fun i j r' d' h1 h2=>(hg (i,j) r' d' h1 h2).1) (fun i j r' d' h1 h2=>(hg (i,j) r' d' h1 h2).2)
   have:0<rows.length:=List.length_pos_iff.2 hne
   have:=(hs.wf id o ho).1
   omega
 |omap m id hFi ho=>
  intro x hrel;simp only[Rel,bY] at hrel;obtain⟨_,rfl⟩:=hrel;have hb:=hs.blk id _ ho (br5 _);unfold yW at hb;rw[if_pos ⟨rfl,rfl⟩] at hb;have e:acE ((u4 m).ext-1)=m:=by show acE (aaX m+1-1)=m;rw[Nat.add_sub_cancel,yH]
  rw[e] at hb;exact .MY m _ (hF id _ hFi ho (br5 _)) hb
 |ptr cells n id row col o r f hFi ho hn hro hf hd ih=>
  intro x hrel;simp only[Rel,bY] at hrel;obtain⟨_,rfl⟩:=hrel;have hpos:0<o.ext:=by have:=(hs.wf id o ho).1;have:row<o.rows.length:=(m3.1 hro).1;omega
  have hall: ∀j:Nat,∃u:Value,∀d',cells[j]?=some d'→c.w.cell? ⟨(c.ρ id).1,(c.ρ id).2+(row*n+col)+j,none⟩=some u∧Imm I' c.w d' u:=by
   intro j
   cases hj:cells[j]? with
   |none=>exact⟨undef,fun d' h=>by cases h⟩
   |some d'=>obtain⟨u,h3,h4⟩:=hs.cells id o row (col+j) r _ ho hro (hf j d' hj);refine⟨u,fun d'' h6=> ?_⟩;cases h6;refine⟨?_,ih j d' hj h4⟩;rw[←h3,hn];rw[←t1,←t1,←t1]
  obtain⟨g,hg⟩:=Classical.axiomOfChoice hall;exact .fQ cells _ _ g (hF id o hFi ho hpos) (fun j d h=>(hg j d h).1) (fun j d h=>(hg j d h).2)
def Cf.conv (c:Cf) (nx nh:Nat) (σ:Nat→Nat) (I':Nat→Prop):Cf:={ρ:=fun i=>c.ρ (σ i),N:=fun i=>(i<nx∧c.N i)∨(nx≤i∧i<nh∧c.N (σ i)),I:=I',w:=c.w}
theorem PM (hs:St c H) {I':Nat→Prop} (hI: ∀b,c.I b→I' b) (hF: ∀id o,F id→H id=some o→0<o.ext→I' (c.ρ id).1) (hfix: ∀i,i<nx→σ i=i) {d' d:D1} (h:Cv1 H F σ nh d' d) {x:Value}
 (hr:Rel c d x):Rel (c.conv nx nh σ I') d' x:=by
 have hN: ∀id,id<nh→c.N (σ id)→(c.conv nx nh σ I').N id:=by
  intro id h1 h2;by_cases hlt:id<nx;·left;exact⟨hlt,by rw[hfix id hlt] at h2;exact h2⟩
  ·right;exact⟨by omega,h1,h2⟩
 cases h with
 |frz h=>have:=afL hs hI hF h hr;cases d'<;>simp only[Rel,bY]<;>first|exact this| (cases this;done)
 |osl n id off len cap hlt=>simp only[Rel,bY] at hr ⊢;exact⟨hr.1,hr.2.imp (fun h=>h) fun⟨h1,h2,h3⟩=>⟨h1,hN id hlt h2,h3⟩⟩
 |VS n id id' off off' n'=>
  simp only[Rel,bY] at hr ⊢;obtain⟨_,h|⟨h0,_⟩⟩:=hr;·exact⟨m5 _,.inl h⟩
  ·omega
 |ptr n id row col hlt=>simp only[Rel,bY] at hr ⊢;exact⟨hN id hlt hr.1,hr.2⟩
 |omap id hlt=>simp only[Rel,bY] at hr ⊢;exact⟨hN id hlt hr.1,hr.2⟩
 |dead d=>simp only[Rel,bY];exact hr.oQ
 |clo f caps caps' hl hc=>
  obtain⟨vs,hx,hvl,hv⟩:=hr;refine⟨vs,hx,by rw[hvl,hl],fun i d u h1 h2=> ?_⟩;have hi:i<caps.length:=by rw[←hl];exact(m3.1 h1).1
  have hr:=hv i _ u (n1 hi) h2;rcases hc i d _ h1 (n1 hi) with⟨hb,hz⟩|⟨n,id,row,col,hlt,rfl,hy⟩
  ·generalize caps[i]=z at*
   have hr2:Rel c z u:=by
    cases z with
    |clo f2 c2=>simp only[bY] at hr;cases hr
    |_=>exact hr
   have:=afL hs hI hF hz hr2
   cases d<;>simp only[D1.dQ] at hb<;>first
    | (simp only[bY];exact this)
    |cases hb
  ·rw[hy] at hr;simp only[bY] at hr ⊢;exact⟨hN id hlt hr.1,hr.2⟩
theorem an5 (hs:St c H) {I':Nat→Prop} (hI: ∀b,c.I b→I' b) (hF: ∀id o,F id→H id=some o→0<o.ext→I' (c.ρ id).1) (hfix: ∀i,i<nx→σ i=i) {ds' ds:List D1} (h:CvL H F σ nh ds' ds) {vs:List Value}
 (hr:rU c ds vs):rU (c.conv nx nh σ I') ds' vs:=by
 refine⟨by rw[hr.1,h.1],fun i d u h1 h2=> ?_⟩
 have hi:i<ds.length:=by rw[←h.1];exact(m3.1 h1).1
 exact PM hs hI hF hfix (h.2 i d _ h1 (n1 hi)) (hr.2 i _ u (n1 hi) h2)
theorem af1 (hs:St c H) {I':Nat→Prop} (hI: ∀b,c.I b→I' b) (hF: ∀id o,F id→H id=some o→0<o.ext→I' (c.ρ id).1) (hfix: ∀i,i<nx→σ i=i) {d' d:DV} (h:CvV H F σ nh d' d) {x:Value}
 (hr:jZ c d x):jZ (c.conv nx nh σ I') d' x:=by
 cases d'<;>cases d<;>simp only[CvV] at h
 ·exact PM hs hI hF hfix h hr
 ·obtain⟨vs,hx,hl⟩:=hr;exact⟨vs,hx,an5 hs hI hF hfix h hl⟩
theorem zD (hs:St c H) {I':Nat→Prop} (hI: ∀b,c.I b→I' b) (hF: ∀id o,F id→H id=some o→0<o.ext→I' (c.ρ id).1) (hfix: ∀i,i<nx→σ i=i) {d' d:D} (h:CvD H F σ nh d' d) {x:Value}
 (hr:fD c d x):fD (c.conv nx nh σ I') d' x:=by
 cases d' with
 |dead=>trivial
 |one d'=>cases d<;>simp only[CvD] at h;exact af1 hs hI hF hfix h hr
 |tup xs=>
  cases d<;>simp only[CvD] at h;obtain⟨vs,hx,hl,hv⟩:=hr;refine⟨vs,hx,by rw[hl,h.1],fun i d u h1 h2=> ?_⟩;rename_i ys;have hi:i<ys.length:=by rw[←h.1];exact(m3.1 h1).1
  exact af1 hs hI hF hfix (h.2 i d _ h1 (n1 hi)) (hv i _ u (n1 hi) h2)
def Cf.frI (c:Cf) (H:aA) (F:Nat→Prop):Nat→Prop:=fun b=>c.I b∨ ∃id o,F id∧H id=some o∧0<o.ext∧(c.ρ id).1=b
theorem adN (hs:St c H) (hstep:Step c0 H0 c H) (hN0: ∀i,c0.N i→i<nx) (hle:nx≤nh) (hfix: ∀i,i<nx→σ i=i) (hH:CvH H F σ nh H'):
 St (c.conv nx nh σ (c.frI H F)) H'∧Step c0 H0 (c.conv nx nh σ (c.frI H F)) H':=by
 refine⟨?_,?_⟩
 ·refine {named:= ?_,wf:= ?_,blk:= ?_,cells:= ?_,sep:= ?_,imm:= ?_,old:= ?_}
  ·intro id o' h;obtain⟨h1,_,o,h2,_⟩:=hH.obj id o' h;have hn:=hs.named _ o h2;by_cases hlt:id<nx;·left;exact⟨hlt,by rw[hfix id hlt] at hn;exact hn⟩
   ·right;exact⟨by omega,h1,hn⟩
  ·intro id o' h;obtain⟨h1,_,o,h2,h3,h4,h5,_,h6⟩:=hH.obj id o' h;obtain⟨k1,k2⟩:=hs.wf _ o h2;refine⟨by omega,fun i r hr=> ?_⟩;obtain⟨r0,h7,h8⟩:=h6 i r hr;rw[h8.1,k2 i r0 h7,h3]
  ·intro id o' h he;obtain⟨h1,_,o,h2,h3,h4,h5,h7,h6⟩:=hH.obj id o' h;exact(hs.blk _ o h2 (by omega)).arW h3 h4 fun h0=>⟨h7 h0,fun hr=>by rw[hr] at h5;exact H4.1 (by simpa using h5)⟩
  ·intro id o' i j r d h h1 h2;obtain⟨_,_,o,k2,k3,k4,k5,_,k6⟩:=hH.obj id o' h;obtain⟨r0,k7,k8⟩:=k6 i r h1;have hj:j<r0.length:=(by rw[←k8.1];exact(m3.1 h2).1);obtain⟨u,k9,k10⟩:=hs.cells _ o i j r0 _ k2 k7 (n1 hj);refine⟨u,by rw[k3];exact k9,?_⟩;exact PM hs (fun b h=>.inl h) (fun id o h1 h2 h3=>.inr ⟨id,o,h1,h2,h3,rfl⟩) hfix (k8.2 j d _ h2 (n1 hj)) k10
  ·intro i j o o' hi hj he he' hne;obtain⟨_,_,o1,k2,k3,k4,_⟩:=hH.obj i o hi;obtain⟨_,_,o2,k6,k7,k8,_⟩:=hH.obj j o' hj;exact hs.sep (σ i) (σ j) o1 o2 k2 k6 (by omega) (by omega) (fun h=>hne (hH.inj i j o o' hi hj h))
  ·intro id o' h he;obtain⟨_,hnF,o,h2,h3,h4,_⟩:=hH.obj id o' h;rintro(hI|⟨id2,o2,k1,k2,k3,k4⟩);·exact hs.imm _ o h2 (by omega) hI
   ·have hne:id2≠σ id:=(by rintro rfl;exact hnF k1);exact hs.sep id2 (σ id) o2 o k2 h2 k3 (by omega) hne k4
  ·rintro b (hI|⟨id2,o2,k1,k2,k3,rfl⟩);·exact hs.old b hI
   ·exact(hs.blk id2 o2 k2 k3).lt
 ·exact {
   ρ:=fun id hid=>by show c.ρ (σ id)=c0.ρ id;rw[hfix id (hN0 id hid)];exact hstep.ρ id hid
   N:=fun id hid=>.inl ⟨hN0 id hid,hstep.N id hid⟩
   I:=fun b hb=>.inl (hstep.I b hb)
   I':=by
    rintro b (hI|⟨id2,o2,k1,k2,k3,rfl⟩);·exact hstep.I' b hI
    ·exact .inr (hstep.own _ ⟨id2,o2,k2,k3,rfl⟩)
   size:=hstep.size
   os:=hstep.os
   tape:=hstep.tape
   output:=hstep.output
   frame:=hstep.frame
   own:=by rintro b ⟨id,o',h,he,hb⟩;obtain⟨_,_,o,h2,h3,h4,_⟩:=hH.obj id o' h;exact hstep.own b ⟨σ id,o,h2,by omega,hb⟩}
theorem ap9 (hs:St c H) (hstep:Step c0 H0 c H) (hN0: ∀i,c0.N i→i<nx) (hle:nx≤nh) (hfix: ∀i,i<nx→σ i=i) (hH:CvH H F σ nh H'):
 ∃I',(∀b,c.I b→I' b)∧(∀id o,F id→H id=some o→0<o.ext→I' (c.ρ id).1)∧St (c.conv nx nh σ I') H'∧Step c0 H0 (c.conv nx nh σ I') H':=
 ⟨c.frI H F,fun b h=>.inl h,fun id o h1 h2 h3=>.inr ⟨id,o,h1,h2,h3,rfl⟩,adN hs hstep hN0 hle hfix hH⟩
theorem Cv.sound (hcv:Cv nx e H nh e' H' F σ) (hs:St c H) (hstep:Step c0 H0 c H) (hN0: ∀i,c0.N i→i<nx) (he:ER c T e a):
 ∃c',c'.w=c.w∧St c' H'∧ER c' T e' a∧Step c0 H0 c' H'∧(∀i,c'.N i→c.N i∧i<nx∨(nx≤i∧i<nh)):=by
 obtain⟨I',h1,h2,h3,h4⟩:=ap9 hs hstep hN0 hcv.le hcv.fix hcv.heap
 refine⟨c.conv nx nh σ I',rfl,h3,⟨he.1,he.2.1,fun t=> ?_⟩,h4,?_⟩
 ·exact zD hs h1 h2 hcv.fix (hcv.env t) (he.2.2 t)
 ·rintro i (⟨h5,h6⟩|⟨h5,h6,_⟩);·exact .inl ⟨h6,h5⟩
  ·exact .inr ⟨h5,h6⟩
end
inductive AC where
 |skip
 |region (ops:List aY) (n:Nat) (live:List Nat)
 |seq (x y:AC)
 |cond (c:aT) (x y:AC)
 |block (id:Nat) (x:AC)
 |loop (x:AC)
 |exit (id:Nat)
 |ret
inductive AEx where
 |normal
 |exit (id:Nat)
 |ret
def AEx.of:AEx→Exit
 | .normal=>.normal
 | .exit id=>.exit id
 | .ret=>.ret
structure Cert where
 cert:List (Nat×List Nat×List Nat×Bool)
 live:List Nat
def Env.wT (e:Env):List Nat→Env
 | []=>Env.nil
 |t::ts=>(Env.wT e ts).set t (e t)
theorem Env.V3 (e:Env): ∀(l:List Nat) (t:Nat),e.wT l t=e t∨e.wT l t= .dead
 | [],t=>.inr rfl
 |x::l,t=>by
  simp only[Env.wT,Env.set];split;·rename_i h;subst h;exact .inl rfl
  ·exact Env.V3 e l t
theorem ER.wT {c:Cf} {T:Nat} {e:Env} {a:Act} (h:ER c T e a) (l:List Nat):ER c T (e.wT l) a:=by
 refine⟨h.1,h.2.1,fun t=> ?_⟩;rcases e.V3 l t with h1|h1;·rw[h1];exact h.2.2 t
 ·rw[h1];exact trivial
def asO (P:Program) (T:Nat) (ops:Array Oper) (draw:Bool) (L:List aY):Prop:=∃cert,SO P T ops draw cert=some L∧(draw=true→P.follows .mixedOrders=true)
inductive Cmp (P:Program) (T:Nat):Code→AC→Prop where
 |skip:Cmp P T .skip .skip
 |region (id:Nat) (ops:Array Oper) (draw:Bool) (L:List aY) (live:List Nat) (h:asO P T ops draw L):Cmp P T (.region id ops draw) (.region L ops.size live)
 |seq {x y:Code} {x' y':AC} (h1:Cmp P T x x') (h2:Cmp P T y y'):Cmp P T (.seq x y) (.seq x' y')
 |cond {c:Operand} {c':aT} {x y:Code} {x' y':AC} (h:trO c=some c') (h1:Cmp P T x x') (h2:Cmp P T y y'):Cmp P T (.cond c x y) (.cond c' x' y')
 |block {id:Nat} {x:Code} {x':AC} (h:Cmp P T x x'):Cmp P T (.block id x) (.block id x')
 |loop {x:Code} {x':AC} (h:Cmp P T x x'):Cmp P T (.loop x) (.loop x')
 |exit (id:Nat):Cmp P T (.exit id) (.exit id)
 |ret:Cmp P T .ret .ret
def compile (P:Program) (T:Nat):Code→List Cert→Option (AC×List Cert)
 | .skip,cs=>some (.skip,cs)
 | .region _ ops draw,ct::cs=>match SO P T ops draw ct.cert with
   |some L=>if !draw||P.follows .mixedOrders then some (.region L ops.size ct.live,cs) else none
   |none=>none
 | .seq x y,cs=>match compile P T x cs with
   |some (x',cs1)=>match compile P T y cs1 with
    |some (y',cs2)=>some (.seq x' y',cs2)
    |none=>none
   |none=>none
 | .cond c x y,cs=>match trO c,compile P T x cs with
   |some c',some (x',cs1)=>match compile P T y cs1 with
    |some (y',cs2)=>some (.cond c' x' y',cs2)
    |none=>none
   |_,_=>none
 | .block id x,cs=>match compile P T x cs with
   |some (x',cs1)=>some (.block id x',cs1)
   |none=>none
 | .loop x,cs=>match compile P T x cs with
   |some (x',cs1)=>some (.loop x',cs1)
   |none=>none
 | .exit id,cs=>some (.exit id,cs)
 | .ret,cs=>some (.ret,cs)
 |_,_=>none
theorem JA{P:Program}{T:Nat}: ∀(x:Code) (cs cs':List Cert) (x':AC),compile P T x cs=some (x',cs')→Cmp P T x x':=by
 intro x
 induction x with
 |skip=>intro cs cs' x' h;simp only[compile,Option.some.injEq,Prod.mk.injEq] at h;rw[←h.1];exact .skip
 |region id ops draw=>
  intro cs cs' x' h
  cases cs with
  |nil=>simp[compile] at h
  |cons ct cs=>
   simp only[compile] at h;split at h
   ·rename_i L hL;split at h;·rename_i hd;simp only[Option.some.injEq,Prod.mk.injEq] at h;rw[←h.1];refine .region id ops draw L ct.live ⟨_,hL,fun h=> ?_⟩;rw[h] at hd;simpa using hd
    ·simp at h
   ·simp at h
 |seq x y ihx ihy=>
  intro cs cs' x' h;simp only[compile] at h;split at h
  ·rename_i x1 cs1 h1;split at h;·rename_i y1 cs2 h2;simp only[Option.some.injEq,Prod.mk.injEq] at h;rw[←h.1];exact .seq (ihx _ _ _ h1) (ihy _ _ _ h2)
   ·simp at h
  ·simp at h
 |cond c x y ihx ihy=>
  intro cs cs' x' h;simp only[compile] at h;split at h
  ·rename_i c1 x1 cs1 h0 h1;split at h;·rename_i y1 cs2 h2;simp only[Option.some.injEq,Prod.mk.injEq] at h;rw[←h.1];exact .cond h0 (ihx _ _ _ h1) (ihy _ _ _ h2)
   ·simp at h
  ·simp at h
 |block id x ih=>
  intro cs cs' x' h;simp only[compile] at h;split at h;·rename_i x1 cs1 h1;simp only[Option.some.injEq,Prod.mk.injEq] at h;rw[←h.1];exact .block (ih _ _ _ h1)
  ·simp at h
 |loop x ih=>
  intro cs cs' x' h;simp only[compile] at h;split at h;·rename_i x1 cs1 h1;simp only[Option.some.injEq,Prod.mk.injEq] at h;rw[←h.1];exact .loop (ih _ _ _ h1)
  ·simp at h
 |exit id=>intro cs cs' x' h;simp only[compile,Option.some.injEq,Prod.mk.injEq] at h;rw[←h.1];exact .exit id
 |ret=>intro cs cs' x' h;simp only[compile,Option.some.injEq,Prod.mk.injEq] at h;rw[←h.1];exact .ret
 |_=>intro cs cs' x' h;simp[compile] at h
abbrev AQ:=AEx→Env→aA→Nat→Prop
structure atG (T:Nat) (c:Cf) (H:aA) (nx:Nat) (Q:AQ) (ex:Exit) (a:Act) (w:World) (aex:AEx) (e':Env) (H':aA) (nx':Nat) (c':Cf):Prop where
 ex:aex.of=ex
 w:c'.w=w
 st:St c' H'
 step:Step c H c' H'
 er:ER c' T e' a
 N: ∀i,c'.N i→c.N i∨(nx≤i∧i<nx')
 le:nx≤nx'
 q:Q aex e' H' nx'
def I1 (T:Nat) (c:Cf) (H:aA) (nx:Nat) (Q:AQ) (ex:Exit) (a:Act) (w:World):Prop:=∃aex e' H' nx' c',atG T c H nx Q ex a w aex e' H' nx' c'
def AWP (P:Program) (T:Nat) (x:AC) (e:Env) (H:aA) (nx:Nat) (Q:AQ):Prop:=∀code,Cmp P T code x→∀c a,St c H→ER c T e a→(∀i,c.N i→i<nx)→code.wp P (I1 T c H nx Q) a c.w
def AQ.then (K:Env→aA→Nat→Prop) (Q:AQ):AQ
 | .normal=>K
 |ex=>Q ex
def AQ.blk (id:Nat) (K:Env→aA→Nat→Prop) (Q:AQ):AQ
 | .normal=>K
 | .exit i=>if i=id then K else Q (.exit i)
 | .ret=>Q .ret
section
variable {P : Program} {T : Nat} {e : Env} {H : aA} {nx : Nat} {Q : AQ}
theorem I1.lift {c c1:Cf} {H1:aA} {nx1:Nat} {Q':AQ} {ex:Exit} {a:Act} {w:World} (hstep:Step c H c1 H1) (hN: ∀i,c1.N i→c.N i∨(nx≤i∧i<nx1)) (hle:nx≤nx1)
 (h:I1 T c1 H1 nx1 Q' ex a w) (hq: ∀aex e' H' nx',aex.of=ex→Q' aex e' H' nx'→Q aex e' H' nx'):I1 T c H nx Q ex a w:=by
 obtain⟨aex,e',H',nx',c',h⟩:=h
 refine⟨aex,e',H',nx',c',h.ex,h.w,h.st,hstep.trans h.step,h.er,fun i hi=> ?_,CQ hle h.le,hq _ _ _ _ h.ex h.q⟩
 rcases h.N i hi with h1|h1
 ·rcases hN i h1 with h2|h2;·exact .inl h2
  ·exact .inr ⟨h2.1,by have:=h.le;omega⟩
 ·exact .inr ⟨by omega,h1.2⟩
theorem I1.here {c:Cf} {a:Act} (hs:St c H) (he:ER c T e a) (aex:AEx) (h:Q aex e H nx):I1 T c H nx Q aex.of a c.w:=⟨aex,e,H,nx,c,rfl,rfl,hs,Step.refl c H,he,fun _ h=>.inl h,m5 _,h⟩
theorem AWP.mono {x:AC} {Q':AQ} (h:AWP P T x e H nx Q') (hq: ∀ex e H nx',nx≤nx'→Q' ex e H nx'→Q ex e H nx'):AWP P T x e H nx Q:=by intro code hc c a hs he hN;refine wp_mono (h code hc c a hs he hN) fun ex a' w' ⟨aex,e',H',nx',c',hp⟩=>⟨aex,e',H',nx',c',hp.ex,hp.w,hp.st,hp.step,hp.er,hp.N,hp.le,hq _ _ _ _ hp.le hp.q⟩
theorem AWP.skip (h:Q .normal e H nx):AWP P T .skip e H nx Q:=by intro code hc c a hs he hN;cases hc;exact wp_skip (I1.here hs he .normal h)
theorem AWP.exit {id:Nat} (h:Q (.exit id) e H nx):AWP P T (.exit id) e H nx Q:=by intro code hc c a hs he hN;cases hc;exact wp_exit (I1.here hs he (.exit id) h)
theorem AWP.ret (h:Q .ret e H nx):AWP P T .ret e H nx Q:=by intro code hc c a hs he hN;cases hc;exact wp_ret (I1.here hs he .ret h)
theorem AWP.seq {x y:AC} (h: ∀K:Env→aA→Nat→Prop,(∀e H nx',AWP P T y e H nx' Q→K e H nx')→AWP P T x e H nx (AQ.then K Q)):AWP P T (.seq x y) e H nx Q:=by
 intro code hc c a hs he hN
 cases hc with
 |seq h1 h2=>
  refine wp_seq (wp_mono (h _ (fun _ _ _ h=>h) _ h1 c a hs he hN) fun ex a' w' ⟨aex,e',H',nx',c',hp⟩=> ?_);obtain⟨rfl,rfl,p1,p2,p3,p4,p5,p6⟩:=hp
  cases aex with
  |normal=>
   simp only[AQ.then] at p6;refine wp_mono (p6 _ h2 c' a' p1 p3 fun i hi=> ?_) fun ex a'' w'' hq=>hq.lift p2 p4 p5 fun _ _ _ _ _ h=>h;rcases p4 i hi with h|h;·have:=hN i h;omega
   ·exact h.2
  |exit id=>exact⟨.exit id,e',H',nx',c',rfl,rfl,p1,p2,p3,p4,p5,p6⟩
  |ret=>exact⟨.ret,e',H',nx',c',rfl,rfl,p1,p2,p3,p4,p5,p6⟩
theorem AWP.cond {c:aT} {x y:AC} (t:Bool) (hc:c.ev e= .one (.c (.v (.bool t)))) (h1:t=true→AWP P T x e H nx Q) (h2:t=false→AWP P T y e H nx Q):AWP P T (.cond c x y) e H nx Q:=by
 intro code hcm cf a hs he hN
 cases hcm with
 |cond h3 h4 h5=>
  have hv:=lP he h3;rw[hc] at hv;have hv:=x6 (c:=cf) hv
  cases t with
  |true=>exact wp_cond_true hv (h1 rfl _ h4 cf a hs he hN)
  |false=>exact wp_cond_false hv (h2 rfl _ h5 cf a hs he hN)
theorem AWP.block {id:Nat} {x:AC} (h: ∀K:Env→aA→Nat→Prop,(∀e H nx',Q .normal e H nx'→K e H nx')→AWP P T x e H nx (AQ.blk id K Q)):AWP P T (.block id x) e H nx Q:=by
 intro code hc c a hs he hN
 cases hc with
 |block h1=>
  refine wp_block (wp_mono (h _ (fun _ _ _ h=>h) _ h1 c a hs he hN) fun ex a' w' ⟨aex,e',H',nx',c',hp⟩=> ?_);obtain⟨rfl,rfl,p1,p2,p3,p4,p5,p6⟩:=hp
  cases aex with
  |normal=>exact⟨.normal,e',H',nx',c',rfl,rfl,p1,p2,p3,p4,p5,p6⟩
  |exit i=>
   simp only[AQ.blk] at p6;simp only[AEx.of,Exit.inBlock];split;·rename_i hi;rw[if_pos hi] at p6;exact⟨.normal,e',H',nx',c',rfl,rfl,p1,p2,p3,p4,p5,p6⟩
   ·rename_i hi;rw[if_neg hi] at p6;exact⟨.exit i,e',H',nx',c',rfl,rfl,p1,p2,p3,p4,p5,p6⟩
  |ret=>exact⟨.ret,e',H',nx',c',rfl,rfl,p1,p2,p3,p4,p5,p6⟩
theorem AWP.conv {x:AC} {nh:Nat} {e':Env} {H':aA} {F:Nat→Prop} {σ:Nat→Nat} {n0:Nat} (hn:n0≤nx) (hx:nx=n0∨True) (hcv:Cv nx e H nh e' H' F σ) (h:AWP P T x e' H' nh Q):AWP P T x e H nx Q:=by
 intro code hc c a hs he hN;obtain⟨c',hw,h1,h2,h3,h4⟩:=hcv.sound hs (Step.refl c H) hN he
 have:=h code hc c' a h1 h2 fun i hi=>by
  rcases h4 i hi with h5|h5;·have:=hcv.le;omega
  ·exact h5.2
 rw[hw] at this;exact wp_mono this fun ex a' w' hq=>hq.lift h3 (fun i hi=>(h4 i hi).imp (fun h=>h.1) fun h=>h) hcv.le fun _ _ _ _ _ h=>h
theorem AWP.EJ {x:AC} (n:Nat) (h:AWP P T x e (H.set nx ⟨n,0,[]⟩) (nx+1) Q):AWP P T x e H nx Q:=by
 intro code hc c a hs he hN;have hnx: ¬c.N nx:=fun hn=>br6 _ (hN nx hn);obtain⟨h1,h2⟩:=NX hs (n:=n) hnx
 have h3:=h code hc (c.named nx 0 0 c.w) a h1 ⟨he.1,he.2.1,fun t=>(he.2.2 t).step h2 hs⟩ fun i hi=>by
  rcases hi with rfl|hi;·exact Nat.lt_succ_self _
  ·exact Nat.lt_succ_of_lt (hN i hi)
 refine wp_mono h3 fun ex a' w' hq=>hq.lift h2 (fun i hi=> ?_) (Nat.le_succ _) fun _ _ _ _ _ h=>h;rcases hi with rfl|hi;·exact .inr ⟨m5 _,Nat.lt_succ_self _⟩
 ·exact .inl hi
theorem AWP.loop {x:AC} {α:Type} (E:α→Env) (G:α→aA) (nh:Nat) (μ:α→Nat) (x0:α) (h0: ∃F σ,Cv nx e H nh (E x0) (G x0) F σ)
 (h: ∀u,∀K:Env→aA→Nat→Prop,(∀e' H' nx' u',nh≤nx'→μ u'<μ u→(∃F σ,Cv nx e' H' nh (E u') (G u') F σ)→K e' H' nx')→AWP P T x (E u) (G u) nh (AQ.then K Q)):AWP P T (.loop x) e H nx Q:=by
 intro code hc c a hs he hN
 cases hc with
 |loop h1=>
  obtain⟨F,σ,h0⟩:=h0;obtain⟨c0,k1,k2,k3,k4,k5⟩:=h0.sound hs (Step.refl c H) hN he;have hle:=h0.le;refine wp_loop_ghost (fun n a w=>∃u c1,μ u=n∧c1.w=w∧St c1 (G u)∧ER c1 T (E u) a∧Step c H c1 (G u)∧(∀i,c1.N i→c.N i∧i<nx∨(nx≤i∧i<nh))) (μ x0) ⟨x0,c0,rfl,k1,k2,k3,k4,k5⟩ ?_;rintro n a w ⟨u,c1,rfl,rfl,j1,j2,j3,j4⟩;refine wp_mono (h u (fun e' H' nx'=>∃u',μ u'<μ u∧ ∃F σ,Cv nx e' H' nh (E u') (G u') F σ) (fun _ _ _ u' _ h2 h3=>⟨u',h2,h3⟩) _ h1 c1 a j1 j2 fun i hi=> ?_) fun ex a' w' ⟨aex,e',H',nx',c',hp⟩=> ?_;·rcases j4 i hi with h|h<;>omega
  ·obtain⟨rfl,rfl,p1,p2,p3,p4,p5,p6⟩:=hp
   have hNc: ∀i,c'.N i→c.N i∨(nx≤i∧i<nx'):=by
    intro i hi;rcases p4 i hi with h|h
    ·rcases j4 i h with h|h;·exact .inl h.1
     ·exact .inr ⟨h.1,by omega⟩
    ·exact .inr ⟨by omega,h.2⟩
   cases aex with
   |normal=>
    obtain⟨u',q2,F',σ',q3⟩:=p6;obtain⟨c2,r1,r2,r3,r4,r5⟩:=q3.sound p1 (j3.trans p2) hN p3;refine⟨μ u',q2,u',c2,rfl,r1,r2,r3,r4,fun i hi=> ?_⟩;rcases r5 i hi with h|h
    ·rcases hNc i h.1 with h2|h2;·exact .inl ⟨h2,h.2⟩
     ·omega
    ·exact .inr h
   |exit id=>exact⟨.exit id,e',H',nx',c',rfl,rfl,p1,j3.trans p2,p3,hNc,by omega,p6⟩
   |ret=>exact⟨.ret,e',H',nx',c',rfl,rfl,p1,j3.trans p2,p3,hNc,by omega,p6⟩
theorem AWP.region {ops:List aY} {n:Nat} {live:List Nat} (h:avc P nx (fun e' H' nx'=>Q .normal (e'.wT live) H' nx') ops e H (nx+n) []):AWP P T (.region ops n live) e H nx Q:=by
 intro code hc c a hs he hN
 cases hc with
 |region id rops draw L live hreg=>
  obtain⟨cert,hm,hfol⟩:=hreg;unfold SO at hm;split at hm;case h_2=>simp at hm
  rename_i L' hL';have hlast: ∀c2 e2 H2 nx2 az2,RS T nx rops.size c H [] c2 e2 H2 nx2 az2→Q .normal (e2.wT live) H2 nx2→I1 T c H nx Q .normal az2 c2.w:=by intro c2 e2 H2 nx2 az2 hr hq;exact⟨.normal,_,H2,nx2,c2,rfl,rfl,hr.st,hr.step,hr.er.wT live,fun i hi=>(hr.N i hi).imp (fun h=>h) fun h=>⟨h.1,h.2.1⟩,by have:=hr.nx;omega,hq⟩
  obtain⟨hix,htr⟩:=LK hL';have hrs0: ∀(L:List aY) (c1:Cf),c1.N=c.N→St c1 H→ER c1 T e a→Step c H c1 H→RS T nx rops.size c H L c1 e H (nx+rops.size) a:=fun L c1 hN1 h1 h2 h3=>⟨h1,h2,h3,fun i hi=>.inl (by rw[hN1] at hi;exact hi),m5 _⟩
  cases draw with
  |false=>
   simp only[CC,if_false,Option.some.injEq] at hm;subst hm;apply wp_region
   have hr:List.range rops.size=L'.map (·.ix):=by
    rw[hix];simp only[CC,if_false,WD,List.map_map];conv=>lhs;rw[←brT (List.range rops.size)]
    rfl
   rw[hr];exact VY hN hlast L' c e H _ a [] (fun o ho=>(htr o ho).1) (by rw[←hr];exact List.nodup_range) (hrs0 _ c rfl hs he (Step.refl c H)) h
  |true=>
   simp only[if_true] at hm;split at hm
   ·rename_i hok;simp only[Option.some.injEq] at hm;subst hm;simp only[ap7,q7,beq_iff_eq,w2] at hok;refine wp_region_any (hfol rfl) ?_;have hd:({c.w with drawn:=c.w.drawn+1}:World)=(c.drew (c.w.drawn+1)).w:=rfl;rw[hd];have hpw:=IL hok.2
    have hinj: ∀i,i<rops.size→∃o∈L',o.ix=i:=by
     have hnd:(L'.map (·.ix)).Nodup:=(by rw[List.nodup_iff_pairwise_ne,brY];exact hpw.imp fun {x y} hxy=>by simp only[AG,q7,bne_iff_ne] at hxy;exact hxy.1.1.1);have hsub:(L'.map (·.ix)) ⊆ List.range rops.size:=(by intro i hi;obtain⟨o,ho,rfl⟩:=CF.1 hi;exact C2.2 (htr o ho).1.ix);intro i hi;by_cases hin:i∈L'.map (·.ix);·obtain⟨o,ho,hoi⟩:=CF.1 hin;exact⟨o,ho,hoi⟩
     ·have hlen:=List.Nodup.length_le_of_subset (bq8.2 ⟨hin,hnd⟩) (List.cons_subset.2 ⟨C2.2 hi,hsub⟩);simp[hok.1.1] at hlen;omega
    refine aiF hN hlast rops.size L' _ (c.drew (c.w.drawn+1)) e H _ a [] (by simp[hok.1.1]) (fun o ho=>⟨(htr o ho).1,(htr o ho).2,hok.1.2 o ho⟩) hpw ?_ ?_ ?_ h
    ·refine⟨by simp,fun i hi=> ?_,?_⟩;·simp[hi];exact hinj i hi
     ·intro i ro ed h1;by_cases hlt:i<rops.size;·simp[hlt] at h1
      ·simp[hlt] at h1
    ·refine hrs0 _ _ rfl (hs.drew _) ⟨he.1,he.2.1,fun t=>(he.2.2 t).step (Step.drew c H _) hs⟩ (Step.drew c H _)
    ·intro l hl hk p hp;simp at hp
   ·simp at hm
end
inductive aW where
 |tm (t:Nat)
 |cell (a n:Nat) (g:Bool)
def afC (P:Program):ResultVar→Option aW
 | .tmp t=>some (.tm t)
 | .cell a t=>(layout P t).map fun p=>.cell a p.1 p.2
def AJ (P:Program):List ResultVar→Option (List aW)
 | []=>some []
 |r::rs=>match afC P r,AJ P rs with
  |some x,some l=>some (x::l)
  |_,_=>none
def VP (H:aA) (e:Env):aW→Option D
 | .tm t=>some (e t)
 | .cell a n g=>match e a with
   | .one (.c d)=>(tT H d n).bind (mkV g)
   |_=>none
def as1:D→D→Option D
 | .one x,.one y=>some (.tup [x,y])
 |_,_=>none
def asI:D→D→D→Option D
 | .one x,.one y,.one z=>some (.tup [x,y,z])
 |_,_,_=>none
def yT (H:aA) (e:Env):List aW→Option D
 | []=>some (.tup [])
 | [r]=>VP H e r
 | [r,s]=>match VP H e r,VP H e s with
   |some x,some y=>as1 x y
   |_,_=>none
 | [r,s,t]=>match VP H e r,VP H e s,VP H e t with
   |some x,some y,some z=>asI x y z
   |_,_,_=>none
 |_=>none
def Env.args:Nat→List D→Env
 |_,[]=>.nil
 |k,d::ds=>(Env.args (k+1) ds).set k d
section
variable {P : Program} {c : Cf} {H : aA} {T : Nat} {e : Env} {a : Act}
theorem Env.ML: ∀(ds:List D) (k t:Nat),Env.args k ds t=if k≤t then (ds[t-k]?).getD .dead else .dead
 | [],k,t=>by simp[Env.args,Env.nil]
 |d::ds,k,t=>by
  simp only[Env.args,Env.set,Env.ML ds];by_cases h1:t=k;·subst h1;simp
  ·by_cases h2:k≤t;·have h3:k+1≤t:=(by omega);have h4:t-k=(t-(k+1))+1:=(by omega);simp[h1,h2,h3,h4]
   ·have h3: ¬k+1≤t:=(by omega);simp[h1,h2,h3]
def X7 (tmps:Array Value):ResultVar→Sem Value
 | .tmp t=>pure (tmps.getD t undef)
 | .cell a t=>do loadVar t (←asAddr (tmps.getD a undef))
theorem BN (hs:St c H) (he:ER c T e a) {r:ResultVar} {x:aW} {d:D} (ht:afC P r=some x) (h:VP H e x=some d): ∃v,(X7 a.tmps r).run P c.w= .ok v c.w∧fD c d v:=by
 cases r with
 |tmp t=>simp only[afC,Option.some.injEq] at ht;subst ht;simp only[VP,Option.some.injEq] at h;subst h;exact⟨_,by simp[X7],he.2.2 t⟩
 |cell p t=>
  simp only[afC,m4] at ht;obtain⟨⟨n,g⟩,hl,rfl⟩:=ht;simp only[VP] at h;split at h;·rename_i d1 hv;simp only[KM] at h;obtain⟨cs,h1,h2⟩:=h;have hx:=he.2.2 p;rw[hv] at hx;obtain⟨b,o,hp,_⟩:=IU hs h1 hx;obtain⟨v,hr,hd⟩:=abH hs hl h1 h2 hx;refine⟨v,?_,hd⟩;rw[hp] at hr;simp only[X7,hp];simpa [Instr.loadAt,Instr.sureAddr,asAddr] using hr
  ·simp at h
theorem ab9 (fn:Func) (tmps:Array Value):results fn tmps=(do let vs ←fn.results.mapM (X7 tmps);pure (if h:vs.size=1 then vs[0] else .tuple vs)):=by unfold results;congr 1
theorem aa3 (hs:St c H) (he:ER c T e a) {fn:Func} {rs:List aW} {d:D} (ht:AJ P fn.results.toList=some rs) (h:yT H e rs=some d): ∃v,(results fn a.tmps).run P c.w= .ok v c.w∧fD c d v:=by
 rw[ab9];generalize hl:fn.results.toList=l at ht;have hres:fn.results=l.toArray:=by rw[←hl]
 rw[hres]
 match l,ht with
 | [],ht=>simp only[AJ,Option.some.injEq] at ht;subst ht;simp only[yT,Option.some.injEq] at h;subst h;exact⟨.tuple #[],by simp,⟨[],rfl,rfl,by simp⟩⟩
 | [r],ht=>
   simp only[AJ] at ht;split at ht;·rename_i x l1 h1 h2;simp only[Option.some.injEq] at h2 ht;subst h2;subst ht;simp only[yT] at h;obtain⟨v,hv,hd⟩:=BN hs he h1 h;exact⟨v,by simp[hv],hd⟩
   ·simp at ht
 | [r,s],ht=>
   simp only[AJ] at ht;split at ht
   ·rename_i x l1 h1 h2;split at h2
    ·rename_i y l2 h3 h4;simp only[Option.some.injEq] at h4 h2 ht;subst h4;subst h2;subst ht;simp only[yT] at h;split at h
     ·rename_i dx dy hx hy;obtain⟨v,hv,hd⟩:=BN hs he h1 hx;obtain⟨u,hu,hd2⟩:=BN hs he h3 hy;cases dx<;>cases dy<;>simp only[as1,Option.some.injEq] at h<;>first|cases h;done|skip
      subst h;refine⟨.tuple #[v,u],by simp[hv,hu],⟨[v,u],rfl,rfl,fun i d1 v1 k1 k2=> ?_⟩⟩
      match i with
      |0=>simp at k1 k2;subst k1;subst k2;exact hd
      |1=>simp at k1 k2;subst k1;subst k2;exact hd2
      |i+2=>simp at k1
     ·simp at h
    ·simp at h2
   ·simp at ht
 | [r,s,t],ht=>
   simp only[AJ] at ht;split at ht
   ·rename_i x l1 h1 h2;split at h2
    ·rename_i y l2 h3 h4;split at h4
     ·rename_i z l3 h5 h6;simp only[Option.some.injEq] at h6 h4 h2 ht;subst h6;subst h4;subst h2;subst ht;simp only[yT] at h;split at h
      ·rename_i dx dy dz hx hy hz;obtain⟨v,hv,hd⟩:=BN hs he h1 hx;obtain⟨u,hu,hd2⟩:=BN hs he h3 hy;obtain⟨q,hq,hd3⟩:=BN hs he h5 hz;cases dx<;>cases dy<;>cases dz<;>simp only[asI,Option.some.injEq] at h<;>first|cases h;done|skip
       subst h;refine⟨.tuple #[v,u,q],by simp[hv,hu,hq],⟨[v,u,q],rfl,rfl,fun i d1 v1 k1 k2=> ?_⟩⟩
       match i with
       |0=>simp at k1 k2;subst k1;subst k2;exact hd
       |1=>simp at k1 k2;subst k1;subst k2;exact hd2
       |2=>simp at k1 k2;subst k1;subst k2;exact hd3
       |i+3=>simp at k1
      ·simp at h
     ·simp at h4
    ·simp at h2
   ·simp at ht
 |_::_::_::_::_,ht=>
  simp only[AJ] at ht;split at ht
  ·rename_i x l1 h1 h2;split at h2
   ·rename_i y l2 h3 h4;split at h4
    ·rename_i z l3 h5 h6;split at h6;·simp only[Option.some.injEq] at h6 h4 h2 ht;subst h6;subst h4;subst h2;subst ht;simp[yT] at h
     ·simp at h6
    ·simp at h4
   ·simp at h2
  ·simp at ht
structure CvR (nx:Nat) (d:D) (H:aA) (nh:Nat) (d':D) (H':aA) (F:Nat→Prop) (σ:Nat→Nat):Prop where
 le:nx≤nh
 fix: ∀i,i<nx→σ i=i
 d:CvD H F σ nh d' d
 heap:CvH H F σ nh H'
theorem aB.of {f:FuncId} {fn:Func} {code:Code} {ac:AC} {rs:List aW} {cs cs':List Cert} {args:List D} {nx:Nat} {K:D→aA→Nat→Prop}
 (hok:qY P f=true) (hf:P.funcs[f]?=some fn) (hb:fn.body=some code) (hc:compile P fn.ntmps code cs=some (ac,cs')) (hr:AJ P fn.results.toList=some rs) (hl:args.length≤fn.ntmps)
 (h: ∀Q:AQ,(∀ex e' H' nx' d nh d' H'' F σ,ex= .normal∨ex= .ret→yT H' e' rs=some d→CvR nx d H' nh d' H'' F σ→K d' H'' nh→Q ex e' H' nx')→AWP P fn.ntmps ac (Env.args 0 args) H nx Q):aB P f args H nx K:=by
 refine⟨hok,fun c vs hs hN hlen hrel=> ?_⟩
 apply calls_of_wp hf hb
 have hcm:=JA _ _ _ _ hc
 have her:ER c fn.ntmps (Env.args 0 args) {tmps:=vs.toArray++Array.replicate (fn.ntmps-vs.toArray.size) undef,defers:=[]}:=by
  refine⟨by simp;omega,rfl,fun t=> ?_⟩;rw[Env.ML];simp only[Nat.zero_le,if_true,Nat.sub_zero]
  cases hd:args[t]? with
  |none=>exact trivial
  |some d=>have ht:t<vs.length:=(by rw[hlen];exact(m3.1 hd).1);have hv:(vs.toArray++Array.replicate (fn.ntmps-vs.toArray.size) undef).getD t undef=vs[t]:=(by rw[boK,Y6];simp[ht]);rw[hv];exact hrel t d _ hd (n1 ht)
 refine wp_mono (h _ (fun ex e' H' nx' d nh d' H'' F σ h1 h2 h3 h4=>(⟨h1,d,nh,d',H'',F,σ,h2,h3,h4⟩:(ex= .normal∨ex= .ret)∧ ∃d nh d' H'' F σ,yT H' e' rs=some d∧CvR nx d H' nh d' H'' F σ∧K d' H'' nh)) code hcm c _ hs her hN) ?_
 rintro ex a w ⟨aex,e',H',nx',c',rfl,rfl,p1,p2,p3,p4,p5,p6,d,nh,d',H'',F,σ,q1,q2,q3⟩
 obtain⟨v,hv,hd⟩:=aa3 p1 p3 hr q1
 obtain⟨I',k1,k2,k3,k4⟩:=ap9 p1 p2 hN q2.le q2.fix q2.heap
 have hfin:a.defers=[]∧ ∃v,(results fn a.tmps).run P c'.w= .ok v c'.w∧ ∃v' c'' r H'' nx',Ending.returned v= .returned v'∧c''.w=c'.w∧St c'' H''∧Step c H c'' H''∧(∀i,c''.N i→c.N i∨(nx≤i∧i<nx'))∧nx≤nx'∧fD c'' r v'∧K r H'' nx':=by
  refine⟨p3.2.1,v,hv,v,c'.conv nx nh σ I',d',H'',nh,rfl,rfl,k3,k4,?_,q2.le,zD p1 k1 k2 q2.fix q2.d hd,q3⟩;rintro i (⟨h5,h6⟩|⟨h5,h6,_⟩)
  ·rcases p4 i h6 with h|h;·exact .inl h
   ·omega
  ·exact .inr ⟨h5,h6⟩
 rcases p6 with rfl|rfl
 ·exact hfin
 ·exact hfin
def aO (P:Program) (fn:Func) (cs:List Cert):Option (AC×List aW):=
 match fn.body with
 |some b=>match compile P fn.ntmps b cs,AJ P fn.results.toList with
  |some (ac,_),some rs=>some (ac,rs)
  |_,_=>none
 |none=>none
theorem aB.enter {f:FuncId} {fn:Func} {ac:AC} {rs:List aW} {cs:List Cert} {args:List D} {nx:Nat} {K:D→aA→Nat→Prop}
 (hf:P.funcs[f]?=some fn) (hok:qY P f=true) (hc:aO P fn cs=some (ac,rs)) (hl:args.length≤fn.ntmps)
 (h: ∀Q:AQ,(∀ex e' H' nx' d nh d' H'' F σ,ex= .normal∨ex= .ret→yT H' e' rs=some d→CvR nx d H' nh d' H'' F σ→K d' H'' nh→Q ex e' H' nx')→AWP P fn.ntmps ac (Env.args 0 args) H nx Q):aB P f args H nx K:=by
 unfold aO at hc
 split at hc
 ·rename_i b hb;split at hc;·rename_i ac' cs' rs' h1 h2;simp only[Option.some.injEq,Prod.mk.injEq] at hc;obtain⟨rfl,rfl⟩:=hc;exact aB.of hok hf hb h1 h2 hl h
  ·simp at hc
 ·simp at hc
end
def rn0 (τ:Nat→Nat):D1→D1
 | .osl n id off len cap=>.osl n (τ id) off len cap
 | .ptr n id row col=>.ptr n (τ id) row col
 | .omap id=>.omap (τ id)
 |d=>d
def rn1 (τ:Nat→Nat):D1→D1
 | .clo f caps=>.clo f (caps.map (rn0 τ))
 |d=>rn0 τ d
def rnV (τ:Nat→Nat):DV→DV
 | .c d=>.c (rn1 τ d)
 | .agg cs=>.agg (cs.map (rn1 τ))
def rnD (τ:Nat→Nat):D→D
 | .one x=>.one (rnV τ x)
 | .tup xs=>.tup (xs.map (rnV τ))
 | .dead=>.dead
def bA.rn (τ:Nat→Nat) (o:bA):bA:=⟨o.n,o.ext,o.rows.map (·.map (rn1 τ))⟩
def aA.upd (H:aA) (id:Nat) (o:Option bA):aA:=fun i=>if i=id then o else H i
theorem aA.eL (H:aA) (id:Nat) (o:bA):H.upd id (some o)=H.set id o:=rfl
theorem aA.yI (H:aA) (id:Nat):H.upd id none=H.del id:=rfl
def tau (n0 nx:Nat) (τ:Nat→Nat) (i:Nat):Nat:=if i<n0 then τ i else nx+(i-n0)
def back (τ:Nat→Nat) (H0:aA):Nat→aA→aA
 |0,H=>H
 |k+1,H=>(back τ H0 k H).upd (τ k) ((H0 k).map (bA.rn τ))
section
variable {P : Program} {c c1 c2 : Cf} {H H0 H1 : aA} {τ : Nat → Nat}
theorem WM (τ:Nat→Nat) (H0 H:aA): ∀(k j:Nat),(∀a b,a<k→b<k→τ a=τ b→a=b)→
 (∃i,i<k∧τ i=j∧back τ H0 k H j=(H0 i).map (bA.rn τ))∨((∀i,i<k→τ i≠j)∧back τ H0 k H j=H j)
 |0,j,_=>.inr ⟨fun i hi=>by omega,rfl⟩
 |k+1,j,hinj=>by
  by_cases hj:τ k=j;·exact .inl ⟨k,by omega,hj,by simp[back,aA.upd,hj]⟩
  ·have hb:back τ H0 (k+1) H j=back τ H0 k H j:=(by simp only[back,aA.upd];rw[if_neg (Ne.symm hj)]);rw[hb];rcases WM τ H0 H k j (fun a b ha hb=>hinj a b (by omega) (by omega)) with⟨i,h1,h2,h3⟩|⟨h1,h2⟩
   ·exact .inl ⟨i,by omega,h2,h3⟩
   ·refine .inr ⟨fun i hi=> ?_,h2⟩;by_cases hik:i=k;·subst hik;exact hj
    ·exact h1 i (by omega)
variable{c':Cf}{x:Value}
theorem afH{c:Cf} (hN: ∀i,c.N i→c'.N (τ i)) (hρ: ∀i,c.N i→c'.ρ (τ i)=c.ρ i) (hI:c'.I=c.I) (hw:c'.w=c.w){d:D1} (h:bY c d x):bY c' (rn0 τ d) x:=by
 cases d<;>simp only[bY,rn0] at h ⊢ <;>first| (rw[hI,hw];exact h)|exact h|skip
 ·refine⟨h.1,h.2.imp (fun h=>h) fun⟨h0,h1,h2⟩=>⟨h0,hN _ h1,by rw[hρ _ h1];exact h2⟩⟩
 ·exact⟨hN _ h.1,by rw[hρ _ h.1];exact h.2⟩
 ·exact⟨hN _ h.1,by rw[hρ _ h.1];exact h.2⟩
theorem XS{c:Cf} (hN: ∀i,c.N i→c'.N (τ i)) (hρ: ∀i,c.N i→c'.ρ (τ i)=c.ρ i) (hI:c'.I=c.I) (hw:c'.w=c.w){d:D1} (h:Rel c d x):Rel c' (rn1 τ d) x:=by
 cases d with
 |clo f caps=>obtain⟨vs,hx,hl,hf⟩:=h;refine⟨vs,hx,by simp[hl],fun i d u h1 h2=> ?_⟩;simp only[p0,m4] at h1;obtain⟨d0,h1,rfl⟩:=h1;exact afH hN hρ hI hw (hf i d0 u h1 h2)
 |_=>simp only[Rel,rn1,rn0] at h ⊢;exact afH hN hρ hI hw h
theorem apJ{c:Cf} (hN: ∀i,c.N i→c'.N (τ i)) (hρ: ∀i,c.N i→c'.ρ (τ i)=c.ρ i) (hI:c'.I=c.I) (hw:c'.w=c.w){ds:List D1}{xs:List Value} (h:rU c ds xs):rU c' (ds.map (rn1 τ)) xs:=by refine⟨by simp[h.1],fun i d u h1 h2=> ?_⟩;simp only[p0,m4] at h1;obtain⟨d0,h1,rfl⟩:=h1;exact XS hN hρ hI hw (h.2 i d0 u h1 h2)
theorem afI{c:Cf} (hN: ∀i,c.N i→c'.N (τ i)) (hρ: ∀i,c.N i→c'.ρ (τ i)=c.ρ i) (hI:c'.I=c.I) (hw:c'.w=c.w){d:DV} (h:jZ c d x):jZ c' (rnV τ d) x:=by
 cases d with
 |c d=>exact XS hN hρ hI hw h
 |agg cs=>obtain⟨vs,hx,hl⟩:=h;exact⟨vs,hx,apJ hN hρ hI hw hl⟩
theorem ao2{c:Cf} (hN: ∀i,c.N i→c'.N (τ i)) (hρ: ∀i,c.N i→c'.ρ (τ i)=c.ρ i) (hI:c'.I=c.I) (hw:c'.w=c.w){d:D} (h:fD c d x):fD c' (rnD τ d) x:=by
 cases d with
 |one d=>exact afI hN hρ hI hw h
 |dead=>trivial
 |tup ds=>obtain⟨vs,hx,hl,hf⟩:=h;refine⟨vs,hx,by simp[hl],fun i d u h1 h2=> ?_⟩;simp only[p0,m4] at h1;obtain⟨d0,h1,rfl⟩:=h1;exact afI hN hρ hI hw (hf i d0 u h1 h2)
theorem aB.lift{f:FuncId}{args0 args:List D}{n0 nx:Nat}{K0 K:D→aA→Nat→Prop} (h:aB P f args0 H0 n0 K0) (τ:Nat→Nat) (hlen:args.length=args0.length)
 (hargs: ∀(i:Nat) (d0 d:D),args0[i]?=some d0→args[i]?=some d→CvD H (fun _=>False) τ n0 d0 d) (hH:CvH H (fun _=>False) τ n0 H0) (hτ: ∀i,i<n0→τ i<nx) (hinj: ∀i j,i<n0→j<n0→τ i=τ j→i=j)
 (hK: ∀r H' n',n0≤n'→K0 r H' n'→K (rnD (tau n0 nx τ) r) (back (tau n0 nx τ) H' n' H) (nx+(n'-n0))):aB P f args H nx K:=by
 refine⟨h.1,fun c vs hs hN hl hr=> ?_⟩
 have hst0:Step {c with N:=fun _=>False} H c H:={
  ρ:=fun id h=>h.elim
  N:=fun id h=>h.elim
  I:=fun b h=>h
  I':=fun b h=>.inl h
  size:=m5 _
  os:=rfl
  tape:=rfl
  output:=rfl
  frame:=fun _ _ _=>rfl
  own:=fun b h=>.inl h}
 have hs1:=(adN (nx:=0) hs hst0 (fun _ h=>h.elim) (Nat.zero_le n0) (fun i hi=>by omega) hH).1
 have hfr:c.frI H (fun _=>False)=c.I:=by funext b;simp only[Cf.frI,false_and,exists_false,or_false]
 rw[hfr] at hs1
 obtain⟨c1,hc1⟩: ∃c1,c1=c.conv 0 n0 τ c.I:=⟨_,rfl⟩
 rw[←hc1] at hs1
 have e1:c1.w=c.w:=by rw[hc1];rfl
 have e2:c1.I=c.I:=by rw[hc1];rfl
 have e3: ∀i,c1.ρ i=c.ρ (τ i):=fun i=>by rw[hc1];rfl
 have e4: ∀i,c1.N i→i<n0∧c.N (τ i):=fun i hi=>by rw[hc1] at hi;exact hi.elim (fun h=>absurd h.1 (bq2 i)) fun h=>⟨h.2.1,h.2.2⟩
 have hown1: ∀b,uG c1 H0 b→uG c H b:=by rintro b ⟨id,o,k1,k2,rfl⟩;obtain⟨h1,_,o',h2,h3,h4,_⟩:=hH.obj id o k1;exact⟨τ id,o',h2,by omega,(congrArg Prod.fst (e3 id)).symm⟩
 have hcall:=h.2 c1 vs hs1 (fun i hi=>(e4 i hi).1) (by rw[hl,hlen]) (fun i d0 v h1 h2=>by
  have hi:i<args.length:=by rw[hlen];exact(m3.1 h1).1
  have:=zD (nx:=0) hs (I':=c.I) (fun b h=>h) (fun id o h=>h.elim) (fun i hi=>by omega) (hargs i d0 _ h1 (n1 hi)) (hr i _ v (n1 hi) h2)
  rw[hc1];exact this)
 rw[e1] at hcall
 apply hcall.mono
 rintro x w' ⟨v,c2,r,H2,n2,rfl,rfl,p1,p2,p3,p4,p5,p6⟩
 obtain⟨t,ht⟩: ∃t,t=tau n0 nx τ:=⟨_,rfl⟩
 have ht0: ∀i,i<n0→t i=τ i:=fun i hi=>by rw[ht];simp only[tau];rw[if_pos hi]
 have ht1: ∀i,n0≤i→t i=nx+(i-n0):=fun i hi=>by rw[ht];simp only[tau];rw[if_neg (by omega)]
 have hN2: ∀i,c2.N i→i<n2:=fun i hi=>by
  rcases p3 i hi with h|h;·have:=(e4 i h).1;omega
  ·exact h.2
 have htinj: ∀a b,a<n2→b<n2→t a=t b→a=b:=by
  intro a b _ _ hab;by_cases ha:a<n0<;>by_cases hb:b<n0;·rw[ht0 a ha,ht0 b hb] at hab;exact hinj a b ha hb hab
  ·rw[ht0 a ha,ht1 b (by omega)] at hab;have:=hτ a ha;omega
  ·rw[ht1 a (by omega),ht0 b hb] at hab;have:=hτ b hb;omega
  ·rw[ht1 a (by omega),ht1 b (by omega)] at hab;omega
 obtain⟨c3,hc3⟩: ∃c3:Cf,c3= {ρ:=fun j=>if j<nx then c.ρ j else c2.ρ (n0+(j-nx)),N:=fun j=>c.N j∨(nx≤j∧c2.N (n0+(j-nx))),I:=c2.I,w:=c2.w}:=⟨_,rfl⟩
 have q1:c3.w=c2.w:=by rw[hc3]
 have q2:c3.I=c2.I:=by rw[hc3]
 have q3: ∀j,j<nx→c3.ρ j=c.ρ j:=fun j hj=>by rw[hc3];simp only;rw[if_pos hj]
 have q4: ∀j,c3.N j↔c.N j∨(nx≤j∧c2.N (n0+(j-nx))):=fun j=>by rw[hc3]
 have q5: ∀i,c2.N i→c3.N (t i):=by
  intro i hi;rw[q4];rcases p3 i hi with h|h;·rw[ht0 i (e4 i h).1];exact .inl (e4 i h).2
  ·rw[ht1 i h.1];right;refine⟨by omega,?_⟩;have:n0+(nx+(i-n0)-nx)=i:=(by omega);rw[this];exact hi
 have q6: ∀i,c2.N i→c3.ρ (t i)=c2.ρ i:=by
  intro i hi;rcases p3 i hi with h|h;·rw[ht0 i (e4 i h).1,q3 _ (hτ i (e4 i h).1),p2.ρ i h,e3]
  ·rw[ht1 i h.1,hc3];simp only;rw[if_neg (by omega)];congr 1;omega
 have hblk: ∀j o,H j=some o→0<o.ext→(c.ρ j).1<c.w.heap.size:=by intro j o ho he;exact(hs.blk j o ho he).lt
 have hB: ∀j o,back t H2 n2 H j=some o→(∃i o0,i<n2∧t i=j∧H2 i=some o0∧o=o0.rn t)∨((∀i,i<n2→t i≠j)∧H j=some o):=by
  intro j o ho;rcases WM t H2 H n2 j htinj with⟨i,h1,h2,h3⟩|⟨h1,h2⟩
  ·rw[h3] at ho;simp only[m4] at ho;obtain⟨o0,h4,rfl⟩:=ho;exact .inl ⟨i,o0,h1,h2,h4,rfl⟩
  ·rw[h2] at ho;exact .inr ⟨h1,ho⟩
 have hjx: ∀j o,H j=some o→j<nx:=fun j o ho=>hN j (hs.named j o ho)
 have hfree: ∀j o,(∀i,i<n2→t i≠j)→H j=some o→0<o.ext→¬uG c1 H0 (c.ρ j).1:=by
  rintro j o hj ho he ⟨i,o0,k1,k2,k3⟩;obtain⟨h1,_,o',h2,h3,h4,_⟩:=hH.obj i o0 k1;have hne:τ i≠j:=by rw[←ht0 i h1];exact hj i (by omega)
  rw[e3] at k3;exact hs.sep (τ i) j o' o h2 ho (by omega) he hne k3
 have hstep:Step c H c3 (back t H2 n2 H):={
  ρ:=fun j hj=>q3 j (hN j hj)
  N:=fun j hj=>(q4 j).2 (.inl hj)
  I:=fun b hb=>by rw[q2];exact p2.I b (by rw[e2];exact hb)
  I':=fun b hb=>by
   rw[q2] at hb;rcases p2.I' b hb with h|h|h;·left;rw[←e2];exact h
   ·exact .inr (.inl (hown1 b h))
   ·right;right;rw[←e1];exact h
  size:=by rw[q1,←e1];exact p2.size
  os:=by rw[q1,←e1];exact p2.os
  tape:=by rw[q1,←e1];exact p2.tape
  output:=by rw[q1,←e1];exact p2.output
  frame:=fun b hb ho=>by rw[q1,←e1];exact p2.frame b (by rw[e1];exact hb) fun h=>ho (hown1 b h)
  own:=by
   rintro b ⟨j,o,k1,k2,rfl⟩;rcases hB j o k1 with⟨i,o0,h1,rfl,h3,rfl⟩|⟨h1,h2⟩
   ·rw[q6 i (p1.named i o0 h3)];rcases p2.own _ ⟨i,o0,h3,k2,rfl⟩ with h|h;·exact .inl (hown1 _ h)
    ·right;rw[←e1];exact h
   ·left;exact⟨j,o,h2,k2,by rw[q3 j (hjx j o h2)]⟩}
 have hfrm: ∀j o,(∀i,i<n2→t i≠j)→H j=some o→0<o.ext→c3.w.heap[(c3.ρ j).1]?=c.w.heap[(c.ρ j).1]?:=by intro j o hj ho he;rw[q3 j (hjx j o ho),q1,←e1];exact p2.frame _ (by rw[e1];exact hblk j o ho he) (hfree j o hj ho he)
 have hrel2: ∀d x,Rel c2 d x→Rel c3 (rn1 t d) x:=fun d x h=>XS q5 q6 q2 q1 h
 refine⟨v,c3,rnD t r,back t H2 n2 H,nx+(n2-n0),rfl,q1,?_,hstep,?_,by omega,ao2 q5 q6 q2 q1 p5,by rw[ht];exact hK r H2 n2 p4 p6⟩
 ·refine {named:= ?_,wf:= ?_,blk:= ?_,cells:= ?_,sep:= ?_,imm:= ?_,old:= ?_}
  ·intro j o ho;rcases hB j o ho with⟨i,o0,h1,rfl,h3,rfl⟩|⟨h1,h2⟩
   ·exact q5 i (p1.named i o0 h3)
   ·exact(q4 j).2 (.inl (hs.named j o h2))
  ·intro j o ho;rcases hB j o ho with⟨i,o0,h1,rfl,h3,rfl⟩|⟨h1,h2⟩
   ·obtain⟨k1,k2⟩:=p1.wf i o0 h3;refine⟨by simpa [bA.rn] using k1,fun i r hr=> ?_⟩;simp only[bA.rn,p0,m4] at hr;obtain⟨r0,hr,rfl⟩:=hr;simpa [bA.rn] using k2 i r0 hr
   ·exact hs.wf j o h2
  ·intro j o ho he;rcases hB j o ho with⟨i,o0,h1,rfl,h3,rfl⟩|⟨h1,h2⟩
   ·rw[q6 i (p1.named i o0 h3),q1];exact(p1.blk i o0 h3 he).arW rfl rfl fun _=>by simp[bA.rn]
   ·have:=hs.blk j o h2 he;rw[←hfrm j o h1 h2 he,←q3 j (hjx j o h2)] at this;exact this
  ·intro j o k l r d ho hr hd;rcases hB j o ho with⟨i,o0,h1,rfl,h3,rfl⟩|⟨h1,h2⟩
   ·simp only[bA.rn,p0,m4] at hr;obtain⟨r0,hr,rfl⟩:=hr;simp only[p0,m4] at hd;obtain⟨d0,hd,rfl⟩:=hd;obtain⟨u,h5,h6⟩:=p1.cells i o0 k l r0 d0 h3 hr hd;refine⟨u,?_,hrel2 d0 u h6⟩;rw[q6 i (p1.named i o0 h3),q1];exact h5
   ·obtain⟨u,h5,h6⟩:=hs.cells j o k l r d h2 hr hd;have hpos:0<o.ext:=by have:=(hs.wf j o h2).1;have hk:k<o.rows.length:=(m3.1 hr).1;omega
    refine⟨u,?_,h6.step hstep hs⟩;rw[←h5];have:=hfrm j o h1 h2 hpos;rw[q3 j (hjx j o h2)] at this ⊢;exact World.cell?_of_block (w:=c.w) this
  ·intro j j' o o' ho ho' he he' hne;rcases hB j o ho with⟨i,o0,h1,rfl,h3,rfl⟩|⟨h1,h2⟩<;>rcases hB j' o' ho' with⟨i',o0',h1',rfl,h3',rfl⟩|⟨h1',h2'⟩
   ·rw[q6 i (p1.named i o0 h3),q6 i' (p1.named i' o0' h3')];exact p1.sep i i' o0 o0' h3 h3' he he' fun h=>hne (congrArg t h)
   ·rw[q6 i (p1.named i o0 h3),q3 j' (hjx j' o' h2')];intro heq;rcases p2.own _ ⟨i,o0,h3,he,heq⟩ with h|h;·exact hfree j' o' h1' h2' he' h
    ·have:=hblk j' o' h2' he';rw[e1] at h;omega
   ·rw[q6 i' (p1.named i' o0' h3'),q3 j (hjx j o h2)];intro heq;rcases p2.own _ ⟨i',o0',h3',he',heq.symm⟩ with h|h;·exact hfree j o h1 h2 he h
    ·have:=hblk j o h2 he;rw[e1] at h;omega
   ·rw[q3 j (hjx j o h2),q3 j' (hjx j' o' h2')];exact hs.sep j j' o o' h2 h2' he he' hne
  ·intro j o ho he;rw[q2];rcases hB j o ho with⟨i,o0,h1,rfl,h3,rfl⟩|⟨h1,h2⟩
   ·rw[q6 i (p1.named i o0 h3)];exact p1.imm i o0 h3 he
   ·rw[q3 j (hjx j o h2)];intro hI;rcases p2.I' _ hI with h|h|h;·rw[e2] at h;exact hs.imm j o h2 he h
    ·exact hfree j o h1 h2 he h
    ·have:=hblk j o h2 he;rw[e1] at h;omega
  ·intro b hb;rw[q2] at hb;rw[q1];exact p1.old b hb
 ·intro j hj;rcases(q4 j).1 hj with h|⟨h1,h2⟩
  ·exact .inl h
  ·right;have:=hN2 _ h2;exact⟨h1,by omega⟩
def D1.plain:D1→Bool
 | .v _=>true
 |_=>false
def D.plain:D→Bool
 | .one (.c d)=>d.plain
 | .one (.agg ds)=>ds.all D1.plain
 | .tup xs=>xs.all fun x=>x.cells.all D1.plain
 | .dead=>false
theorem amA{c:Cf}{d:D1} (h:d.plain=true) (hr:Rel c d x):Rel c' d x:=by
 cases d<;>simp only[D1.plain] at h<;>first|cases h;done|skip
 have:=x6 (c:=c) hr;subst this;exact IS hr.oQ
theorem aqY{c:Cf}{ds:List D1} (h:ds.all D1.plain=true){xs:List Value} (hr:rU c ds xs):rU c' ds xs:=⟨hr.1,fun i d u h1 h2=>amA (w2.1 h d (s3 h1)) (hr.2 i d u h1 h2)⟩
theorem aqX{c:Cf}{d:D} (h:d.plain=true) (hr:fD c d x):fD c' d x:=by
 have hV: ∀(d:DV) (x:Value),d.cells.all D1.plain=true→jZ c d x→jZ c' d x:=by
  intro d x h hr
  cases d with
  |c d=>exact amA (by simpa [DV.cells] using h) hr
  |agg ds=>obtain⟨vs,hx,hl⟩:=hr;exact⟨vs,hx,aqY h hl⟩
 cases d with
 |one d=>exact hV d x (by cases d<;>simpa [D.plain,DV.cells] using h) hr
 |dead=>trivial
 |tup ds=>obtain⟨vs,hx,hl,hf⟩:=hr;refine⟨vs,hx,hl,fun i d u h1 h2=>hV d u ?_ (hf i d u h1 h2)⟩;simp only[D.plain,w2] at h;exact w2.2 (h d (s3 h1))
theorem aB.pure{f:FuncId}{args0 args:List D}{nx:Nat}{K:D→aA→Nat→Prop}{R:D→Prop} (h:aB P f args0 .nil 0 fun r _ _=>r.plain=true∧R r) (hlen:args.length=args0.length)
 (hargs: ∀(i:Nat) (d0 d:D),args0[i]?=some d0→args[i]?=some d→CvD H (fun _=>True) id 0 d0 d) (hK: ∀r,R r→K r H nx):aB P f args H nx K:=by
 refine⟨h.1,fun c vs hs hN hl hr=> ?_⟩
 have hst0:Step {c with N:=fun _=>False} H c H:={
  ρ:=fun id h=>h.elim
  N:=fun id h=>h.elim
  I:=fun b h=>h
  I':=fun b h=>.inl h
  size:=m5 _
  os:=rfl
  tape:=rfl
  output:=rfl
  frame:=fun _ _ _=>rfl
  own:=fun b h=>.inl h}
 have hs1:=(adN (nx:=0) (nh:=0) (σ:=id) (F:=fun _=>True) (H':=.nil) hs hst0 (fun _ h=>h.elim) (m5 0) (fun i hi=>rfl) ⟨fun id o h=>(by cases h),fun i j o o' h=>(by cases h)⟩).1
 obtain⟨c1,hc1⟩: ∃c1,c1=c.conv 0 0 id (c.frI H fun _=>True):=⟨_,rfl⟩
 rw[←hc1] at hs1
 have e1:c1.w=c.w:=by rw[hc1];rfl
 have hcall:=h.2 c1 vs hs1 (fun i hi=>by rw[hc1] at hi;rcases hi with⟨h,_⟩|⟨_,h1,_⟩<;>omega) (by rw[hl,hlen]) (fun i d0 v h1 h2=>by
  have hi:i<args.length:=by rw[hlen];exact(m3.1 h1).1
  have:=zD (nx:=0) hs (I':=c.frI H fun _=>True) (fun b h=>.inl h) (fun id o h1 h2 h3=>.inr ⟨id,o,h1,h2,h3,rfl⟩) (fun i hi=>rfl) (hargs i d0 _ h1 (n1 hi)) (hr i _ v (n1 hi) h2)
  rw[hc1];exact this)
 rw[e1] at hcall
 apply hcall.mono
 rintro x w' ⟨v,c2,r,H2,n2,rfl,rfl,p1,p2,p3,p4,p5,p6,p7⟩
 have hno: ∀b,¬uG c1 .nil b:=by rintro b ⟨id,o,h,_⟩;cases h
 have hfrm: ∀b,b<c.w.heap.size→c2.w.heap[b]?=c.w.heap[b]?:=fun b hb=>by rw[←e1];exact p2.frame b (by rw[e1];exact hb) (hno b)
 obtain⟨c3,hc3⟩: ∃c3:Cf,c3= {c with w:=c2.w}:=⟨_,rfl⟩
 have hstep:Step c H c3 H:={
  ρ:=fun j hj=>by rw[hc3]
  N:=fun j hj=>by rw[hc3];exact hj
  I:=fun b hb=>by rw[hc3];exact hb
  I':=fun b hb=>by rw[hc3] at hb;exact .inl hb
  size:=by rw[hc3,←e1];exact p2.size
  os:=by rw[hc3,←e1];exact p2.os
  tape:=by rw[hc3,←e1];exact p2.tape
  output:=by rw[hc3,←e1];exact p2.output
  frame:=fun b hb ho=>by rw[hc3];exact hfrm b hb
  own:=by rintro b ⟨j,o,k1,k2,k3⟩;exact .inl ⟨j,o,k1,k2,by rw[hc3] at k3;exact k3⟩}
 have hblk: ∀j o,H j=some o→0<o.ext→(c.ρ j).1<c.w.heap.size:=by intro j o ho he;exact(hs.blk j o ho he).lt
 refine⟨v,c3,r,H,nx,rfl,by rw[hc3],?_,hstep,fun i hi=>by rw[hc3] at hi;exact .inl hi,m5 _,aqX p6 p5,hK r p7⟩
 refine {named:= ?_,wf:=hs.wf,blk:= ?_,cells:= ?_,sep:= ?_,imm:= ?_,old:= ?_}
 ·intro j o ho;rw[hc3];exact hs.named j o ho
 ·intro j o ho he;have:=hs.blk j o ho he;rw[←hfrm _ (hblk j o ho he)] at this;rw[hc3];exact this
 ·intro j o k l r d ho hr hd;obtain⟨u,h5,h6⟩:=hs.cells j o k l r d ho hr hd;have hpos:0<o.ext:=by have:=(hs.wf j o ho).1;have hk:k<o.rows.length:=(m3.1 hr).1;omega
  refine⟨u,?_,h6.step hstep hs⟩;rw[←h5,hc3];exact World.cell?_of_block (w:=c.w) (hfrm _ (hblk j o ho hpos))
 ·intro j j' o o' ho ho' he he' hne;rw[hc3];exact hs.sep j j' o o' ho ho' he he' hne
 ·intro j o ho he;rw[hc3];exact hs.imm j o ho he
 ·intro b hb;rw[hc3] at hb ⊢;have:=hs.old b hb;have h2:=p2.size;rw[e1] at h2;simp only;omega
end
def wv (P:Program) (b:Nat) (live:List Nat) (K:Env→aA→Nat→Prop) (L:List aY) (e:Env) (H:aA) (nx:Nat) (S:dJ):Prop:=avc P b (fun e' H' nx'=>K (e'.wT live) H' nx') L e H nx S
def wvQ (P:Program) (b:Nat) (live:List Nat) (K:Env→aA→Nat→Prop) (L:List aY) (dst:Option Nat) (e:Env) (H:aA) (nx:Nat) (S:dJ):Option D→Prop
 |some d=>wv P b live K L (e.put dst d) H nx S
 |none=>False
def wvL (P:Program) (b:Nat) (live:List Nat) (K:Env→aA→Nat→Prop) (L:List aY) (dst:Option Nat) (e:Env) (H:aA) (nx:Nat) (S:dJ) (p:Nat) (g:D→aA→Prop):Option D→Prop
 |some d=>wv P b live K L (e.put dst d) H nx ((p,g d)::S)
 |none=>False
def wvA (P:Program) (b:Nat) (live:List Nat) (K:Env→aA→Nat→Prop) (L:List aY) (dst:Option Nat) (id:Nat) (e:Env) (H:aA) (nx:Nat) (S:dJ):Option (D×bA)→Prop
 |some (d,ob)=>wv P b live K L (e.put dst d) (H.set id ob) nx S
 |none=>False
def wvS (P:Program) (b:Nat) (live:List Nat) (K:Env→aA→Nat→Prop) (L:List aY) (dst:Option Nat) (m st:List Nat) (e:Env) (H:aA) (nx:Nat) (S:dJ):Option (Nat×bA)→Prop
 |some (i,ob)=>lU S st (dT b m H ((msk b m H).set i ob))∧wv P b live K L (e.put dst .dead) (dT b m H ((msk b m H).set i ob)) nx S
 |none=>False
def wvP (P:Program) (b:Nat) (live:List Nat) (K:Env→aA→Nat→Prop) (L:List aY) (dst:Option Nat) (id:Nat) (m st:List Nat) (e:Env) (H:aA) (nx:Nat) (S:dJ) (kc:Nat):Option (Option Nat×Nat×Nat×List (List D1))→Prop
 |some (dl,n,k,rows)=>k≤2147483647∧ ∀cap,k≤cap→kc≤cap→lU S st (dT b m H ((VR (msk b m H) dl).set id ⟨n,cap,rows⟩))∧wv P b live K L (e.put dst (.one (.c (.osl n id 0 k cap)))) (dT b m H ((VR (msk b m H) dl).set id ⟨n,cap,rows⟩)) nx S
 |none=>False
def DQ (P:Program) (b:Nat) (live:List Nat) (K:Env→aA→Nat→Prop) (L:List aY) (dst:Option Nat) (m st:List Nat) (e:Env) (H:aA) (S:dJ) (r:D) (H':aA) (nx:Nat):Prop:=lU S st (dT b m H H')∧wv P b live K L (e.put dst r) (dT b m H H') nx S
def ae4 (c x y:D):Option D:=
 match c with
 | .one (.c (.v (.bool t)))=>some (aa5 t x y)
 |_=>none
def arP:D→Option D
 | .one (.c (.ptr n id row col))=>some (.one (.c (.ptr n id row col)))
 | .one (.c (.fQ cs))=>some (.one (.c (.fQ cs)))
 |_=>none
def akG (H:aA) (n:Nat) (g:Bool):D→Option D
 | .one (.c d)=>(tT H d n).bind (mkV g)
 |_=>none
def aqW (k:Nat):D→Option D
 | .one (.c (.ptr n id row col))=>some (.one (.c (.ptr n id row (col+k))))
 | .one (.c (.fQ cs))=>some (.one (.c (.fQ (cs.drop k))))
 |_=>none
def aoH (n:Nat) (rows:List (List D1)) (k:Int):Option D:=
 if 0≤k then
  match rows[k.toNat]? with
  |some r=>if r.length=n then some (.one (.c (.fQ r))) else none
  |none=>none
 else none
def aqQ (n:Nat):D→D→Option D
 | .one (.c (.osl m id off len _)),.one (.c (.v (.int _ k)))=>if m=n∧0≤k∧k<len then some (.one (.c (.ptr n id (off+k.toNat) 0))) else none
 | .one (.c (.isl rows)),.one (.c (.v (.int _ k)))=>aoH n rows k
 |_,_=>none
def al4 (n len:Nat):D→D→Option D
 | .one (.c (.ptr m id row col)),.one (.c (.v (.int _ k)))=>if 0≤k∧k<len then some (.one (.c (.ptr m id row (col+k.toNat*n)))) else none
 |_,_=>none
def an3 (op:BinOp):D→D→Option D
 | .one (.c (.v a)),.one (.c (.v b))=>(SA op a b).map fun v=>.one (.c (.v v))
 |_,_=>none
def atP (neg:Bool):D→D→Option D
 | .one (.c (.v (.bool a))),.one (.c (.v (.bool b)))=>some (.one (.c (.v (.bool (if neg then a != b else a==b)))))
 |_,_=>none
def unD:UnOp→D→Option D
 | .not,.one (.c (.v (.bool b)))=>some (.one (.c (.v (.bool !b))))
 | .neg,.one (.c (.v (.int k n)))=>some (.one (.c (.v (.int k (k.wrap (0-n))))))
 |_,_=>none
def amP (k:IntKind):D→Option D
 | .one (.c (.v (.int _ n)))=>some (.one (.c (.v (.int k (k.wrap n)))))
 |_=>none
def arV:Bool→D→Option D
 |true,.one (.c (.v (.string s)))=>some (.one (.c (.v (.int .i64 s.size))))
 |false,.one (.c (.isl rows))=>some (.one (.c (.v (.int .i64 rows.length))))
 |false,.one (.c (.osl _ _ _ len _))=>some (.one (.c (.v (.int .i64 len))))
 |_,_=>none
def atJ:D→Option D
 | .one (.c (.osl _ _ _ _ cap))=>some (.one (.c (.v (.int .i64 cap))))
 |_=>none
def arJ (i:Nat):D→Option D
 | .tup xs=>(xs[i]?).map .one
 |_=>none
def EA (d:Nat):Option D→Option Nat
 |none=>some d
 |some (.one (.c (.v (.int _ k))))=>if 0≤k then some k.toNat else none
 |_=>none
def sJ (n:Nat) (x:D) (lo hi mx:Option D):Option D:=
 match x with
 | .one (.c (.isl rows))=>
   match mx,EA 0 lo,EA rows.length hi with
   |none,some l,some h=>if l≤h∧h≤rows.length∧(∀r∈rows,r.length=n) then some (.one (.c (.isl ((rows.drop l).take (h-l))))) else none
   |_,_,_=>none
 | .one (.c (.osl m id off len cap))=>
   match EA 0 lo,EA len hi,EA cap mx with
   |some l,some h,some mm=>(ZU n l h mm (.osl m id off len cap)).map fun d=>.one (.c d)
   |_,_,_=>none
 |_=>none
def asY:D→Option D
 | .one (.c (.isl _))=>some (.one (.c .nil))
 | .one (.c (.osl _ _ _ _ _))=>some (.one (.c .nil))
 |_=>none
def aq0 (mn:Bool):D→D→Option D
 | .one (.c (.v (.int k a))),.one (.c (.v (.int _ b)))=>some (.one (.c (.v (.int k (if mn then (if b<a then b else a) else (if a<b then b else a))))))
 |_,_=>none
def aqE (off n:Nat) (g:Bool):D→Option D
 | .one (.agg cs)=>if off+n≤cs.length then mkV g ((cs.drop off).take n) else none
 |_=>none
def afW:Option (List D1)→Option D
 |some cs=>some (.one (.agg cs))
 |none=>none
def akJ (cs:List D1) (off n:Nat) (e:Env) (ps:List (Nat×Nat×aT)):D→Option (List D1)
 | .one d=>if d.cells.length=n∧off+n≤cs.length then sH e (iA cs off d.cells) ps else none
 |_=>none
def ldR (r:Option (List D1)) (col k:Nat):Option (List D1):=
 match r with
 |some r=>if col+k≤r.length then some ((r.drop col).take k) else none
 |none=>none
def ldO (o:Option bA) (n row col k:Nat):Option (List D1):=
 match o with
 |some o=>if o.n=n then ldR o.rows[row]? col k else none
 |none=>none
def stR (id:Nat) (o:bA) (r:Option (List D1)) (row col:Nat) (ds:List D1):Option (Nat×bA):=
 match r with
 |some r=>if col+ds.length≤r.length then some (id,⟨o.n,o.ext,o.rows.set row (iA r col ds)⟩) else none
 |none=>none
def stO (id:Nat) (o:Option bA) (n row col:Nat) (ds:List D1):Option (Nat×bA):=
 match o with
 |some o=>if o.n=n then stR id o o.rows[row]? row col ds else none
 |none=>none
variable{row col:Nat}
theorem ZA{H:aA}{n id k:Nat}:tT H (.ptr n id row col) k=ldO (H id) n row col k:=by unfold tT ldO ldR;rfl
theorem X4{H:aA}{cs:List D1}{k:Nat}:tT H (.fQ cs) k=if k≤cs.length then some (cs.take k) else none:=rfl
theorem ZI{H:aA}{n id:Nat}{ds:List D1}:PL H (.ptr n id row col) ds=stO id (H id) n row col ds:=by unfold PL stO stR;rfl
theorem akL{α:Type} [Inhabited α]{n:Nat}{enc:α→List D1}{l:List α}{k:Int}:
 aoH n (l.map enc) k=if 0≤k∧k<l.length∧(enc (l.getD k.toNat default)).length=n then some (.one (.c (.fQ (enc (l.getD k.toNat default))))) else none:=by
 unfold aoH
 by_cases h0:0≤k
 ·by_cases h1:k<l.length;·have h2:k.toNat<l.length:=(by omega);simp[h0,h1,h2]
  ·have h2: ¬k.toNat<l.length:=(by omega);simp[h0,h1,h2]
 ·simp[h0]
theorem apK{α:Type} [Inhabited α]{enc:α→List D1}{l:List α}{i k:Nat}:
 ldR ((l.map enc)[i]?) col k=if i<l.length∧col+k≤(enc (l.getD i default)).length then some (((enc (l.getD i default)).drop col).take k) else none:=by
 by_cases h:i<l.length
 ·simp[ldR,h]
 ·simp[ldR,h]
theorem ao5{α:Type} [Inhabited α]{enc:α→List D1}{l:List α}{id:Nat}{o:bA}{i:Nat}{ds:List D1}:
 stR id o ((l.map enc)[i]?) row col ds=if i<l.length∧col+ds.length≤(enc (l.getD i default)).length then some (id,⟨o.n,o.ext,o.rows.set row (iA (enc (l.getD i default)) col ds)⟩) else none:=by
 by_cases h:i<l.length
 ·simp[stR,h]
 ·simp[stR,h]
theorem ajW{α β:Type}{c:Prop} [Decidable c]{x:Option α}{f:α→Option β}:(if c then x else none).bind f=if c then x.bind f else none:=by split<;>rfl
section
variable {P : Program} {b : Nat} {live : List Nat} {K : Env → aA → Nat → Prop} {L : List aY} {dst : Option Nat} {e : Env} {H : aA} {nx : Nat} {S : dJ}
theorem AWP.reg {T:Nat} {ops:List aY} {n:Nat} {Q:AQ} (h:wv P nx live (Q .normal) ops e H (nx+n) []):AWP P T (.region ops n live) e H nx Q:=AWP.region h
theorem aqL:wv P b live K [] e H nx S=K (e.wT live) H nx:=rfl
variable{ix:Nat}{m s:List Nat}
theorem as7{op:AOp} (hk: ∃r,op.kind= .q r):wv P b live K (⟨ix,dst,op,none,m,s,false⟩::L) e H nx S=wvQ P b live K L dst e H nx S (aU (msk b m H) e op):=by
 obtain⟨r,hk⟩:=hk;unfold wv;simp only[avc,l8,vI,aop,hk,entry,CC,if_false,List.nil_append]
 cases h:aU (msk b m H) e op with
 |none=>simp[wvQ]
 |some d=>simp[wvQ,wv]
theorem atM{op:AOp} (hk: ∃r,op.kind= .q r):wv P b live K (⟨ix,dst,op,none,m,s,true⟩::L) e H nx S=wvL P b live K L dst e H nx S ix (fun d H'=>aU (msk b m H') e op=some d) (aU (msk b m H) e op):=by
 obtain⟨r,hk⟩:=hk;unfold wv;simp only[avc,l8,vI,aop,hk,entry,if_true,List.singleton_append]
 cases h:aU (msk b m H) e op with
 |none=>simp[wvL]
 |some d=>simp[wvL,wv]
variable{k:Bool}
theorem am2{op:AOp} (hk:op.kind= .a):wv P b live K (⟨ix,dst,op,none,m,s,k⟩::L) e H nx S=wvA P b live K L dst (b+ix) e H nx S (lT (b+ix) e op):=by
 unfold wv;simp only[avc,l8,vI,aop,hk]
 cases h:lT (b+ix) e op with
 |none=>simp[wvA]
 |some d=>obtain⟨d,ob⟩:=d;simp only[wvA,wv,Option.some.injEq,Prod.mk.injEq,eq_iff_iff];exact⟨by rintro⟨_,_,⟨rfl,rfl⟩,h⟩;exact h,fun h=>⟨_,_,⟨rfl,rfl⟩,h⟩⟩
variable{n:Nat}{x y:aT}
theorem amY{g:Bool}:wv P b live K (⟨ix,dst,.store n g x y,none,m,s,k⟩::L) e H nx S=wvS P b live K L dst m s e H nx S (LB (msk b m H) e (.store n g x y)):=by
 unfold wv;simp only[avc,l8,vI,aop,AOp.kind,HX]
 cases h:LB (msk b m H) e (.store n g x y) with
 |none=>simp[wvS]
 |some d=>obtain⟨i,ob⟩:=d;simp only[wvS,wv,Option.some.injEq,Prod.mk.injEq,eq_iff_iff];exact⟨by rintro⟨_,_,⟨rfl,rfl⟩,h⟩;exact h,fun h=>⟨_,_,⟨rfl,rfl⟩,h⟩⟩
theorem ahJ:wv P b live K (⟨ix,dst,.append n x y,none,m,s,k⟩::L) e H nx S=wvP P b live K L dst (b+ix) m s e H nx S (amE (x.ev e)) (IX (msk b m H) e (.append n x y)):=by
 unfold wv;simp only[avc,l8,vI,aop,AOp.kind,HX]
 cases h:IX (msk b m H) e (.append n x y) with
 |none=>simp[wvP]
 |some d=>obtain⟨dl,n',k',rows⟩:=d;simp only[wvP,wv,Option.some.injEq,Prod.mk.injEq,eq_iff_iff];exact⟨by rintro⟨_,_,_,_,⟨rfl,rfl,rfl,rfl⟩,h⟩;exact h,fun h=>⟨_,_,_,_,⟨rfl,rfl,rfl,rfl⟩,h⟩⟩
theorem an4{f:FuncId}{xs:List aT}:wv P b live K (⟨ix,dst,.call f xs,none,m,s,k⟩::L) e H nx S=aB P f (xs.map (·.ev e)) (msk b m H) nx (DQ P b live K L dst m s e H S):=by unfold wv;simp only[avc,l8,vI,aop,AOp.kind,HX];rfl
theorem amM{t:Nat}{w:Bool}{op:AOp}{x:Bool} (h:e t= .one (.c (.v (.bool x)))):wv P b live K (⟨ix,dst,op,some (t,w),m,s,k⟩::L) e H nx S=if x=w then wv P b live K (⟨ix,dst,op,none,m,s,k⟩::L) e H nx S else wv P b live K L (e.put dst (.tup [])) H nx S:=by
 unfold wv;simp only[avc,l8,vI,h];by_cases hx:x=w;·subst hx;simp;exact brL
 ·have:(x==w)=false:=by simpa using hx
  simp[hx,this]
theorem alM{d:D}:wvQ P b live K L dst e H nx S (some d)=wv P b live K L (e.put dst d) H nx S:=rfl
theorem amH:wvQ P b live K L dst e H nx S none=False:=rfl
theorem ao9{c:Prop} [Decidable c]{x:Option D}:wvQ P b live K L dst e H nx S (if c then x else none)=(c∧wvQ P b live K L dst e H nx S x):=by split<;>rename_i h<;>simp[h,wvQ]
theorem am8{c:Prop} [Decidable c]{x:Option D}:wvQ P b live K L dst e H nx S (if c then none else x)=(¬c∧wvQ P b live K L dst e H nx S x):=by split<;>rename_i h<;>simp[h,wvQ]
theorem alC{d:D}{p:Nat}{g:D→aA→Prop}:wvL P b live K L dst e H nx S p g (some d)=wv P b live K L (e.put dst d) H nx ((p,g d)::S):=rfl
theorem am3{id:Nat}{d:D}{ob:bA}:wvA P b live K L dst id e H nx S (some (d,ob))=wv P b live K L (e.put dst d) (H.set id ob) nx S:=rfl
theorem apI{id:Nat}{c:Prop} [Decidable c]{x:Option (D×bA)}:wvA P b live K L dst id e H nx S (if c then x else none)=(c∧wvA P b live K L dst id e H nx S x):=by split<;>rename_i h<;>simp[h,wvA]
variable{st:List Nat}
theorem al6{i:Nat}{ob:bA}:wvS P b live K L dst m st e H nx S (some (i,ob))=(lU S st (dT b m H ((msk b m H).set i ob))∧wv P b live K L (e.put dst .dead) (dT b m H ((msk b m H).set i ob)) nx S):=rfl
theorem an8{c:Prop} [Decidable c]{x:Option (Nat×bA)}:wvS P b live K L dst m st e H nx S (if c then x else none)=(c∧wvS P b live K L dst m st e H nx S x):=by split<;>rename_i h<;>simp[h,wvS]
theorem alL{id:Nat}{dl:Option Nat}{k kc:Nat}{rows:List (List D1)}:wvP P b live K L dst id m st e H nx S kc (some (dl,n,k,rows))=
 (k≤2147483647∧ ∀cap,k≤cap→kc≤cap→lU S st (dT b m H ((VR (msk b m H) dl).set id ⟨n,cap,rows⟩))∧wv P b live K L (e.put dst (.one (.c (.osl n id 0 k cap)))) (dT b m H ((VR (msk b m H) dl).set id ⟨n,cap,rows⟩)) nx S):=rfl
theorem amW{r:D}{H':aA}:DQ P b live K L dst m st e H S r H' nx=(lU S st (dT b m H H')∧wv P b live K L (e.put dst r) (dT b m H H') nx S):=rfl
theorem anI:msk b [] H=H:=by funext i;simp[msk]
theorem ahA{H':aA}:dT b [] H H'=H':=by funext i;simp[dT]
theorem Z9{S:dJ}{H:aA}:lU S [] H=True:=by simp[lU]
theorem adO:aU H e (.move x)=some (x.ev e):=rfl
theorem ac7{c:aT}:aU H e (.pick c x y)=ae4 (c.ev e) (x.ev e) (y.ev e):=by unfold aU ae4;rfl
theorem YM:aU H e (.tF x)=arP (x.ev e):=by unfold aU arP;rfl
theorem adH{g:Bool}:aU H e (.load n g x)=akG H n g (x.ev e):=by unfold aU akG;rfl
theorem aiB{k:Nat}:aU H e (.fld k x)=aqW k (x.ev e):=by unfold aU aqW;rfl
theorem ahE{i:aT}:aU H e (.idx n x i)=aqQ n (x.ev e) (i.ev e):=by unfold aU aqQ aoH;rfl
theorem aeR{l:Nat}{i:aT}:aU H e (.TL n l x i)=al4 n l (x.ev e) (i.ev e):=by unfold aU al4;rfl
theorem aiM{op:BinOp}:aU H e (.bin op x y)=an3 op (x.ev e) (y.ev e):=by unfold aU an3;rfl
theorem aEH{g:Bool}:aU H e (.beq g x y)=atP g (x.ev e) (y.ev e):=by unfold aU atP;rfl
theorem akA{op:UnOp}:aU H e (.un op x)=unD op (x.ev e):=by unfold aU unD;rfl
theorem acM{k:IntKind}:aU H e (.conv k x)=amP k (x.ev e):=by unfold aU amP;rfl
theorem ahF{s:Bool}:aU H e (.len s x)=arV s (x.ev e):=by unfold aU arV;rfl
theorem agP{i:Nat}:aU H e (.ext x i)=arJ i (x.ev e):=by unfold aU arJ;rfl
theorem aoI{d:Nat}{x:Option aT}:HD e d x=EA d (x.map (·.ev e)):=by
 cases x with
 |none=>rfl
 |some x=>simp only[HD,EA,Option.map];cases x.ev e with
  |one x=>cases x with
   |c x=>cases x with
    |v x=>cases x<;>rfl
    |_=>rfl
   |agg _=>rfl
  |_=>rfl
theorem ah8{lo hi mx:Option aT}:aU H e (.slc n x lo hi mx)=sJ n (x.ev e) (lo.map (·.ev e)) (hi.map (·.ev e)) (mx.map (·.ev e)):=by
 simp only[aU,sJ,aoI]
 cases x.ev e with
 |one x=>cases x with
  |c x=>cases x with
   |isl rows=>
    cases mx with
    |none=>
     simp only[Option.map_none]
     cases EA 0 (lo.map (·.ev e)) with
     |none=>rfl
     |some l=>cases EA rows.length (hi.map (·.ev e))<;>rfl
    |some m=>rfl
   |_=>rfl
  |agg _=>rfl
 |_=>rfl
theorem ai3{g:Bool}:aU H e (.mmx g x y)=aq0 g (x.ev e) (y.ev e):=by unfold aU aq0;rfl
theorem abJ{z:List D1}{ps:List (Nat×Nat×aT)}:aU H e (.build z ps)=afW (sH e z ps):=by simp only[aU];cases sH e z ps<;>rfl
theorem ahW{cs:List D1}:sH e cs []=some cs:=rfl
theorem ac1{cs:List D1}{off:Nat}{ps:List (Nat×Nat×aT)}:sH e cs ((off,n,x)::ps)=akJ cs off n e ps (x.ev e):=by unfold sH akJ;rfl
end
def wvG (P:Program) (b:Nat) (live:List Nat) (K:Env→aA→Nat→Prop) (o:aY) (L:List aY) (w:Bool) (e:Env) (H:aA) (nx:Nat) (S:dJ):D→Prop
 | .one (.c (.v (.bool x)))=>if x=w then wv P b live K (o::L) e H nx S else wv P b live K L (e.put o.dst (.tup [])) H nx S
 | .tup []=>wv P b live K L (e.put o.dst (.tup [])) H nx S
 |_=>False
def ZT:Option Value→Option D
 |some v=>some (.one (.c (.v v)))
 |none=>none
section
variable {P : Program} {T : Nat} {b : Nat} {live : List Nat} {K : Env → aA → Nat → Prop} {L : List aY} {dst : Option Nat} {e : Env} {H : aA} {nx : Nat} {S : dJ} {Q : AQ} {x y z : AC}
theorem as9 {ix t:Nat} {w:Bool} {op:AOp} {m s:List Nat} {k:Bool}:wv P b live K (⟨ix,dst,op,some (t,w),m,s,k⟩::L) e H nx S=wvG P b live K ⟨ix,dst,op,none,m,s,k⟩ L w e H nx S (e t):=by
 generalize he:e t=d;by_cases hd: ∃x,d= .one (.c (.v (.bool x)));·obtain⟨x,rfl⟩:=hd;rw[amM he];rfl
 ·by_cases hu:d= .tup [];·subst hu;unfold wv;simp only[avc,l8,vI,he,wvG];rfl
  ·have h1:vI (some (t,w)) e=none:=by
    unfold vI;simp only[he]
    split
    ·exact absurd ⟨_,rfl⟩ hd
    ·exact absurd rfl hu
    ·rfl
   have h2:wvG P b live K ⟨ix,dst,op,none,m,s,k⟩ L w e H nx S d=False:=by
    unfold wvG;split;·exact absurd ⟨_,rfl⟩ hd
    ·exact absurd rfl hu
    ·rfl
   rw[h2]
   unfold wv
   simp only[avc,l8,h1]
def aM (P:Program) (T:Nat):List AC→Env→aA→Nat→AQ→Prop
 | [],e,H,nx,Q=>Q .normal e H nx
 |x::xs,e,H,nx,Q=>AWP P T x e H nx (AQ.then (fun e' H' nx'=>aM P T xs e' H' nx' Q) Q)
variable {zs : List AC}
theorem aM.run (h:aM P T [x] e H nx Q):AWP P T x e H nx Q:=AWP.mono h fun ex e' H' nx' _ hq=>by cases ex<;>exact hq
theorem aM.nil (h:Q .normal e H nx):aM P T [] e H nx Q:=h
theorem aM.skip (h:aM P T zs e H nx Q):aM P T (.skip::zs) e H nx Q:=AWP.skip h
theorem aM.ret (h:Q .ret e H nx):aM P T (.ret::zs) e H nx Q:=AWP.ret h
theorem aM.exit {id:Nat} (h:Q (.exit id) e H nx):aM P T (.exit id::zs) e H nx Q:=AWP.exit h
theorem aM.seq (h:aM P T (x::y::zs) e H nx Q):aM P T (.seq x y::zs) e H nx Q:=by
 refine AWP.seq fun K hK=>AWP.mono h fun ex e' H' nx' _ hq=> ?_
 cases ex with
 |normal=>exact hK _ _ _ hq
 |exit i=>exact hq
 |ret=>exact hq
theorem aM.reg {ops:List aY} {n:Nat} (h: ∀K:Env→aA→Nat→Prop,(∀e' H' nx',aM P T zs e' H' nx' Q→K e' H' nx')→wv P nx live K ops e H (nx+n) []):aM P T (.region ops n live::zs) e H nx Q:=AWP.region (h _ fun _ _ _ h=>h)
theorem aM.cond {c:aT} {t:Bool} (hc:c.ev e= .one (.c (.v (.bool t)))) (h1:t=true→aM P T (x::zs) e H nx Q) (h2:t=false→aM P T (y::zs) e H nx Q):aM P T (.cond c x y::zs) e H nx Q:=AWP.cond t hc h1 h2
theorem aM.block {id:Nat} (h: ∀K:Env→aA→Nat→Prop,(∀e' H' nx',aM P T zs e' H' nx' Q→K e' H' nx')→aM P T [x] e H nx (AQ.blk id K Q)):aM P T (.block id x::zs) e H nx Q:=by
 refine AWP.block fun K hK=>AWP.mono (h K fun e' H' nx' h=>hK e' H' nx' h).run fun ex e' H' nx' _ hq=> ?_
 cases ex with
 |normal=>exact hq
 |exit i=>
  simp only[AQ.blk] at hq ⊢;split;·rename_i hi;rw[if_pos hi] at hq;exact hq
  ·rename_i hi;rw[if_neg hi] at hq;exact hq
 |ret=>exact hq
theorem aM.cut (R:Env→aA→Nat→Prop) (h1:aM P T [x] e H nx (AQ.then R Q)) (h2: ∀e' H' nx',nx≤nx'→R e' H' nx'→aM P T zs e' H' nx' Q):aM P T (x::zs) e H nx Q:=
 AWP.mono h1.run fun ex e' H' nx' hle hq=>by
  cases ex with
  |normal=>exact h2 e' H' nx' hle hq
  |exit i=>exact hq
  |ret=>exact hq
theorem aM.conv {nh:Nat} {e':Env} {H':aA} {F:Nat→Prop} {σ:Nat→Nat} (hcv:Cv nx e H nh e' H' F σ) (h:aM P T (x::zs) e' H' nh Q):aM P T (x::zs) e H nx Q:=AWP.conv (m5 nx) (.inl rfl) hcv h
theorem aM.EJ (n:Nat) (h:aM P T (x::zs) e (H.set nx ⟨n,0,[]⟩) (nx+1) Q):aM P T (x::zs) e H nx Q:=AWP.EJ n h
theorem aM.loop {α:Type} (E:α→Env) (G:α→aA) (nh:Nat) (μ:α→Nat) (x0:α) (h0: ∃F σ,Cv nx e H nh (E x0) (G x0) F σ)
 (h: ∀u,∀K:Env→aA→Nat→Prop,(∀e' H' nx' u',nh≤nx'→μ u'<μ u→(∃F σ,Cv nx e' H' nh (E u') (G u') F σ)→K e' H' nx')→aM P T [x] (E u) (G u) nh (AQ.then K Q)):aM P T (.loop x::zs) e H nx Q:=
 AWP.loop E G nh μ x0 h0 fun u K hK=>AWP.mono (h u K hK).run fun ex e' H' nx' _ hq=>by
  cases ex with
  |normal=>exact hq
  |exit i=>exact hq
  |ret=>exact hq
theorem aB.body {f:FuncId} {fn:Func} {ac:AC} {rs:List aW} {cs:List Cert} {args:List D} {KK:D→aA→Nat→Prop}
 (hf:P.funcs[f]?=some fn) (hok:qY P f=true) (hc:aO P fn cs=some (ac,rs)) (hl:args.length≤fn.ntmps)
 (h: ∀Q:AQ,(∀ex e' H' nx' d nh d' H'' F σ,ex= .normal∨ex= .ret→yT H' e' rs=some d→CvR nx d H' nh d' H'' F σ→KK d' H'' nh→Q ex e' H' nx')→aM P fn.ntmps [ac] (Env.args 0 args) H nx Q):aB P f args H nx KK:=
 aB.enter hf hok hc hl fun Q hQ=>(h Q hQ).run
theorem aA.set_set {H:aA} {i:Nat} {x y:bA}:(H.set i x).set i y=H.set i y:=by funext j;simp only[aA.set];split<;>rfl
theorem ae3 {v:Value}:ZT (some v)=some (.one (.c (.v v))):=rfl
theorem acF:ZT none=none:=rfl
theorem ah5 {c:Prop} [Decidable c] {x:Option Value}:ZT (if c then none else x)=if c then none else ZT x:=by split<;>rfl
theorem ao6 {op:BinOp} {u v:Value}:an3 op (.one (.c (.v u))) (.one (.c (.v v)))=ZT (SA op u v):=by simp only[an3];cases SA op u v<;>rfl
end
attribute [go_sem] aqL as7 atM am2 amY ahJ an4 alM amH ao9 am8 alC am3 apI al6 an8 alL anI ahA Z9 adO ac7 YM adH aiB ahE aeR aiM aEH akA acM ahF agP ah8 ai3 abJ ahW ac1 AOp.kind exists_eq' Kind.q.injEq Env.wT Env.put Env.args Env.set aT.ev AQ.then AQ.blk ofV reduceIte Nat.reduceEqDiff Nat.reduceAdd arP akG aqW aqQ al4 ao6 atP unD amP arV atJ arJ asY aq0 aqE afW akJ ZA X4 ldO apK ZI stO ao5 akL ajW CF forall_exists_index and_imp forall_apply_eq_imp_iff₂ implies_true aA.set_set aA.set aA.nil aA.del mkV Option.bind_some Option.bind_none Option.map_some Option.map_none List.getElem?_cons_zero List.getElem?_cons_succ List.length_cons List.length_nil List.take_succ_cons List.take_zero List.drop_succ_cons bq5 List.take_nil List.drop_nil List.nil_append List.cons_append bq6 n3 q0 List.set_cons_zero List.set_cons_succ bqW Nat.reduceLeDiff Y4 Nat.add_zero m5 true_and and_true ae3 acF ah5 SA lT LB iA IX J7 VR DV.cells ae4 aa5 chunk List.replicate_succ List.replicate_zero List.flatten_cons List.flatten_nil CC beq_self_eq_true
theorem aaO{P:Program}{b:Nat}{live:List Nat}{K:Env→aA→Nat→Prop}{L:List aY}{dst:Option Nat}{e:Env}{H:aA}{nx:Nat}{S:dJ}{ix:Nat}{k:XK}{xs:List aT}{m s:List Nat}{lk:Bool} (hk:k.kind= .l):
 wv P b live K (⟨ix,dst,.xop k xs,none,m,s,lk⟩::L) e H nx S=xl P (b+ix) (msk b m H) nx (DQ P b live K L dst m s e H S) k (xs.map (·.ev e)):=by
 unfold wv
 simp only[avc,l8,vI,aop,AOp.kind,hk,HX]
 rfl
def xlC (H:aA) (nx:Nat) (R:D→aA→Nat→Prop):Option (Nat×bA×Nat)→Prop
 |some (i,ob,k)=>R (.one (.c (.v (.int .i64 k)))) (H.set i ob) nx
 |none=>False
def xlZ (H:aA) (nx:Nat) (R:D→aA→Nat→Prop):Option (Nat×bA)→Prop
 |some (i,ob)=>R (.tup []) (H.set i ob) nx
 |none=>False
section
variable {P : Program} {id : Nat} {H : aA} {nx : Nat} {R : D → aA → Nat → Prop}
theorem aq8 {neg:Bool} {rows:List (List D1)}:xl P id H nx R (.qJ neg) [.one (.c (.isl rows))]=if rows.length=0 then ∀b,R (bD b) H nx else R (bD neg) H nx:=rfl
theorem aqM {neg:Bool} {n i off len cap:Nat}:xl P id H nx R (.qJ neg) [.one (.c (.osl n i off len cap))]=if cap=0 then ∀b,R (bD b) H nx else R (bD neg) H nx:=rfl
theorem apH {n:Nat} {d s:D}:xl P id H nx R (.copy n) [d,s]=xlC H nx R (VX H n d s):=by simp only[xl];cases VX H n d s<;>rfl
theorem ak1 {n:Nat} {z:List D1} {d:D}:xl P id H nx R (.clear n z) [d]=xlZ H nx R (MN H n z d):=by simp only[xl];cases MN H n z d<;>rfl
theorem aqP {f:FuncId} {ds:List D}:xl P id H nx R (.aaN f) ds=asG P f ds H nx R:=rfl
theorem alV {i k:Nat} {ob:bA}:xlC H nx R (some (i,ob,k))=R (.one (.c (.v (.int .i64 k)))) (H.set i ob) nx:=rfl
theorem ajZ {i:Nat} {ob:bA}:xlZ H nx R (some (i,ob))=R (.tup []) (H.set i ob) nx:=rfl
theorem ao3 {c:Prop} [Decidable c] {x:Option (Nat×bA)}:xlZ H nx R (if c then x else none)=(c∧xlZ H nx R x):=by split<;>rename_i h<;>simp[h,xlZ]
end
attribute [go_sem] aaO XK.kind aq8 aqM apH ak1 aqP alV ajZ ao3 amW VX MN apP WT G2 xq bD
theorem ajQ{r:List D1}{k:Nat}:ldR (some r) col k=if col+k≤r.length then some ((r.drop col).take k) else none:=rfl
theorem al0{id:Nat}{o:bA}{r:List D1}{ds:List D1}:stR id o (some r) row col ds=if col+ds.length≤r.length then some (id,⟨o.n,o.ext,o.rows.set row (iA r col ds)⟩) else none:=rfl
attribute [go_sem] ajQ al0 Int.toNat_natCast
def noF:Nat→Prop:=fun _=>False
section
variable {H G : aA} {F : Nat → Prop} {σ : Nat → Nat} {nx nh : Nat} {e e' : Env}
theorem bB {d:D1} (h:d.dQ=true):Cv1 H F σ nh d d:=.frz (.same d h)
theorem an2 {n id id' off len cap:Nat} (h:id'<nh) (hs:σ id'=id):Cv1 H F σ nh (.osl n id' off len cap) (.osl n id off len cap):=by subst hs;exact .osl n id' off len cap h
theorem afZ {n id id' row col:Nat} (h:id'<nh) (hs:σ id'=id):Cv1 H F σ nh (.ptr n id' row col) (.ptr n id row col):=by subst hs;exact .ptr n id' row col h
theorem aa6 {id id':Nat} (h:id'<nh) (hs:σ id'=id):Cv1 H F σ nh (.omap id') (.omap id):=by subst hs;exact .omap id' h
theorem afQ {n id id' off off' n':Nat}:Cv1 H F σ nh (.osl n id off 0 0) (.osl n' id' off' 0 0):=.VS n id id' off off' n'
theorem eP:CvL H F σ nh [] []:=⟨rfl,fun i x y h=>by simp at h⟩
theorem aH {x y:D1} {xs ys:List D1} (h1:Cv1 H F σ nh x y) (h2:CvL H F σ nh xs ys):CvL H F σ nh (x::xs) (y::ys):=by
 refine⟨by simp[h2.1],fun i a b ha hb=> ?_⟩
 match i with
 |0=>simp at ha hb;subst ha;subst hb;exact h1
 |i+1=>exact h2.2 i a b (by simpa using ha) (by simpa using hb)
theorem GW {xs:List D1} (h: ∀x∈xs,x.dQ=true):CvL H F σ nh xs xs:=by refine⟨rfl,fun i a b ha hb=> ?_⟩;rw[ha] at hb;cases hb;exact bB (h a (s3 ha))
theorem bS {o:bA} (h: ∀r∈o.rows,∀x∈r,x.dQ=true):CvO H F σ nh o o:=⟨rfl,rfl,m5 _,fun _ h=>h,fun i r hr=>⟨r,hr,GW (h r (s3 hr))⟩⟩
theorem aP {n m:Nat} {r r':List D1} (h:CvL H F σ nh r' r):CvO H F σ nh ⟨n,m,[r']⟩ ⟨n,m,[r]⟩:=by
 refine⟨rfl,rfl,m5 _,fun _ h=>(by cases h),fun i a ha=> ?_⟩
 match i with
 |0=>simp at ha;subst ha;exact⟨r,rfl,h⟩
 |i+1=>simp at ha
theorem PS:CvH H F σ nh .nil:=⟨fun id o h=>(by cases h),fun i j o o' h=>(by cases h)⟩
theorem anZ {t:Nat} {d:D} (h:CvE H F σ nh e' e) (hd:CvD H F σ nh d (e t)):CvE H F σ nh (e'.set t d) e:=by
 intro u;simp only[Env.set];split;·rename_i hu;subst hu;exact hd
 ·exact h u
theorem apS {x y:D1} (h:Cv1 H F σ nh x y):CvD H F σ nh (.one (.c x)) (.one (.c y)):=h
theorem lY {xs ys:List D1} (h:CvL H F σ nh xs ys):CvD H F σ nh (.one (.agg xs)) (.one (.agg ys)):=h
theorem agI {d:D} (h:CvD H noF id nx d d):CvR nx d H nx d .nil noF id:=⟨m5 _,fun _ _=>rfl,h,PS⟩
theorem ajE {d:D} (h:d.plain=true):CvD H F σ nh d d:=by
 have hV: ∀x:DV,x.cells.all D1.plain=true→CvV H F σ nh x x:=by
  intro x hx;have h1: ∀y∈x.cells,y.dQ=true:=fun y hy=>by have:=w2.1 hx y hy;cases y<;>simp_all [D1.plain,D1.dQ]
  cases x with
  |c y=>exact bB (h1 y (by simp[DV.cells]))
  |agg ys=>exact GW h1
 cases d with
 |one x=>exact hV x (by cases x<;>simpa [D.plain,DV.cells] using h)
 |tup xs=>refine⟨rfl,fun i a b ha hb=> ?_⟩;rw[ha] at hb;cases hb;simp only[D.plain,w2] at h;exact hV a (w2.2 (h a (s3 ha)))
 |dead=>trivial
theorem aZ {Q:AQ} {rs:List aW} {R:D→Prop} (hQ: ∀ex e2 H2 nx2 d nh d2 H3 F σ,ex=AEx.normal∨ex=AEx.ret→yT H2 e2 rs=some d→CvR nx d H2 nh d2 H3 F σ→(d2.plain=true∧R d2)→Q ex e2 H2 nx2)
 {e2:Env} {H2:aA} {nx2:Nat} (d:D) (h1:yT H2 e2 rs=some d) (h2:d.plain=true) (h3:R d):Q .ret e2 H2 nx2:=
 hQ _ _ _ _ d nx d .nil noF id (.inr rfl) h1 (agI (ajE h2)) ⟨h2,h3⟩
end
end Go.AM
