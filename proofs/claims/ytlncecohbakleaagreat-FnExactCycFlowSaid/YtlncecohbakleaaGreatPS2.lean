/- Texts laid together by a program: rules, contracts and the walk that leads to the law. -/
import Derived.Test.YtlncecohbakleaaGreatPS1
import Derived.Deep.LoopGhost
set_option linter.unusedVariables false
set_option linter.unusedSimpArgs false
set_option linter.unusedSectionVars false
set_option maxRecDepth 100000
set_option maxHeartbeats 8000000
namespace Go.AM
open Go.RowKit
section
variable{P:Program}{c c':Cf}{H H':aA}{T:Nat}{e:Env}{a:Act}{b:Nat}
theorem agH{M:Nat->Prop}[DecidablePred M]{Hm:aA}(hs:St c H)(hm: ∀i,Hm i=if M i then none else H i)(t:St c' H')(b:Step c Hm c' H'):
 St c' (fun i=>if M i then H i else H' i)/\Step c H c' (fun i=>if M i then H i else H' i):=by
 have q: ∀i o,Hm i=some o->H i=some o:=by
  intro i o h;rw[hm] at h;split at h;·simp at h
  ·exact h
 have v: ∀k,uG c Hm k->uG c H k:=fun k ⟨i,o,x,y,z⟩=>⟨i,o,q i o x,y,z⟩
 have m: ∀i o,M i->H i=some o->0<o.ext->¬uG c Hm (c.ρ i).1:=by
  rintro i o bPA l he ⟨j,o',x,y,z⟩;have n:j≠i:=by rintro rfl;rw[hm,if_pos bPA] at x;simp at x
  exact hs.sep j i o' o (q j o' x) l y he n z
 have p: ∀i o,H i=some o->0<o.ext->(c.ρ i).1<c.w.heap.size:=by intro i o l he;exact(hs.blk i o l he).lt
 have a: ∀i o,H i=some o->c'.ρ i=c.ρ i:=fun i o l=>b.ρ i (hs.named i o l)
 have e: ∀i o,M i->H i=some o->0<o.ext->c'.w.heap[(c.ρ i).1]?=c.w.heap[(c.ρ i).1]?:=fun i o bPA l he=>b.frame _ (p i o l he) (m i o bPA l he)
 have B: ∀i o (k:Nat) r,H i=some o->o.rows[k]?=some r->0<o.ext:=by intro i o k r l hr;have:=(hs.wf i o l).1;have D:k<o.rows.length:=(m3.1 hr).1;omega
 have f:Step c H c' (fun i=>if M i then H i else H' i):={
  ρ:=b.ρ
  N:=b.N
  I:=b.I
  I':=fun k D=>(b.I' k D).imp (fun h=>h) (fun h=>h.imp (v k) fun h=>h)
  size:=b.size
  os:=b.os
  tape:=b.tape
  output:=b.output
  frame:=fun k D E=>b.frame k D fun h=>E (v k h)
  own:=by
   rintro k ⟨i,o,x,y,z⟩;simp only at x;split at x;·rename_i bPA;left;exact⟨i,o,x,y,by rw[a i o x] at z;exact z⟩
   ·exact(b.own k ⟨i,o,x,y,z⟩).imp (v k) fun h=>h}
 have C: ∀d x,Rel c d x->Rel c' d x:=fun d x h=>h.step f hs
 refine⟨?_,f⟩
 refine {named:= ?_,wf:= ?_,blk:= ?_,cells:= ?_,sep:= ?_,imm:= ?_,old:=t.old}
 ·intro i o x;split at x;·exact b.N i (hs.named i o x)
  ·exact t.named i o x
 ·intro i o x;split at x;·exact hs.wf i o x
  ·exact t.wf i o x
 ·intro i o x he;split at x;·rename_i bPA;rw[a i o x,e i o bPA x he];exact hs.blk i o x he
  ·exact t.blk i o x he
 ·intro i o k j r d x hr F;split at x;·rename_i bPA;obtain⟨u,G,k9⟩:=hs.cells i o k j r d x hr F;refine⟨u,?_,C _ _ k9⟩;rw[a i o x,<-G];exact World.cell?_of_block (w:=c.w) (e i o bPA x (B i o k r x hr))
  ·exact t.cells i o k j r d x hr F
 ·intro i A o o' x s he g n;split at x<;>split at s;·rw[a i o x,a A o' s];exact hs.sep i A o o' x s he g n
  ·rename_i bPA _;intro heq;rw[a i o x] at heq;rcases b.own _ ⟨A,o',s,g,heq.symm⟩ with h|h;·exact m i o bPA x he h
   ·have:=p i o x he;omega
  ·rename_i _ bPA;intro heq;rw[a A o' s] at heq;rcases b.own _ ⟨i,o,x,he,heq⟩ with h|h;·exact m A o' bPA s g h
   ·have:=p A o' s g;omega
  ·exact t.sep i A o o' x s he g n
 ·intro i o x he;split at x
  ·rename_i bPA;rw[a i o x];intro bOV;rcases b.I' _ bOV with h|h|h;·exact hs.imm i o x he h
   ·exact m i o bPA x he h
   ·have:=p i o x he;omega
  ·exact t.imm i o x he
theorem ER.put(hs:St c H)(b:Step c H c' H')(he:ER c T e a){dst:Option Nat}(i: ∀t,dst=some t->t<T){d:D}{v:Value}(hr:fD c' d v):ER c' T (e.put dst d) (a.put dst v):=by
 obtain⟨f,g,h⟩:=he
 cases dst with
 |none=>exact⟨f,g,fun t=>(h t).step b hs⟩
 |some t=>
  refine⟨by simp[Act.put,f],g,fun u=> ?_⟩;simp only[Env.put,Env.set,Act.put];by_cases hu:u=t;·subst hu;rw[if_pos rfl];have:u<a.tmps.size:=(by rw[f];exact i u rfl);simpa [this] using hr
  ·rw[if_neg hu];have:(a.tmps.setIfInBounds t v).getD u undef=a.tmps.getD u undef:=(by simp[Z2 (Ne.symm hu)]);rw[this];exact(h u).step b hs
structure RS(T b R:Nat)(c0:Cf)(H0:aA)(L:List aY)(c:Cf)(e:Env)(H:aA)(nx:Nat)(a:Act):Prop where
 st:St c H
 er:ER c T e a
 step:Step c0 H0 c H
 N: ∀i,c.N i->c0.N i\/(b<=i/\i<nx/\ ∀o∈L,i≠b+o.ix)
 nx:b+R<=nx
structure Tr(P:Program)(T R:Nat)(ops:Array Oper)(o:aY):Prop where
 ex: ∃ro,ops[o.ix]?=some ro/\LC P ro.op=o.op/\ro.dst=o.dst/\
  ((ro.guard=none/\o.guard=none)\/ ∃j w rj t,ro.guard=some (j,w)/\ops[j]?=some rj/\rj.dst=some t/\o.guard=some (t,w)/\t<T)
 dst: ∀t,o.dst=some t->t<T
 ix:o.ix<R
theorem V2{ops:Array Oper}{ro:Oper}{o:aY}(he:ER c T e a)
 (p:(ro.guard=none/\o.guard=none)\/ ∃j w i t,ro.guard=some (j,w)/\ops[j]?=some i/\i.dst=some t/\o.guard=some (t,w)/\t<T) {x:Bool} (h:vI o.guard e=some x):
 Region.wanted ro (yielded ops a.tmps)=x:=by
 rcases p with⟨f,g⟩|⟨j,w,i,t,f,g,n,k9,l1⟩
 ·rw[g] at h;simp[vI] at h;simp[Region.wanted,f,h]
 ·rw[k9] at h;simp only[vI] at h;split at h;·rename_i y k;simp only[Option.some.injEq] at h;have hr:=he.2.2 t;rw[k] at hr;have d:=x6 (c:=c) hr;have l:t<a.tmps.size:=(by rw[he.1];exact l1);have b:yielded ops a.tmps j=some y:=(by simp only[yielded,g,n,Option.bind_some];simp[l] at d ⊢;rw[d]);simp only[Region.wanted,f,b,<-h];cases y<;>cases w<;>rfl
  ·rename_i k;simp only[Option.some.injEq] at h;have hr:=he.2.2 t;rw[k] at hr;obtain⟨vs,d,hl,_⟩:=hr;have m:vs=[]:=CE hl;subst m;have l:t<a.tmps.size:=(by rw[he.1];exact l1);have b:yielded ops a.tmps j=none:=(by simp only[yielded,g,n,Option.bind_some];simp[l] at d ⊢;rw[d]);simp only[Region.wanted,f,b,<-h];rfl
  ·simp at h
theorem exec{ops:Array Oper}{o:aY}{L:List aY}{R:Nat}{c0:Cf}{H0:aA}{nx:Nat}{S:dJ}{K:D->aA->Nat->dJ->Prop}(f:Tr P T R ops o)(p: ∀i,c0.N i->i<b)(q: ∀o'∈L,o'.ix≠o.ix)(A: ∀o'∈L,o'.ix<R)
 (hs:RS T b R c0 H0 (o::L) c e H nx a) (h:l8 P b o e H nx S K) {s:Act->World->Prop} {G:Exit->Act->World->Prop}
 (t: ∀d H' nx' S' c' F,RS T b R c0 H0 L c' (e.put o.dst d) H' nx' F->K d H' nx' S'->s F c'.w):wpOp P ops G o.ix s a c.w:=by
 obtain⟨ro,I,B,u,k9⟩:=f.ex
 have r: ¬c.N (b+o.ix):=by
  intro l1;rcases hs.N _ l1 with bOW|⟨_,_,bOW⟩
  ·have:=p _ bOW;omega
  ·exact bOW o (by simp) rfl
 have l: ∀i,c.N i->c0.N i\/(b<=i/\i<nx/\ ∀o'∈L,i≠b+o'.ix):=fun i hi=>(hs.N i hi).imp (fun h=>h) fun⟨x,y,z⟩=>⟨x,y,fun o' g=>z o' (by simp[g])⟩
 unfold wpOp
 rw[I]
 simp only
 unfold l8 at h
 split at h
 ·rename_i C;rw[if_pos (V2 hs.er k9 C)];left;unfold aop at h;split at h;·obtain⟨d,l1,bOW⟩:=h;have m:=hs.st.forget (H':=msk b o.mask H) (fun i o' h=>by unfold msk at h;split at h<;>simp_all);obtain⟨v,j,hr⟩:=ahT (P:=P) (o:=ro) m hs.er (by rw[B];exact l1);unfold Oper.wp;rw[j];show s _ _;rw[u];exact t d H nx _ c _ ⟨hs.st,hs.er.put hs.st (Step.refl c H) f.dst hr,hs.step,l,hs.nx⟩ bOW
  ·obtain⟨d,Q,l1,bOW⟩:=h;obtain⟨v,c',j,E,k,hr,l2⟩:=ahM (P:=P) (o:=ro) hs.st hs.er r (by rw[B];exact l1);unfold Oper.wp;rw[j];show s _ _;rw[u];refine t d _ nx _ c' _ ⟨E,hs.er.put hs.st k f.dst hr,hs.step.trans k,fun i hi=> ?_,hs.nx⟩ bOW;rcases(l2 i).1 hi with rfl|hi;·refine .inr ⟨by omega,by have:=hs.nx;have:=f.ix;omega,fun o' g bO2=>q o' g (by omega)⟩
   ·exact l i hi
  ·have m:=hs.st.forget (H':=msk b o.mask H) (fun i o' h=>by unfold msk at h;split at h<;>simp_all);refine ajX (P:=P) (o:=ro) m hs.er (nx:=nx) (fun i hi=> ?_) r (by rw[B];exact h) fun d v c' H' nx' J O bPC bPD bPE bPF=> ?_
   ·rcases hs.N i hi with l1|l1;·have:=p i l1;have:=hs.nx;omega
    ·exact l1.2.1
   ·rw[u];have n:=agH (M:=fun i=>i∈o.mask.map (b+ ·)) (Hm:=msk b o.mask H) hs.st (fun i=>rfl) J O;refine t d _ nx' _ c' _ ⟨n.1,hs.er.put hs.st n.2 f.dst bPC,hs.step.trans n.2,fun i hi=> ?_,by have:=hs.nx;omega⟩ bPF.2;rcases bPD i hi with l1|rfl|l1;·exact(l i l1).imp (fun h=>h) fun⟨x,y,z⟩=>⟨x,by omega,z⟩
    ·exact .inr ⟨by omega,by have:=hs.nx;have:=f.ix;omega,fun o' g bO2=>q o' g (by omega)⟩
    ·exact .inr ⟨by have:=hs.nx;omega,l1.2,fun o' g bO2=>by have:=A o' g;have:=hs.nx;omega⟩
 ·rename_i C;rw[if_neg (by rw[V2 hs.er k9 C];simp),u];exact t (.tup []) H nx _ c _ ⟨hs.st,hs.er.put hs.st (Step.refl c H) f.dst ⟨[],rfl,rfl,by simp⟩,hs.step,l,hs.nx⟩ h
 ·exact h.elim
inductive Anc(ops:Array Oper):Nat->Nat->Prop where
 |base {i j:Nat} {ro:Oper} {ed:Edge} (h:ops[i]?=some ro) (he:ed∈ro.after) (hb:Region.binds .any ed=true) (hj:ed.on=j):Anc ops i j
 |step {i k j:Nat} {ro:Oper} {ed:Edge} (h:ops[i]?=some ro) (he:ed∈ro.after) (hb:Region.binds .any ed=true) (hk:ed.on=k) (hr:Anc ops k j):Anc ops i j
def aqV(ms:List Nat)(es:List Edge):Nat:=es.foldl (fun s a=>if Region.binds .any a then s|||2^a.on|||ms.getD a.on 0 else s) 0
def HC:List Oper->List Nat->List Nat
 | [],ms=>ms
 |o::os,ms=>HC os (ms++[aqV ms o.after.toList])
theorem NM{ms:List Nat}{j:Nat}: ∀(es:List Edge) (s:Nat),(es.foldl (fun s b=>if Region.binds .any b then s|||2^b.on|||ms.getD b.on 0 else s) s).testBit j=true->
 s.testBit j=true\/ ∃b∈es,Region.binds .any b=true/\(b.on=j\/(ms.getD b.on 0).testBit j=true)
 | [],s,h=>.inl h
 |b::es,s,h=>by
  simp only[List.foldl_cons] at h;rcases NM es _ h with a|⟨c,a,e,f⟩
  ·split at a
   ·rename_i d;simp only[Nat.testBit_or,CB] at a;rcases a with(a|a)|a;·exact .inl a
    ·rw[Nat.testBit_two_pow] at a;exact .inr ⟨b,by simp,d,.inl (by simpa using a)⟩
    ·exact .inr ⟨b,by simp,d,.inr a⟩
   ·exact .inl a
  ·exact .inr ⟨c,by simp[a],e,f⟩
theorem J1{ops:Array Oper}: ∀(os:List Oper) (ms:List Nat),(∀k:Nat,os[k]?=ops[ms.length+k]?)->(∀i j:Nat,(ms.getD i 0).testBit j=true->Anc ops i j)->
 ∀i j:Nat,((HC os ms).getD i 0).testBit j=true->Anc ops i j
 | [],ms,_,h=>h
 |o::os,ms,f,h=>by
  simp only[HC];refine J1 os _ (fun k=> ?_) (fun i j a=> ?_);·have:=f (k+1);simp only[List.getElem?_cons_succ,t2,List.length_singleton] at this ⊢;rw[this];congr 1;omega
  ·by_cases hi:i<ms.length;·rw[KL,o5,if_pos hi,<-KL] at a;exact h i j a
   ·by_cases d:i=ms.length
    ·subst d;rw[KL,o5,if_neg hi] at a;simp at a;have b:ops[ms.length]?=some o:=(by have:=f 0;simpa using this.symm);rcases NM (ms:=ms) o.after.toList 0 a with e|⟨l,e,g,c⟩
     ·simp at e
     ·have hm:l∈o.after:=(by simpa using e);rcases c with c|c;·exact .base b hm g c
      ·exact .step b hm g rfl (h _ _ c)
    ·rw[KL,o5,if_neg hi] at a;rw[Z3 (by simp;omega)] at a;simp at a
def akP(ops:Array Oper)(a:Array Bool):Prop:=∀(i:Nat) (ro:Oper) (b:Edge),a.getD i false=true->ops[i]?=some ro->b∈ro.after->Region.binds .any b=true->a.getD b.on false=true
theorem aeT{ops:Array Oper}{a:Array Bool}(hc:akP ops a){i j:Nat}(h:Anc ops i j)(hi: ∀(ro:Oper) (b:Edge),ops[i]?=some ro->b∈ro.after->Region.binds .any b=true->a.getD b.on false=true):
 a.getD j false=true:=by
 induction h with
 |base h he c d=>subst d;exact hi _ _ h he c
 |step h he c e hr f=>subst e;exact f fun ro b g k l=>hc _ ro b (hi _ _ h he c) g k l
end
def J3{α:Type}(f:α->α->Bool):List α->Bool
 | []=>true
 |x::xs=>xs.all (f x)&&J3 f xs
theorem IL{α:Type}{f:α->α->Bool}: ∀{l:List α},J3 f l=true->l.Pairwise (fun x y=>f x y=true)
 | [],_=>.nil
 |x::xs,h=>by simp only[J3,q7,w2] at h;exact .cons h.1 (IL h.2)
def afJ(ops:Array Oper)(T:Nat):Option (Nat×Bool)->Option (Option (Nat×Bool))
 |none=>some none
 |some (j,w)=>match ops[j]? with
  |some a=>match a.dst with
   |some t=>if t<T then some (some (t,w)) else none
   |none=>none
  |none=>none
def apT(T:Nat):Option Nat->Bool
 |none=>true
 |some t=>decide (t<T)
def adF(P:Program)(T:Nat)(ops:Array Oper)(i:Nat)(mask amN:List Nat)(look:Bool):Option aY:=
 match ops[i]? with
 |some ro=>match afJ ops T ro.guard with
  |some g=>if apT T ro.dst&&(!look||(LC P ro.op).kind.xP) then some ⟨i,ro.dst,LC P ro.op,g,mask,amN,look⟩ else none
  |none=>none
 |none=>none
def LD(P:Program)(T:Nat)(ops:Array Oper):List (Nat×List Nat×List Nat×Bool)->Option (List aY)
 | []=>some []
 | (i,m,s,k)::r=>match adF P T ops i m s k,LD P T ops r with
   |some o,some l=>some (o::l)
   |_,_=>none
def AG(ops:Array Oper)(a:List Nat)(l o:aY):Bool:=
 l.ix != o.ix&&((a.getD o.ix 0).testBit l.ix||comm l o)&&MA l o&&
 (match ops[l.ix]? with
  |some ro=>ro.after.toList.all fun b=> !Region.binds .any b||b.on != o.ix
  |none=>false)
def X3(ops:Array Oper)(l:aY):Bool:=
 match ops[l.ix]? with
 |some ro=>ro.after.toList.all fun a=> !Region.binds .any a||(a.on != l.ix&&decide (a.on<ops.size))
 |none=>false
def ap7(ops:Array Oper)(L:List aY):Bool:=L.length==ops.size&&L.all (X3 ops)&&J3 (AG ops (HC ops.toList [])) L
def YS:List Nat->List Nat->Bool
 | [],[]=>true
 |x::xs,y::ys=>x==y&&YS xs ys
 |_,_=>false
def WD(n:Nat):List (Nat×List Nat×List Nat×Bool):=(List.range n).map fun i=>(i,[],[],false)
def SO(P:Program)(T:Nat)(ops:Array Oper)(draw:Bool)(cert:List (Nat×List Nat×List Nat×Bool)):Option (List aY):=
 match LD P T ops (if draw then cert else WD ops.size) with
 |some L=>if draw then (if ap7 ops L then some L else none) else some L
 |none=>none
section
variable{P:Program}{c c':Cf}{H H':aA}{T:Nat}{e:Env}{a:Act}{b:Nat}{ops:Array Oper}
theorem abF{i:Nat}{m s:List Nat}{k:Bool}{o:aY}(h:adF P T ops i m s k=some o):o.ix=i/\Tr P T ops.size ops o/\(o.look=true->o.op.kind.xP=true):=by
 unfold adF at h;split at h
 ·rename_i ro b;split at h
  ·rename_i g a;split at h
   ·rename_i d;simp only[Option.some.injEq] at h;subst h;simp only[q7,CB,CA] at d;refine⟨rfl,⟨⟨ro,b,rfl,rfl,?_⟩,fun t c=> ?_,(C4.1 b).1⟩,fun hl=> ?_⟩
    ·unfold afJ at a;split at a;·rename_i e;simp only[Option.some.injEq] at a;exact .inl ⟨e,a.symm⟩
     ·rename_i j w e;split at a
      ·rename_i l n;split at a
       ·rename_i t c;split at a;·rename_i f;simp only[Option.some.injEq] at a;exact .inr ⟨j,w,l,t,e,n,c,a.symm,f⟩
        ·simp at a
       ·simp at a
      ·simp at a
    ·have:=d.1;simp only at c;rw[c] at this;simpa [apT] using this
    ·rcases d.2 with h|h;·simp only at hl;rw[hl] at h;cases h
     ·exact h
   ·simp at h
  ·simp at h
 ·simp at h
theorem LK: ∀{b:List (Nat×List Nat×List Nat×Bool)} {L:List aY},LD P T ops b=some L->
 L.map (·.ix)=b.map (·.1)/\ ∀o∈L,Tr P T ops.size ops o/\(o.look=true->o.op.kind.xP=true)
 | [],L,h=>by simp only[LD,Option.some.injEq] at h;subst h;simp
 | (i,m,s,k)::r,L,h=>by
   simp only[LD] at h;split at h
   ·rename_i o l c d;simp only[Option.some.injEq] at h;subst h;obtain⟨e,f⟩:=LK d;obtain⟨g,j,n⟩:=abF c;refine⟨by simp[e,g],fun o' a=> ?_⟩;rcases t3.1 a with rfl|h;·exact⟨j,n⟩
    ·exact f o' h
   ·simp at h
theorem arE{H:aA}{nx:Nat}{o:aY}{S:dJ}{K:D->aA->Nat->dJ->Prop}(h:l8 P b o e H nx S K):
 l8 P b o e H nx S fun d H' nx' S'=>K d H' nx' S'/\ ∀p∈S',p∈S\/ ∃d,p∈entry b o e d:=by
 unfold l8 at*
 split at h
 ·unfold aop at*;split at h;·obtain⟨d,a,c⟩:=h;exact⟨d,a,c,fun p hp=>(o3.1 hp).elim (fun h=>.inr ⟨d,h⟩) .inl⟩
  ·obtain⟨d,f,a,c⟩:=h;exact⟨d,f,a,c,fun p hp=>.inl hp⟩
  ·exact wX h fun d H' nx' _ a=>⟨a.1,a.2,fun p hp=>.inl hp⟩
 ·exact⟨h,fun p hp=>.inl hp⟩
 ·exact h
theorem VY{c0:Cf}{H0:aA}{Q:Env->aA->Nat->Prop}{l:Exit->Act->World->Prop}(k: ∀i,c0.N i->i<b)
 (m: ∀c e H nx a,RS T b ops.size c0 H0 [] c e H nx a->Q e H nx->l .normal a c.w): ∀(L:List aY) (c:Cf) (e:Env) (H:aA) (nx:Nat) (a:Act) (S:dJ),
 (∀o∈L,Tr P T ops.size ops o)->(L.map (·.ix)).Nodup->RS T b ops.size c0 H0 L c e H nx a->avc P b Q L e H nx S->wpOps P ops l (L.map (·.ix)) a c.w
 | [],c,e,H,nx,a,S,_,_,hs,h=>m c e H nx a hs h
 |o::L,c,e,H,nx,a,S,g,j,hs,h=>by simp only[n3,bq8] at j;simp only[n3];rw[wpOps_cons];simp only[avc] at h;refine exec (g o (by simp)) k (fun o' f heq=>j.1 (heq▸CF.2 ⟨o',f,rfl⟩)) (fun o' f=>(g o' (by simp[f])).ix) hs h fun d H' nx' S' c' n p q=> ?_;exact VY k m L c' _ H' nx' n S' (fun o' f=>g o' (by simp[f])) j.2 p q
structure Inv(ops:Array Oper)(L:List aY)(listed:Array Bool):Prop where
 size:listed.size=ops.size
 mem: ∀i,i<ops.size->(listed.getD i false=false↔∃o∈L,o.ix=i)
 closed:akP ops listed
theorem aaJ{a:Array Bool}{i j:Nat}(hi:i<a.size):(a.setIfInBounds i true).getD j false=if j=i then true else a.getD j false:=by
 by_cases b:j=i;·subst b;simp[hi]
 ·rw[if_neg b];simp[Z2 (Ne.symm b)]
theorem aiF{c0:Cf}{H0:aA}{Q:Env->aA->Nat->Prop}{Qr:Exit->Act->World->Prop}(aj: ∀i,c0.N i->i<b)
 (hQ: ∀c e H nx a,RS T b ops.size c0 H0 [] c e H nx a->Q e H nx->Qr .normal a c.w): ∀(fuel:Nat) (L:List aY) (f:Array Bool) (c:Cf) (e:Env) (H:aA) (nx:Nat) (a:Act) (S:dJ),L.length<=fuel->
 (∀o∈L,Tr P T ops.size ops o/\(o.look=true->o.op.kind.xP=true)/\X3 ops o=true)->L.Pairwise (fun x y=>AG ops (HC ops.toList []) x y=true)->Inv ops L f->
 RS T b ops.size c0 H0 L c e H nx a->WG b S L->avc P b Q L e H nx S->wpAny P .any ops Qr fuel f a c.w:=by
 have J: ∀(L:List aY) (f:Array Bool),(∀o∈L,Tr P T ops.size ops o/\(o.look=true->o.op.kind.xP=true)/\X3 ops o=true)->L.Pairwise (fun x y=>AG ops (HC ops.toList []) x y=true)->
  Inv ops L f->Region.ready .any ops f=[]->L=[]:=by
  intro L f n hp hinv hr
  match L,n,hp,hinv with
  | [],_,_,_=>rfl
  |l::L,n,hp,hinv=>
   exfalso;obtain⟨⟨⟨ro,t,_⟩,_,X⟩,_,B⟩:=n l (by simp);have ak:f.getD l.ix false=false:=(hinv.mem l.ix X).2 ⟨l,by simp,rfl⟩
   have R:l.ix∈Region.ready .any ops f:=by
    unfold Region.ready;simp only[List.mem_filter,C2];refine⟨X,?_⟩;have s:l.ix<f.size:=(by rw[hinv.size];exact X);have K:f.getD l.ix true=false:=(by have:f.getD l.ix false=f[l.ix]:=(by simp[s]);simp[s];rw[<-this];exact ak);simp only[K,Bool.not_false,t,Option.map_some,Option.getD_some,Bool.true_and,KN];intro u C;by_cases hb:Region.binds .any u=true
    ·simp only[hb,Z1,Bool.false_or];simp only[X3,t,w2,CB,CA,q7,bne_iff_ne,decide_eq_true_eq] at B;rcases B u (by simpa using C) with A|⟨A,h3⟩
     ·rw[hb] at A;cases A
     ·cases hl:f.getD u.on false with
      |true=>rfl
      |false=>
       obtain⟨o,Y,g⟩:=(hinv.mem u.on h3).1 hl;rcases t3.1 Y with rfl|Y;·exact absurd g.symm A
       ·have k9:=(G0.1 hp).1 o Y;simp only[AG,t,q7,w2,CB,CA,bne_iff_ne] at k9;rcases k9.2 u (by simpa using C) with l1|l1;·rw[hb] at l1;cases l1
        ·exact absurd g.symm l1
    ·simp[hb]
   rw[hr] at R;simp at R
 intro fuel
 induction fuel with
 |zero=>
  intro L f c e H nx a S hlen n hp hinv hs hf h;have bPG:L=[]:=CE (by omega);subst bPG;refine⟨?_,hQ c e H nx a hs h⟩;unfold Region.ready;rw[List.filter_eq_nil_iff];intro i hi;simp only[C2] at hi
  have:f.getD i true=true:=by
   have s:i<f.size:=by rw[hinv.size];exact hi
   cases hl:f.getD i false with
   |true=>simp[s] at hl ⊢;exact hl
   |false=>obtain⟨o,Y,_⟩:=(hinv.mem i hi).1 hl;simp at Y
  simp[this]
 |succ fuel ih=>
  intro L f c e H nx a S hlen n hp hinv hs hf h;refine⟨fun hr=> ?_,fun i hi=> ?_⟩;·have bPG:=J L f n hp hinv hr;subst bPG;exact hQ c e H nx a hs h
  ·unfold Region.ready at hi;simp only[List.mem_filter,C2,q7,CA] at hi;obtain⟨U,V,D⟩:=hi;have s:i<f.size:=(by rw[hinv.size];exact U);have Z:f.getD i false=false:=(by simp[s] at V ⊢;exact V);obtain⟨o,Y,g⟩:=(hinv.mem i U).1 Z;obtain⟨pre,post,rfl⟩:=List.append_of_mem Y;obtain⟨⟨⟨ro,t,_⟩,_⟩,_⟩:=n o (by simp);rw[g] at t;simp only[t,Option.map_some,Option.getD_some,KN,CB,CA] at D
   have af: ∀(v:Oper) (u:Edge),ops[i]?=some v->u∈v.after->Region.binds .any u=true->f.getD u.on false=true:=by
    intro v u K A h3;rw[t] at K;cases K;rcases D u A with k9|k9;·rw[h3] at k9;cases k9
    ·exact k9
   have ab:=brM.1 hp;have ag:=G0.1 ab.2.1
   have E: ∀l∈pre,Comm l o:=by
    intro l hl;have K:=ab.2.2 l hl o (by simp);simp only[AG,q7,CB] at K;rcases K.1.1.2 with A|A;·exfalso;have W:=J1 (ops:=ops) ops.toList [] (fun k=>by simp) (fun i j al=>by simp at al) o.ix l.ix A;rw[g] at W;have an:=aeT hinv.closed W af;have ad:=(n l (by simp[hl])).1.ix;have:=(hinv.mem l.ix ad).2 ⟨l,by simp[hl],rfl⟩;rw[an] at this;cases this
    ·exact agL A
   have M:(pre++o::post).Pairwise (fun q l=>MA q l=true):=hp.imp fun {x y} ah=>by simp only[AG,q7] at ah;exact ah.1.2
   have F:=pull pre e H nx S E M hf h;simp only[avc] at F;have O:=arE F
   have ai: ∀l∈pre++post,l.ix≠o.ix:=by
    intro l hl heq;rcases o3.1 hl with hl|hl;·have:=ab.2.2 l hl o (by simp);simp[AG,heq] at this
    ·have:=ag.1 l hl;simp[AG,heq] at this
   rw[<-g]
   have ao:RS T b ops.size c0 H0 (o::(pre++post)) c e H nx a:=⟨hs.st,hs.er,hs.step,fun i hi=>(hs.N i hi).imp (fun h=>h) fun⟨x,y,z⟩=>⟨x,y,fun o' m=>z o' (by
    simp only[t3,o3] at m ⊢
    rcases m with h|h|h
    ·exact .inr (.inl h)
    ·exact .inl h
    ·exact .inr (.inr h))⟩,hs.nx⟩
   have r:(pre++post).Sublist (pre++o::post):=(by simp);refine exec (n o (by simp)).1 aj ai (fun o' m=>(n o' (r.subset m)).1.ix) ao O fun d H' nx' S' c' a' K ⟨A,h3⟩=> ?_;refine ih (pre++post) _ c' _ H' nx' a' S' (by simp at hlen ⊢;omega) (fun o' m=>n o' (r.subset m)) (hp.sublist r) ?_ K ?_ A
   ·refine⟨by simpa using hinv.size,fun j hj=> ?_,?_⟩
    ·rw[aaJ (by rw[g];exact s)];split;·rename_i ae;subst ae;refine⟨(fun h=>by cases h),fun⟨o',m,heq⟩=>absurd heq (ai o' m)⟩
     ·rename_i ae;rw[hinv.mem j hj];constructor
      ·rintro⟨o',m,rfl⟩;refine⟨o',?_,rfl⟩;simp only[o3,t3] at m ⊢;rcases m with h|h|h;·exact .inl h
       ·subst h;exact absurd rfl ae
       ·exact .inr h
      ·rintro⟨o',m,rfl⟩;exact⟨o',r.subset m,rfl⟩
    ·intro k v u hk G C I;rw[aaJ (by rw[g];exact s)] at hk ⊢;split;·rfl
     ·split at hk;·rename_i aq;subst aq;rw[g] at G;exact af v u G C I
      ·exact hinv.closed k v u hk G C I
   ·intro l hl hk p ar H1 ob hh;rcases h3 p ar with k9|⟨d',k9⟩
    ·exact hf l (r.subset hl) hk p k9 H1 ob hh
    ·refine QS ?_ hk p k9 H1 ob hh;rcases o3.1 hl with hl|hl
     ·have hc:=E l hl;simp only[MA,CB,CA,boI,Y9]
      cases aa:o.look with
      |false=>exact .inl (.inl rfl)
      |true=>right;exact hc.mo (by rw[hk];rfl) (.inl ((n o (by simp)).2.1 aa))
     ·have:=ag.1 l hl;simp only[AG,q7] at this;exact this.1.2
end
def D1.dQ:D1->Bool
 | .v _| .isl _| .fQ _| .MY _=>true
 |_=>false
inductive Frz(H:aA)(F:Nat->Prop):D1->D1->Prop where
 |same (d:D1) (h:d.dQ=true):Frz H F d d
 |nil (n id off:Nat):Frz H F (.isl []) (.osl n id off 0 0)
 |frz (rows:List (List D1)) (n id off cap:Nat) (o:bA) (f:Nat->Nat->D1) (hF:F id) (ho:H id=some o) (hn:o.n=n) (hlen:off+rows.length<=o.rows.length) (hcap:rows.length<=cap)
  (hr: ∀(i:Nat) (r':List D1),rows[i]?=some r'->r'.length=n)
  (hf: ∀(i j:Nat) (r':List D1) (d':D1),rows[i]?=some r'->r'[j]?=some d'->∃r,o.rows[off+i]?=some r/\r[j]?=some (f i j))
  (hd: ∀(i j:Nat) (r':List D1) (d':D1),rows[i]?=some r'->r'[j]?=some d'->Frz H F d' (f i j)):Frz H F (.isl rows) (.osl n id off rows.length cap)
 |ptr (cells:List D1) (n id row col:Nat) (o:bA) (r:List D1) (f:Nat->D1) (hF:F id) (ho:H id=some o) (hn:o.n=n) (hr:o.rows[row]?=some r)
  (hf: ∀(j:Nat) (d':D1),cells[j]?=some d'->r[col+j]?=some (f j)) (hd: ∀(j:Nat) (d':D1),cells[j]?=some d'->Frz H F d' (f j)):Frz H F (.fQ cells) (.ptr n id row col)
 |omap (x:mH) (id:Nat) (hF:F id) (ho:H id=some (u4 x)):Frz H F (.MY x) (.omap id)
inductive Cv1(H:aA)(F:Nat->Prop)(σ:Nat->Nat)(nh:Nat):D1->D1->Prop where
 |frz {d' d:D1} (h:Frz H F d' d):Cv1 H F σ nh d' d
 |osl (n id off len cap:Nat) (h:id<nh):Cv1 H F σ nh (.osl n id off len cap) (.osl n (σ id) off len cap)
 |VS (n id id' off off' n':Nat):Cv1 H F σ nh (.osl n id off 0 0) (.osl n' id' off' 0 0)
 |ptr (n id row col:Nat) (h:id<nh):Cv1 H F σ nh (.ptr n id row col) (.ptr n (σ id) row col)
 |clo (f:FuncId) (caps caps':List D1) (hl:caps'.length=caps.length) (h: ∀(i:Nat) (x y:D1),caps'[i]?=some x->caps[i]?=some y->x.dQ=true/\Frz H F x y\/ ∃n id row col,id<nh/\x= .ptr n id row col/\y= .ptr n (σ id) row col):Cv1 H F σ nh (.clo f caps') (.clo f caps)
 |omap (id:Nat) (h:id<nh):Cv1 H F σ nh (.omap id) (.omap (σ id))
 |dead (d:D1):Cv1 H F σ nh .dead d
def CvL(H:aA)(F:Nat->Prop)(σ:Nat->Nat)(nh:Nat)(a b:List D1):Prop:=a.length=b.length/\ ∀(i:Nat) (x y:D1),a[i]?=some x->b[i]?=some y->Cv1 H F σ nh x y
def CvV(H:aA)(F:Nat->Prop)(σ:Nat->Nat)(nh:Nat):DV->DV->Prop
 | .c x,.c y=>Cv1 H F σ nh x y
 | .agg xs,.agg ys=>CvL H F σ nh xs ys
 |_,_=>False
def CvD(H:aA)(F:Nat->Prop)(σ:Nat->Nat)(nh:Nat):D->D->Prop
 | .dead,_=>True
 | .one x,.one y=>CvV H F σ nh x y
 | .tup xs,.tup ys=>xs.length=ys.length/\ ∀(i:Nat) (x y:DV),xs[i]?=some x->ys[i]?=some y->CvV H F σ nh x y
 |_,_=>False
def CvE(H:aA)(F:Nat->Prop)(σ:Nat->Nat)(nh:Nat)(e' e:Env):Prop:=∀t,CvD H F σ nh (e' t) (e t)
def CvO(H:aA)(F:Nat->Prop)(σ:Nat->Nat)(nh:Nat)(o' o:bA):Prop:=o'.n=o.n/\o'.ext=o.ext/\o'.rows.length<=o.rows.length/\(o.n=0->o'.rows=[]->o.rows=[])/\(∀(i:Nat) (r':List D1),o'.rows[i]?=some r'->∃r,o.rows[i]?=some r/\CvL H F σ nh r' r)
structure CvH(H:aA)(F:Nat->Prop)(σ:Nat->Nat)(nh:Nat)(H':aA):Prop where
 obj: ∀id o',H' id=some o'->id<nh/\ ¬F (σ id)/\ ∃o,H (σ id)=some o/\CvO H F σ nh o' o
 inj: ∀i j o o',H' i=some o->H' j=some o'->σ i=σ j->i=j
structure Cv(nx:Nat)(e:Env)(H:aA)(nh:Nat)(e':Env)(H':aA)(F:Nat->Prop)(σ:Nat->Nat):Prop where
 le:nx<=nh
 fix: ∀i,i<nx->σ i=i
 env:CvE H F σ nh e' e
 heap:CvH H F σ nh H'
section
variable{c c0:Cf}{H H0 H':aA}{T:Nat}{e e':Env}{a:Act}{F:Nat -> Prop}{σ:Nat -> Nat}{nx nh:Nat}
theorem afL(hs:St c H){I':Nat->Prop}(bOV: ∀b,c.I b->I' b)(K: ∀id o,F id->H id=some o->0<o.ext->I' (c.ρ id).1){k d:D1}(h:Frz H F k d): ∀{x:Value},Rel c d x->Imm I' c.w k x:=by
 induction h with
 |same d h=>
  intro x hr
  cases d<;>simp only[D1.dQ] at h<;>first
   | (simp only[Rel,bY] at hr;exact hr.wT bOV (fun _ _=>rfl))
   |cases h
 |nil n id off=>
  intro x hr;simp only[Rel,bY] at hr;obtain⟨_,⟨_,A,rfl⟩|⟨T,_⟩⟩:=hr;·exact .isl [] A 0 0 0 0 (fun _ _=>undef) (by simp) (by simp) (by simp) (by simp) (by simp)
  ·omega
 |frz rows n id off cap o f l s L hlen B hr M U N=>
  intro x a;simp only[Rel,bY] at a;obtain⟨_,⟨T,A,rfl⟩|⟨v,l2,rfl⟩⟩:=a;·have z:rows=[]:=CE (by omega);subst z;exact .isl [] A 0 0 0 0 (fun _ _=>undef) (by simp) (by simp) (by simp) (by simp) (by simp)
  ·have q: ∀p:Nat×Nat,∃u:Value,∀r' k,rows[p.1]?=some r'->r'[p.2]?=some k->c.w.cell? ⟨(c.ρ id).1,(c.ρ id).2+off*n+(p.1*n+p.2),none⟩=some u/\Imm I' c.w k u:=by
    rintro⟨i,j⟩
    cases C:rows[i]? with
    |none=>exact⟨undef,fun r' k h=>by cases h⟩
    |some r'=>
     cases t:r'[j]? with
     |none=>exact⟨undef,fun O k h y=>by cases h;rw[t] at y;cases y⟩
     |some k=>obtain⟨r,D,y⟩:=M i j r' k C t;obtain⟨u,P,k9⟩:=hs.cells id o (off+i) j r _ s D y;refine⟨u,fun O Q l1 bOW=> ?_⟩;cases l1;rw[t] at bOW;cases bOW;refine⟨?_,N i j r' k C t k9⟩;rw[<-P,L];show c.w.cell? ⟨(c.ρ id).1,(c.ρ id).2+off*n+(i*n+j),none⟩=c.w.cell? ⟨(c.ρ id).1,(c.ρ id).2+((off+i)*n+j),none⟩;rw[o4,<-t1,<-t1,t1 (c.ρ id).2]
   obtain⟨g,E⟩:=Classical.axiomOfChoice q
   refine .isl rows _ cap n (c.ρ id).1 ((c.ρ id).2+off*n) (fun i j=>g (i,j)) (fun R=>⟨rfl,K id o l s ?_⟩) B hr (fun i j r' k D y=>(E (i,j) r' k D y).1) (fun i j r' k D y=>(E (i,j) r' k D y).2)
   have:0<rows.length:=bGS.2 R
   have:=(hs.wf id o s).1
   omega
 |omap m id l s=>
  intro x a;simp only[Rel,bY] at a;obtain⟨_,rfl⟩:=a;have J:=hs.blk id _ s (br5 _);unfold yW at J;rw[if_pos ⟨rfl,rfl⟩] at J;have e:acE ((u4 m).ext-1)=m:=by show acE (aaX m+1-1)=m;rw[Nat.add_sub_cancel,yH]
  rw[e] at J;exact .MY m _ (K id _ l s (br5 _)) J
 |ptr cells n id row col o r f l s L G M U N=>
  intro x a;simp only[Rel,bY] at a;obtain⟨_,rfl⟩:=a;have v:0<o.ext:=by have:=(hs.wf id o s).1;have:row<o.rows.length:=(m3.1 G).1;omega
  have q: ∀j:Nat,∃u:Value,∀k,cells[j]?=some k->c.w.cell? ⟨(c.ρ id).1,(c.ρ id).2+(row*n+col)+j,none⟩=some u/\Imm I' c.w k u:=by
   intro j
   cases S:cells[j]? with
   |none=>exact⟨undef,fun k h=>by cases h⟩
   |some k=>obtain⟨u,P,k9⟩:=hs.cells id o row (col+j) r _ s G (M j k S);refine⟨u,fun Q bOW=> ?_⟩;cases bOW;refine⟨?_,N j k S k9⟩;rw[<-P,L];rw[<-t1,<-t1,<-t1]
  obtain⟨g,E⟩:=Classical.axiomOfChoice q;exact .fQ cells _ _ g (K id o l s v) (fun j d h=>(E j d h).1) (fun j d h=>(E j d h).2)
def Cf.conv(c:Cf)(nx nh:Nat)(σ:Nat->Nat)(I':Nat->Prop):Cf:={ρ:=fun i=>c.ρ (σ i),N:=fun i=>(i<nx/\c.N i)\/(nx<=i/\i<nh/\c.N (σ i)),I:=I',w:=c.w}
theorem PM(hs:St c H){I':Nat->Prop}(bOV: ∀b,c.I b->I' b)(q: ∀id o,F id->H id=some o->0<o.ext->I' (c.ρ id).1)(j: ∀i,i<nx->σ i=i){k d:D1}(h:Cv1 H F σ nh k d){x:Value}
 (hr:Rel c d x):Rel (c.conv nx nh σ I') k x:=by
 have l2: ∀id,id<nh->c.N (σ id)->(c.conv nx nh σ I').N id:=by
  intro id g e;by_cases a:id<nx;·left;exact⟨a,by rw[j id a] at e;exact e⟩
  ·right;exact⟨by omega,g,e⟩
 cases h with
 |frz h=>have:=afL hs bOV q h hr;cases k<;>simp only[Rel,bY]<;>first|exact this| (cases this;done)
 |osl n id off len cap a=>simp only[Rel,bY] at hr ⊢;exact⟨hr.1,hr.2.imp (fun h=>h) fun⟨g,e,t⟩=>⟨g,l2 id a e,t⟩⟩
 |VS n id v off r C=>
  simp only[Rel,bY] at hr ⊢;obtain⟨_,h|⟨D,_⟩⟩:=hr;·exact⟨m5 _,.inl h⟩
  ·omega
 |ptr n id row col a=>simp only[Rel,bY] at hr ⊢;exact⟨l2 id a hr.1,hr.2⟩
 |omap id a=>simp only[Rel,bY] at hr ⊢;exact⟨l2 id a hr.1,hr.2⟩
 |dead d=>simp only[Rel,bY];exact hr.oQ
 |clo f caps l hl hc=>
  obtain⟨vs,w,m,y⟩:=hr;refine⟨vs,w,by rw[m,hl],fun i d u g e=> ?_⟩;have hi:i<caps.length:=by rw[<-hl];exact(m3.1 g).1
  have hr:=y i _ u (n1 hi) e;rcases hc i d _ g (n1 hi) with⟨s,A⟩|⟨n,id,row,col,a,rfl,B⟩
  ·generalize caps[i]=z at*
   have p:Rel c z u:=by
    cases z with
    |clo E c2=>simp only[bY] at hr;cases hr
    |_=>exact hr
   have:=afL hs bOV q A p
   cases d<;>simp only[D1.dQ] at s<;>first
    | (simp only[bY];exact this)
    |cases s
  ·rw[B] at hr;simp only[bY] at hr ⊢;exact⟨l2 id a hr.1,hr.2⟩
theorem an5(hs:St c H){I':Nat->Prop}(bOV: ∀b,c.I b->I' b)(j: ∀id o,F id->H id=some o->0<o.ext->I' (c.ρ id).1)(a: ∀i,i<nx->σ i=i){e f:List D1}(h:CvL H F σ nh e f){vs:List Value}
 (hr:rU c f vs):rU (c.conv nx nh σ I') e vs:=by
 refine⟨by rw[hr.1,h.1],fun i d u g k=> ?_⟩
 have hi:i<f.length:=by rw[<-h.1];exact(m3.1 g).1
 exact PM hs bOV j a (h.2 i d _ g (n1 hi)) (hr.2 i _ u (n1 hi) k)
theorem af1(hs:St c H){I':Nat->Prop}(bOV: ∀b,c.I b->I' b)(f: ∀id o,F id->H id=some o->0<o.ext->I' (c.ρ id).1)(a: ∀i,i<nx->σ i=i){e d:DV}(h:CvV H F σ nh e d){x:Value}
 (hr:jZ c d x):jZ (c.conv nx nh σ I') e x:=by
 cases e<;>cases d<;>simp only[CvV] at h
 ·exact PM hs bOV f a h hr
 ·obtain⟨vs,g,hl⟩:=hr;exact⟨vs,g,an5 hs bOV f a h hl⟩
theorem zD(hs:St c H){I':Nat->Prop}(bOV: ∀b,c.I b->I' b)(f: ∀id o,F id->H id=some o->0<o.ext->I' (c.ρ id).1)(a: ∀i,i<nx->σ i=i){e d:D}(h:CvD H F σ nh e d){x:Value}
 (hr:fD c d x):fD (c.conv nx nh σ I') e x:=by
 cases e with
 |dead=>trivial
 |one e=>cases d<;>simp only[CvD] at h;exact af1 hs bOV f a h hr
 |tup xs=>
  cases d<;>simp only[CvD] at h;obtain⟨vs,j,hl,k⟩:=hr;refine⟨vs,j,by rw[hl,h.1],fun i d u g l=> ?_⟩;rename_i ys;have hi:i<ys.length:=by rw[<-h.1];exact(m3.1 g).1
  exact af1 hs bOV f a (h.2 i d _ g (n1 hi)) (k i _ u (n1 hi) l)
def Cf.frI(c:Cf)(H:aA)(F:Nat->Prop):Nat->Prop:=fun b=>c.I b\/ ∃id o,F id/\H id=some o/\0<o.ext/\(c.ρ id).1=b
theorem adN(hs:St c H)(a:Step c0 H0 c H)(s: ∀i,c0.N i->i<nx)(hle:nx<=nh)(g: ∀i,i<nx->σ i=i)(bO5:CvH H F σ nh H'):
 St (c.conv nx nh σ (c.frI H F)) H'/\Step c0 H0 (c.conv nx nh σ (c.frI H F)) H':=by
 refine⟨?_,?_⟩
 ·refine {named:= ?_,wf:= ?_,blk:= ?_,cells:= ?_,sep:= ?_,imm:= ?_,old:= ?_}
  ·intro id o' h;obtain⟨m,_,o,e,_⟩:=bO5.obj id o' h;have y:=hs.named _ o e;by_cases t:id<nx;·left;exact⟨t,by rw[g id t] at y;exact y⟩
   ·right;exact⟨by omega,m,y⟩
  ·intro id o' h;obtain⟨m,_,o,e,n,k9,l1,_,bOW⟩:=bO5.obj id o' h;obtain⟨w,k⟩:=hs.wf _ o e;refine⟨by omega,fun i r hr=> ?_⟩;obtain⟨x,bO2,bPH⟩:=bOW i r hr;rw[bPH.1,k i x bO2,n]
  ·intro id o' h he;obtain⟨m,_,o,e,n,k9,l1,bO2,bOW⟩:=bO5.obj id o' h;exact(hs.blk _ o e (by omega)).arW n k9 fun C=>⟨bO2 C,fun hr=>by rw[hr] at l1;exact H4.1 (by simpa using l1)⟩
  ·intro id o' i j r d h m e;obtain⟨_,_,o,k,bPC,bPD,bPE,_,bPF⟩:=bO5.obj id o' h;obtain⟨x,bPI,bPJ⟩:=bPF i r m;have v:j<x.length:=(by rw[<-bPJ.1];exact(m3.1 e).1);obtain⟨u,bPK,z⟩:=hs.cells _ o i j x _ k bPI (n1 v);refine⟨u,by rw[bPC];exact bPK,?_⟩;exact PM hs (fun b h=>.inl h) (fun id o m e n=>.inr ⟨id,o,m,e,n,rfl⟩) g (bPJ.2 j d _ e (n1 v)) z
  ·intro i j o o' hi v he D p;obtain⟨_,_,E,k,bPC,bPD,_⟩:=bO5.obj i o hi;obtain⟨_,_,q,bPF,bPI,bPJ,_⟩:=bO5.obj j o' v;exact hs.sep (σ i) (σ j) E q k bPF (by omega) (by omega) (fun h=>p (bO5.inj i j o o' hi v h))
  ·intro id o' h he;obtain⟨_,A,o,e,n,k9,_⟩:=bO5.obj id o' h;rintro(bOV|⟨f,q,w,k,bPC,bPD⟩);·exact hs.imm _ o e (by omega) bOV
   ·have p:f≠σ id:=(by rintro rfl;exact A w);exact hs.sep f (σ id) q o k e bPC (by omega) p bPD
  ·rintro b (bOV|⟨f,q,w,k,bPC,rfl⟩);·exact hs.old b bOV
   ·exact(hs.blk f q k bPC).lt
 ·exact {
   ρ:=fun id l=>by show c.ρ (σ id)=c0.ρ id;rw[g id (s id l)];exact a.ρ id l
   N:=fun id l=>.inl ⟨s id l,a.N id l⟩
   I:=fun b B=>.inl (a.I b B)
   I':=by
    rintro b (bOV|⟨f,q,w,k,bPC,rfl⟩);·exact a.I' b bOV
    ·exact .inr (a.own _ ⟨f,q,k,bPC,rfl⟩)
   size:=a.size
   os:=a.os
   tape:=a.tape
   output:=a.output
   frame:=a.frame
   own:=by rintro b ⟨id,o',h,he,B⟩;obtain⟨_,_,o,e,n,k9,_⟩:=bO5.obj id o' h;exact a.own b ⟨σ id,o,e,by omega,B⟩}
theorem ap9(hs:St c H)(a:Step c0 H0 c H)(e: ∀i,c0.N i->i<nx)(hle:nx<=nh)(d: ∀i,i<nx->σ i=i)(bO5:CvH H F σ nh H'):
 ∃I',(∀b,c.I b->I' b)/\(∀id o,F id->H id=some o->0<o.ext->I' (c.ρ id).1)/\St (c.conv nx nh σ I') H'/\Step c0 H0 (c.conv nx nh σ I') H':=
 ⟨c.frI H F,fun b h=>.inl h,fun id o f g j=>.inr ⟨id,o,f,g,j,rfl⟩,adN hs a e hle d bO5⟩
theorem Cv.sound(b:Cv nx e H nh e' H' F σ)(hs:St c H)(d:Step c0 H0 c H)(f: ∀i,c0.N i->i<nx)(he:ER c T e a):
 ∃c',c'.w=c.w/\St c' H'/\ER c' T e' a/\Step c0 H0 c' H'/\(∀i,c'.N i->c.N i/\i<nx\/(nx<=i/\i<nh)):=by
 obtain⟨I',g,h,j,k9⟩:=ap9 hs d f b.le b.fix b.heap
 refine⟨c.conv nx nh σ I',rfl,j,⟨he.1,he.2.1,fun t=> ?_⟩,k9,?_⟩
 ·exact zD hs g h b.fix (b.env t) (he.2.2 t)
 ·rintro i (⟨l1,bOW⟩|⟨l1,bOW,_⟩);·exact .inl ⟨bOW,l1⟩
  ·exact .inr ⟨l1,bOW⟩
end
inductive AC where
 |skip
 |region (ops:List aY) (n:Nat) (live:List Nat)
 |seq (x y:AC)
 |cond (c:aT) (x y:AC)
 |block (id:Nat) (x:AC)
 |loop (x:AC)
 |exit (id:Nat)
 |ret
inductive AEx where
 |normal
 |exit (id:Nat)
 |ret
def AEx.of:AEx->Exit
 | .normal=>.normal
 | .exit id=>.exit id
 | .ret=>.ret
structure Cert where
 cert:List (Nat×List Nat×List Nat×Bool)
 live:List Nat
def Env.wT(e:Env):List Nat->Env
 | []=>Env.nil
 |t::a=>(Env.wT e a).set t (e t)
theorem Env.V3(e:Env): ∀(l:List Nat) (t:Nat),e.wT l t=e t\/e.wT l t= .dead
 | [],t=>.inr rfl
 |x::l,t=>by
  simp only[Env.wT,Env.set];split;·rename_i h;subst h;exact .inl rfl
  ·exact Env.V3 e l t
theorem ER.wT{c:Cf}{T:Nat}{e:Env}{a:Act}(h:ER c T e a)(l:List Nat):ER c T (e.wT l) a:=by
 refine⟨h.1,h.2.1,fun t=> ?_⟩;rcases e.V3 l t with b|b;·rw[b];exact h.2.2 t
 ·rw[b];exact trivial
def asO(P:Program)(T:Nat)(ops:Array Oper)(draw:Bool)(L:List aY):Prop:=∃cert,SO P T ops draw cert=some L/\(draw=true->P.follows .mixedOrders=true)
inductive Cmp(P:Program)(T:Nat):Code->AC->Prop where
 |skip:Cmp P T .skip .skip
 |region (id:Nat) (ops:Array Oper) (draw:Bool) (L:List aY) (live:List Nat) (h:asO P T ops draw L):Cmp P T (.region id ops draw) (.region L ops.size live)
 |seq {x y:Code} {x' y':AC} (h1:Cmp P T x x') (h2:Cmp P T y y'):Cmp P T (.seq x y) (.seq x' y')
 |cond {c:Operand} {c':aT} {x y:Code} {x' y':AC} (h:trO c=some c') (h1:Cmp P T x x') (h2:Cmp P T y y'):Cmp P T (.cond c x y) (.cond c' x' y')
 |block {id:Nat} {x:Code} {x':AC} (h:Cmp P T x x'):Cmp P T (.block id x) (.block id x')
 |loop {x:Code} {x':AC} (h:Cmp P T x x'):Cmp P T (.loop x) (.loop x')
 |exit (id:Nat):Cmp P T (.exit id) (.exit id)
 |ret:Cmp P T .ret .ret
def compile(P:Program)(T:Nat):Code->List Cert->Option (AC×List Cert)
 | .skip,cs=>some (.skip,cs)
 | .region _ ops draw,f::cs=>match SO P T ops draw f.cert with
   |some L=>if !draw||P.follows .mixedOrders then some (.region L ops.size f.live,cs) else none
   |none=>none
 | .seq x y,cs=>match compile P T x cs with
   |some (b,a)=>match compile P T y a with
    |some (e,d)=>some (.seq b e,d)
    |none=>none
   |none=>none
 | .cond c x y,cs=>match trO c,compile P T x cs with
   |some c',some (b,a)=>match compile P T y a with
    |some (e,d)=>some (.cond c' b e,d)
    |none=>none
   |_,_=>none
 | .block id x,cs=>match compile P T x cs with
   |some (b,a)=>some (.block id b,a)
   |none=>none
 | .loop x,cs=>match compile P T x cs with
   |some (b,a)=>some (.loop b,a)
   |none=>none
 | .exit id,cs=>some (.exit id,cs)
 | .ret,cs=>some (.ret,cs)
 |_,_=>none
theorem JA{P:Program}{T:Nat}: ∀(x:Code) (cs a:List Cert) (b:AC),compile P T x cs=some (b,a)->Cmp P T x b:=by
 intro x
 induction x with
 |skip=>intro cs a b h;simp only[compile,Option.some.injEq,Prod.mk.injEq] at h;rw[<-h.1];exact .skip
 |region id ops draw=>
  intro cs a b h
  cases cs with
  |nil=>simp[compile] at h
  |cons n cs=>
   simp only[compile] at h;split at h
   ·rename_i L bPG;split at h;·rename_i m;simp only[Option.some.injEq,Prod.mk.injEq] at h;rw[<-h.1];refine .region id ops draw L n.live ⟨_,bPG,fun h=> ?_⟩;rw[h] at m;simpa using m
    ·simp at h
   ·simp at h
 |seq x y d e=>
  intro cs a b h;simp only[compile] at h;split at h
  ·rename_i i f g;split at h;·rename_i o j k;simp only[Option.some.injEq,Prod.mk.injEq] at h;rw[<-h.1];exact .seq (d _ _ _ g) (e _ _ _ k)
   ·simp at h
  ·simp at h
 |cond c x y d e=>
  intro cs a b h;simp only[compile] at h;split at h
  ·rename_i bPB i f p g;split at h;·rename_i o j k;simp only[Option.some.injEq,Prod.mk.injEq] at h;rw[<-h.1];exact .cond p (d _ _ _ g) (e _ _ _ k)
   ·simp at h
  ·simp at h
 |block id x l=>
  intro cs a b h;simp only[compile] at h;split at h;·rename_i i f g;simp only[Option.some.injEq,Prod.mk.injEq] at h;rw[<-h.1];exact .block (l _ _ _ g)
  ·simp at h
 |loop x l=>
  intro cs a b h;simp only[compile] at h;split at h;·rename_i i f g;simp only[Option.some.injEq,Prod.mk.injEq] at h;rw[<-h.1];exact .loop (l _ _ _ g)
  ·simp at h
 |exit id=>intro cs a b h;simp only[compile,Option.some.injEq,Prod.mk.injEq] at h;rw[<-h.1];exact .exit id
 |ret=>intro cs a b h;simp only[compile,Option.some.injEq,Prod.mk.injEq] at h;rw[<-h.1];exact .ret
 |_=>intro cs a b h;simp[compile] at h
abbrev AQ:=AEx->Env->aA->Nat->Prop
structure atG(T:Nat)(c:Cf)(H:aA)(nx:Nat)(Q:AQ)(ex:Exit)(a:Act)(w:World)(aex:AEx)(e':Env)(H':aA)(nx':Nat)(c':Cf):Prop where
 ex:aex.of=ex
 w:c'.w=w
 st:St c' H'
 step:Step c H c' H'
 er:ER c' T e' a
 N: ∀i,c'.N i->c.N i\/(nx<=i/\i<nx')
 le:nx<=nx'
 q:Q aex e' H' nx'
def I1(T:Nat)(c:Cf)(H:aA)(nx:Nat)(Q:AQ)(ex:Exit)(a:Act)(w:World):Prop:=∃b e' H' nx' c',atG T c H nx Q ex a w b e' H' nx' c'
def AWP(P:Program)(T:Nat)(x:AC)(e:Env)(H:aA)(nx:Nat)(Q:AQ):Prop:=∀code,Cmp P T code x->∀c a,St c H->ER c T e a->(∀i,c.N i->i<nx)->code.wp P (I1 T c H nx Q) a c.w
def AQ.then(K:Env->aA->Nat->Prop)(Q:AQ):AQ
 | .normal=>K
 |ex=>Q ex
def AQ.blk(id:Nat)(K:Env->aA->Nat->Prop)(Q:AQ):AQ
 | .normal=>K
 | .exit i=>if i=id then K else Q (.exit i)
 | .ret=>Q .ret
section
variable{P:Program}{T:Nat}{e:Env}{H:aA}{nx:Nat}{Q:AQ}
theorem I1.lift{c bPB:Cf}{H1:aA}{d:Nat}{j:AQ}{ex:Exit}{a:Act}{w:World}(e:Step c H bPB H1)(l2: ∀i,bPB.N i->c.N i\/(nx<=i/\i<d))(hle:nx<=d)
 (h:I1 T bPB H1 d j ex a w) (k: ∀b e' H' nx',b.of=ex->j b e' H' nx'->Q b e' H' nx'):I1 T c H nx Q ex a w:=by
 obtain⟨b,e',H',nx',c',h⟩:=h
 refine⟨b,e',H',nx',c',h.ex,h.w,h.st,e.trans h.step,h.er,fun i hi=> ?_,CQ hle h.le,k _ _ _ _ h.ex h.q⟩
 rcases h.N i hi with f|f
 ·rcases l2 i f with g|g;·exact .inl g
  ·exact .inr ⟨g.1,by have:=h.le;omega⟩
 ·exact .inr ⟨by omega,f.2⟩
theorem I1.here{c:Cf}{a:Act}(hs:St c H)(he:ER c T e a)(b:AEx)(h:Q b e H nx):I1 T c H nx Q b.of a c.w:=⟨b,e,H,nx,c,rfl,rfl,hs,Step.refl c H,he,fun _ h=>.inl h,m5 _,h⟩
theorem AWP.mono{x:AC}{d:AQ}(h:AWP P T x e H nx d)(f: ∀ex e H nx',nx<=nx'->d ex e H nx'->Q ex e H nx'):AWP P T x e H nx Q:=by intro code hc c a hs he l2;refine wp_mono (h code hc c a hs he l2) fun ex g i ⟨b,e',H',nx',c',hp⟩=>⟨b,e',H',nx',c',hp.ex,hp.w,hp.st,hp.step,hp.er,hp.N,hp.le,f _ _ _ _ hp.le hp.q⟩
theorem AWP.skip(h:Q .normal e H nx):AWP P T .skip e H nx Q:=by intro code hc c a hs he l2;cases hc;exact wp_skip (I1.here hs he .normal h)
theorem AWP.exit{id:Nat}(h:Q (.exit id) e H nx):AWP P T (.exit id) e H nx Q:=by intro code hc c a hs he l2;cases hc;exact wp_exit (I1.here hs he (.exit id) h)
theorem AWP.ret(h:Q .ret e H nx):AWP P T .ret e H nx Q:=by intro code hc c a hs he l2;cases hc;exact wp_ret (I1.here hs he .ret h)
theorem AWP.seq{x y:AC}(h: ∀K:Env->aA->Nat->Prop,(∀e H nx',AWP P T y e H nx' Q->K e H nx')->AWP P T x e H nx (AQ.then K Q)):AWP P T (.seq x y) e H nx Q:=by
 intro code hc c a hs he l2
 cases hc with
 |seq m n=>
  refine wp_seq (wp_mono (h _ (fun _ _ _ h=>h) _ m c a hs he l2) fun ex o s ⟨f,e',H',nx',c',hp⟩=> ?_);obtain⟨rfl,rfl,g,j,k,b,l,d⟩:=hp
  cases f with
  |normal=>
   simp only[AQ.then] at d;refine wp_mono (d _ n c' o g k fun i hi=> ?_) fun ex p q r=>r.lift j b l fun _ _ _ _ _ h=>h;rcases b i hi with h|h;·have:=l2 i h;omega
   ·exact h.2
  |exit id=>exact⟨.exit id,e',H',nx',c',rfl,rfl,g,j,k,b,l,d⟩
  |ret=>exact⟨.ret,e',H',nx',c',rfl,rfl,g,j,k,b,l,d⟩
theorem AWP.cond{c:aT}{x y:AC}(t:Bool)(hc:c.ev e= .one (.c (.v (.bool t))))(g:t=true->AWP P T x e H nx Q)(h:t=false->AWP P T y e H nx Q):AWP P T (.cond c x y) e H nx Q:=by
 intro code d f a hs he l2
 cases d with
 |cond i k9 l1=>
  have b:=lP he i;rw[hc] at b;have b:=x6 (c:=f) b
  cases t with
  |true=>exact wp_cond_true b (g rfl _ k9 f a hs he l2)
  |false=>exact wp_cond_false b (h rfl _ l1 f a hs he l2)
theorem AWP.block{id:Nat}{x:AC}(h: ∀K:Env->aA->Nat->Prop,(∀e H nx',Q .normal e H nx'->K e H nx')->AWP P T x e H nx (AQ.blk id K Q)):AWP P T (.block id x) e H nx Q:=by
 intro code hc c a hs he l2
 cases hc with
 |block m=>
  refine wp_block (wp_mono (h _ (fun _ _ _ h=>h) _ m c a hs he l2) fun ex n o ⟨l,e',H',nx',c',hp⟩=> ?_);obtain⟨rfl,rfl,d,f,g,j,k,b⟩:=hp
  cases l with
  |normal=>exact⟨.normal,e',H',nx',c',rfl,rfl,d,f,g,j,k,b⟩
  |exit i=>
   simp only[AQ.blk] at b;simp only[AEx.of,Exit.inBlock];split;·rename_i hi;rw[if_pos hi] at b;exact⟨.normal,e',H',nx',c',rfl,rfl,d,f,g,j,k,b⟩
   ·rename_i hi;rw[if_neg hi] at b;exact⟨.exit i,e',H',nx',c',rfl,rfl,d,f,g,j,k,b⟩
  |ret=>exact⟨.ret,e',H',nx',c',rfl,rfl,d,f,g,j,k,b⟩
theorem AWP.conv{x:AC}{nh:Nat}{e':Env}{H':aA}{F:Nat->Prop}{σ:Nat->Nat}{d:Nat}(l:d<=nx)(m:nx=d\/True)(b:Cv nx e H nh e' H' F σ)(h:AWP P T x e' H' nh Q):AWP P T x e H nx Q:=by
 intro code hc c a hs he l2;obtain⟨c',hw,f,g,j,k9⟩:=b.sound hs (Step.refl c H) l2 he
 have:=h code hc c' a f g fun i hi=>by
  rcases k9 i hi with l1|l1;·have:=b.le;omega
  ·exact l1.2
 rw[hw] at this;exact wp_mono this fun ex n o k=>k.lift j (fun i hi=>(k9 i hi).imp (fun h=>h.1) fun h=>h) b.le fun _ _ _ _ _ h=>h
theorem AWP.EJ{x:AC}(n:Nat)(h:AWP P T x e (H.set nx ⟨n,0,[]⟩) (nx+1) Q):AWP P T x e H nx Q:=by
 intro code hc c a hs he l2;have b: ¬c.N nx:=fun f=>br6 _ (l2 nx f);obtain⟨g,d⟩:=NX hs (n:=n) b
 have j:=h code hc (c.named nx 0 0 c.w) a g ⟨he.1,he.2.1,fun t=>(he.2.2 t).step d hs⟩ fun i hi=>by
  rcases hi with rfl|hi;·exact Nat.lt_succ_self _
  ·exact Nat.lt_succ_of_lt (l2 i hi)
 refine wp_mono j fun ex l m k=>k.lift d (fun i hi=> ?_) (Nat.le_succ _) fun _ _ _ _ _ h=>h;rcases hi with rfl|hi;·exact .inr ⟨m5 _,Nat.lt_succ_self _⟩
 ·exact .inl hi
theorem AWP.loop{x:AC}{α:Type}(E:α->Env)(G:α->aA)(nh:Nat)(μ:α->Nat)(f:α)(g: ∃F σ,Cv nx e H nh (E f) (G f) F σ)
 (h: ∀u,∀K:Env->aA->Nat->Prop,(∀e' H' nx' b,nh<=nx'->μ b<μ u->(∃F σ,Cv nx e' H' nh (E b) (G b) F σ)->K e' H' nx')->AWP P T x (E u) (G u) nh (AQ.then K Q)):AWP P T (.loop x) e H nx Q:=by
 intro code hc c a hs he l2
 cases hc with
 |loop q=>
  obtain⟨F,σ,g⟩:=g;obtain⟨c0,r,s,bPC,bPD,bPE⟩:=g.sound hs (Step.refl c H) l2 he;have hle:=g.le;refine wp_loop_ghost (fun n a w=>∃u bPB,μ u=n/\bPB.w=w/\St bPB (G u)/\ER bPB T (E u) a/\Step c H bPB (G u)/\(∀i,bPB.N i->c.N i/\i<nx\/(nx<=i/\i<nh))) (μ f) ⟨f,c0,rfl,r,s,bPC,bPD,bPE⟩ ?_;rintro n a w ⟨u,bPB,rfl,rfl,bO8,bO9,bPL,bPM⟩;refine wp_mono (h u (fun e' H' nx'=>∃b,μ b<μ u/\ ∃F σ,Cv nx e' H' nh (E b) (G b) F σ) (fun _ _ _ b _ j t=>⟨b,j,t⟩) _ q bPB a bO8 bO9 fun i hi=> ?_) fun ex L M ⟨k,e',H',nx',c',hp⟩=> ?_;·rcases bPM i hi with h|h<;>omega
  ·obtain⟨rfl,rfl,l,m,o,v,O,p⟩:=hp
   have d: ∀i,c'.N i->c.N i\/(nx<=i/\i<nx'):=by
    intro i hi;rcases v i hi with h|h
    ·rcases bPM i h with h|h;·exact .inl h.1
     ·exact .inr ⟨h.1,by omega⟩
    ·exact .inr ⟨by omega,h.2⟩
   cases k with
   |normal=>
    obtain⟨b,y,F',z,A⟩:=p;obtain⟨c2,B,C,D,I,J⟩:=A.sound l (bPL.trans m) l2 o;refine⟨μ b,y,b,c2,rfl,B,C,D,I,fun i hi=> ?_⟩;rcases J i hi with h|h
    ·rcases d i h.1 with j|j;·exact .inl ⟨j,h.2⟩
     ·omega
    ·exact .inr h
   |exit id=>exact⟨.exit id,e',H',nx',c',rfl,rfl,l,bPL.trans m,o,d,by omega,p⟩
   |ret=>exact⟨.ret,e',H',nx',c',rfl,rfl,l,bPL.trans m,o,d,by omega,p⟩
theorem AWP.region{ops:List aY}{n:Nat}{live:List Nat}(h:avc P nx (fun e' H' nx'=>Q .normal (e'.wT live) H' nx') ops e H (nx+n) []):AWP P T (.region ops n live) e H nx Q:=by
 intro code hc c a hs he l2
 cases hc with
 |region id b draw L live r=>
  obtain⟨cert,hm,s⟩:=r;unfold SO at hm;split at hm;case h_2=>simp at hm
  rename_i q E;have d: ∀c2 F H2 g az2,RS T nx b.size c H [] c2 F H2 g az2->Q .normal (F.wT live) H2 g->I1 T c H nx Q .normal az2 c2.w:=by intro c2 F H2 g az2 hr M;exact⟨.normal,_,H2,g,c2,rfl,rfl,hr.st,hr.step,hr.er.wT live,fun i hi=>(hr.N i hi).imp (fun h=>h) fun h=>⟨h.1,h.2.1⟩,by have:=hr.nx;omega,M⟩
  obtain⟨G,j⟩:=LK E;have m: ∀(L:List aY) (bPB:Cf),bPB.N=c.N->St bPB H->ER bPB T e a->Step c H bPB H->RS T nx b.size c H L bPB e H (nx+b.size) a:=fun L bPB I D O R=>⟨D,O,R,fun i hi=>.inl (by rw[I] at hi;exact hi),m5 _⟩
  cases draw with
  |false=>
   simp only[CC,if_false,Option.some.injEq] at hm;subst hm;apply wp_region
   have hr:List.range b.size=q.map (·.ix):=by
    rw[G];simp only[CC,if_false,WD,bGT];conv=>lhs;rw[<-brT (List.range b.size)]
    rfl
   rw[hr];exact VY l2 d q c e H _ a [] (fun o k=>(j o k).1) (by rw[<-hr];exact List.nodup_range) (m _ c rfl hs he (Step.refl c H)) h
  |true=>
   simp only[if_true] at hm;split at hm
   ·rename_i f;simp only[Option.some.injEq] at hm;subst hm;simp only[ap7,q7,beq_iff_eq,w2] at f;refine wp_region_any (s rfl) ?_;have S:({c.w with drawn:=c.w.drawn+1}:World)=(c.drew (c.w.drawn+1)).w:=rfl;rw[S];have u:=IL f.2
    have v: ∀i,i<b.size->∃o∈q,o.ix=i:=by
     have J:(q.map (·.ix)).Nodup:=(by rw[List.nodup_iff_pairwise_ne,brY];exact u.imp fun {x y} z=>by simp only[AG,q7,bne_iff_ne] at z;exact z.1.1.1);have A:(q.map (·.ix)) ⊆ List.range b.size:=(by intro i hi;obtain⟨o,k,rfl⟩:=CF.1 hi;exact C2.2 (j o k).1.ix);intro i hi;by_cases B:i∈q.map (·.ix);·obtain⟨o,k,K⟩:=CF.1 B;exact⟨o,k,K⟩
     ·have hlen:=List.Nodup.length_le_of_subset (bq8.2 ⟨B,J⟩) (List.cons_subset.2 ⟨C2.2 hi,A⟩);simp[f.1.1] at hlen;omega
    refine aiF l2 d b.size q _ (c.drew (c.w.drawn+1)) e H _ a [] (by simp[f.1.1]) (fun o k=>⟨(j o k).1,(j o k).2,f.1.2 o k⟩) u ?_ ?_ ?_ h
    ·refine⟨by simp,fun i hi=> ?_,?_⟩;·simp[hi];exact v i hi
     ·intro i ro U D;by_cases C:i<b.size;·simp[C] at D
      ·simp[C] at D
    ·refine m _ _ rfl (hs.drew _) ⟨he.1,he.2.1,fun t=>(he.2.2 t).step (Step.drew c H _) hs⟩ (Step.drew c H _)
    ·intro l hl V p hp;simp at hp
   ·simp at hm
end
inductive aW where
 |tm (t:Nat)
 |cell (a n:Nat) (g:Bool)
def afC(P:Program):ResultVar->Option aW
 | .tmp t=>some (.tm t)
 | .cell a t=>(layout P t).map fun p=>.cell a p.1 p.2
def AJ(P:Program):List ResultVar->Option (List aW)
 | []=>some []
 |r::rs=>match afC P r,AJ P rs with
  |some x,some l=>some (x::l)
  |_,_=>none
def VP(H:aA)(e:Env):aW->Option D
 | .tm t=>some (e t)
 | .cell a n g=>match e a with
   | .one (.c d)=>(tT H d n).bind (mkV g)
   |_=>none
def as1:D->D->Option D
 | .one x,.one y=>some (.tup [x,y])
 |_,_=>none
def asI:D->D->D->Option D
 | .one x,.one y,.one z=>some (.tup [x,y,z])
 |_,_,_=>none
def yT(H:aA)(e:Env):List aW->Option D
 | []=>some (.tup [])
 | [r]=>VP H e r
 | [r,s]=>match VP H e r,VP H e s with
   |some x,some y=>as1 x y
   |_,_=>none
 | [r,s,t]=>match VP H e r,VP H e s,VP H e t with
   |some x,some y,some z=>asI x y z
   |_,_,_=>none
 |_=>none
def Env.args:Nat->List D->Env
 |_,[]=>.nil
 |k,d::a=>(Env.args (k+1) a).set k d
section
variable{P:Program}{c:Cf}{H:aA}{T:Nat}{e:Env}{a:Act}
theorem Env.ML: ∀(a:List D) (k t:Nat),Env.args k a t=if k<=t then (a[t-k]?).getD .dead else .dead
 | [],k,t=>by simp[Env.args,Env.nil]
 |d::a,k,t=>by
  simp only[Env.args,Env.set,Env.ML a];by_cases b:t=k;·subst b;simp
  ·by_cases e:k<=t;·have c:k+1<=t:=(by omega);have k9:t-k=(t-(k+1))+1:=(by omega);simp[b,e,c,k9]
   ·have c: ¬k+1<=t:=(by omega);simp[b,e,c]
def X7(tmps:Array Value):ResultVar->Sem Value
 | .tmp t=>pure (tmps.getD t undef)
 | .cell a t=>do loadVar t (<-asAddr (tmps.getD a undef))
theorem BN(hs:St c H)(he:ER c T e a){r:ResultVar}{x:aW}{d:D}(f:afC P r=some x)(h:VP H e x=some d): ∃v,(X7 a.tmps r).run P c.w= .ok v c.w/\fD c d v:=by
 cases r with
 |tmp t=>simp only[afC,Option.some.injEq] at f;subst f;simp only[VP,Option.some.injEq] at h;subst h;exact⟨_,by simp[X7],he.2.2 t⟩
 |cell p t=>
  simp only[afC,m4] at f;obtain⟨⟨n,g⟩,hl,rfl⟩:=f;simp only[VP] at h;split at h;·rename_i d1 k;simp only[KM] at h;obtain⟨cs,j,l⟩:=h;have i:=he.2.2 p;rw[k] at i;obtain⟨b,o,hp,_⟩:=IU hs j i;obtain⟨v,hr,m⟩:=abH hs hl j l i;refine⟨v,?_,m⟩;rw[hp] at hr;simp only[X7,hp];simpa [Instr.loadAt,Instr.sureAddr,asAddr] using hr
  ·simp at h
theorem ab9(fn:Func)(tmps:Array Value):results fn tmps=(do let vs <-fn.results.mapM (X7 tmps);pure (if h:vs.size=1 then vs[0] else .tuple vs)):=by unfold results;congr 1
theorem aa3(hs:St c H)(he:ER c T e a){fn:Func}{rs:List aW}{d:D}(b:AJ P fn.results.toList=some rs)(h:yT H e rs=some d): ∃v,(results fn a.tmps).run P c.w= .ok v c.w/\fD c d v:=by
 rw[ab9];generalize hl:fn.results.toList=l at b;have n:fn.results=l.toArray:=by rw[<-hl]
 rw[n]
 match l,b with
 | [],b=>simp only[AJ,Option.some.injEq] at b;subst b;simp only[yT,Option.some.injEq] at h;subst h;exact⟨.tuple #[],by simp,⟨[],rfl,rfl,by simp⟩⟩
 | [r],b=>
   simp only[AJ] at b;split at b;·rename_i x bOX m f;simp only[Option.some.injEq] at f b;subst f;subst b;simp only[yT] at h;obtain⟨v,o,p⟩:=BN hs he m h;exact⟨v,by simp[o],p⟩
   ·simp at b
 | [r,s],b=>
   simp only[AJ] at b;split at b
   ·rename_i x bOX m f;split at f
    ·rename_i y bOY A k9;simp only[Option.some.injEq] at k9 f b;subst k9;subst f;subst b;simp only[yT] at h;split at h
     ·rename_i B C E F;obtain⟨v,o,p⟩:=BN hs he m E;obtain⟨u,hu,k⟩:=BN hs he A F;cases B<;>cases C<;>simp only[as1,Option.some.injEq] at h<;>first|cases h;done|skip
      subst h;refine⟨.tuple #[v,u],by simp[o,hu],⟨[v,u],rfl,rfl,fun i d1 v1 g j=> ?_⟩⟩
      match i with
      |0=>simp at g j;subst g;subst j;exact p
      |1=>simp at g j;subst g;subst j;exact k
      |i+2=>simp at g
     ·simp at h
    ·simp at f
   ·simp at b
 | [r,s,t],b=>
   simp only[AJ] at b;split at b
   ·rename_i x bOX m f;split at f
    ·rename_i y bOY A k9;split at k9
     ·rename_i z I l1 bOW;simp only[Option.some.injEq] at bOW k9 f b;subst bOW;subst k9;subst f;subst b;simp only[yT] at h;split at h
      ·rename_i B C J E F K;obtain⟨v,o,p⟩:=BN hs he m E;obtain⟨u,hu,k⟩:=BN hs he A F;obtain⟨q,L,G⟩:=BN hs he l1 K;cases B<;>cases C<;>cases J<;>simp only[asI,Option.some.injEq] at h<;>first|cases h;done|skip
       subst h;refine⟨.tuple #[v,u,q],by simp[o,hu,L],⟨[v,u,q],rfl,rfl,fun i d1 v1 g j=> ?_⟩⟩
       match i with
       |0=>simp at g j;subst g;subst j;exact p
       |1=>simp at g j;subst g;subst j;exact k
       |2=>simp at g j;subst g;subst j;exact G
       |i+3=>simp at g
      ·simp at h
     ·simp at k9
    ·simp at f
   ·simp at b
 |_::_::_::_::_,b=>
  simp only[AJ] at b;split at b
  ·rename_i x bOX m f;split at f
   ·rename_i y bOY A k9;split at k9
    ·rename_i z I l1 bOW;split at bOW;·simp only[Option.some.injEq] at bOW k9 f b;subst bOW;subst k9;subst f;subst b;simp[yT] at h
     ·simp at bOW
    ·simp at k9
   ·simp at f
  ·simp at b
structure CvR(nx:Nat)(d:D)(H:aA)(nh:Nat)(d':D)(H':aA)(F:Nat->Prop)(σ:Nat->Nat):Prop where
 le:nx<=nh
 fix: ∀i,i<nx->σ i=i
 d:CvD H F σ nh d' d
 heap:CvH H F σ nh H'
theorem aB.of{f:FuncId}{fn:Func}{code:Code}{ac:AC}{rs:List aW}{cs n:List Cert}{args:List D}{nx:Nat}{K:D->aA->Nat->Prop}
 (o:qY P f=true) (A:P.funcs[f]?=some fn) (B:fn.body=some code) (hc:compile P fn.ntmps code cs=some (ac,n)) (hr:AJ P fn.results.toList=some rs) (hl:args.length<=fn.ntmps)
 (h: ∀Q:AQ,(∀ex e' H' nx' d nh g b F σ,ex= .normal\/ex= .ret->yT H' e' rs=some d->CvR nx d H' nh g b F σ->K g b nh->Q ex e' H' nx')->AWP P fn.ntmps ac (Env.args 0 args) H nx Q):aB P f args H nx K:=by
 refine⟨o,fun c vs hs l2 hlen l=> ?_⟩
 apply calls_of_wp A B
 have p:=JA _ _ _ _ hc
 have q:ER c fn.ntmps (Env.args 0 args) {tmps:=vs.toArray++Array.replicate (fn.ntmps-vs.toArray.size) undef,defers:=[]}:=by
  refine⟨by simp;omega,rfl,fun t=> ?_⟩;rw[Env.ML];simp only[bxY,if_true,Nat.sub_zero]
  cases m:args[t]? with
  |none=>exact trivial
  |some d=>have x:t<vs.length:=(by rw[hlen];exact(m3.1 m).1);have s:(vs.toArray++Array.replicate (fn.ntmps-vs.toArray.size) undef).getD t undef=vs[t]:=(by rw[boK,Y6];simp[x]);rw[s];exact l t d _ m (n1 x)
 refine wp_mono (h _ (fun ex e' H' nx' d nh g b F σ C E G k9=>(⟨C,d,nh,g,b,F,σ,E,G,k9⟩:(ex= .normal\/ex= .ret)/\ ∃d nh g b F σ,yT H' e' rs=some d/\CvR nx d H' nh g b F σ/\K g b nh)) code p c _ hs q l2) ?_
 rintro ex a w ⟨I,e',H',nx',c',rfl,rfl,u,J,y,L,U,M,d,nh,g,b,F,σ,O,k,R⟩
 obtain⟨v,s,m⟩:=aa3 u y hr O
 obtain⟨I',S,T,bPC,bPD⟩:=ap9 u J l2 k.le k.fix k.heap
 have j:a.defers=[]/\ ∃v,(results fn a.tmps).run P c'.w= .ok v c'.w/\ ∃z e r b nx',Ending.returned v= .returned z/\e.w=c'.w/\St e b/\Step c H e b/\(∀i,e.N i->c.N i\/(nx<=i/\i<nx'))/\nx<=nx'/\fD e r z/\K r b nx':=by
  refine⟨y.2.1,v,s,v,c'.conv nx nh σ I',g,b,nh,rfl,rfl,bPC,bPD,?_,k.le,zD u S T k.fix k.d m,R⟩;rintro i (⟨l1,bOW⟩|⟨l1,bOW,_⟩)
  ·rcases L i bOW with h|h;·exact .inl h
   ·omega
  ·exact .inr ⟨l1,bOW⟩
 rcases M with rfl|rfl
 ·exact j
 ·exact j
def aO(P:Program)(fn:Func)(cs:List Cert):Option (AC×List aW):=
 match fn.body with
 |some b=>match compile P fn.ntmps b cs,AJ P fn.results.toList with
  |some (ac,_),some rs=>some (ac,rs)
  |_,_=>none
 |none=>none
theorem aB.enter{f:FuncId}{fn:Func}{ac:AC}{rs:List aW}{cs:List Cert}{args:List D}{nx:Nat}{K:D->aA->Nat->Prop}
 (g:P.funcs[f]?=some fn) (c:qY P f=true) (hc:aO P fn cs=some (ac,rs)) (hl:args.length<=fn.ntmps)
 (h: ∀Q:AQ,(∀ex e' H' nx' d nh e a F σ,ex= .normal\/ex= .ret->yT H' e' rs=some d->CvR nx d H' nh e a F σ->K e a nh->Q ex e' H' nx')->AWP P fn.ntmps ac (Env.args 0 args) H nx Q):aB P f args H nx K:=by
 unfold aO at hc
 split at hc
 ·rename_i b i;split at hc;·rename_i j k l m n;simp only[Option.some.injEq,Prod.mk.injEq] at hc;obtain⟨rfl,rfl⟩:=hc;exact aB.of c g i m n hl h
  ·simp at hc
 ·simp at hc
end
def rn0(τ:Nat->Nat):D1->D1
 | .osl n id off len cap=>.osl n (τ id) off len cap
 | .ptr n id row col=>.ptr n (τ id) row col
 | .omap id=>.omap (τ id)
 |d=>d
def rn1(τ:Nat->Nat):D1->D1
 | .clo f caps=>.clo f (caps.map (rn0 τ))
 |d=>rn0 τ d
def rnV(τ:Nat->Nat):DV->DV
 | .c d=>.c (rn1 τ d)
 | .agg cs=>.agg (cs.map (rn1 τ))
def rnD(τ:Nat->Nat):D->D
 | .one x=>.one (rnV τ x)
 | .tup xs=>.tup (xs.map (rnV τ))
 | .dead=>.dead
def bA.rn(τ:Nat->Nat)(o:bA):bA:=⟨o.n,o.ext,o.rows.map (·.map (rn1 τ))⟩
def aA.upd(H:aA)(id:Nat)(o:Option bA):aA:=fun i=>if i=id then o else H i
theorem aA.eL(H:aA)(id:Nat)(o:bA):H.upd id (some o)=H.set id o:=rfl
theorem aA.yI(H:aA)(id:Nat):H.upd id none=H.del id:=rfl
def tau(a nx:Nat)(τ:Nat->Nat)(i:Nat):Nat:=if i<a then τ i else nx+(i-a)
def back(τ:Nat->Nat)(H0:aA):Nat->aA->aA
 |0,H=>H
 |k+1,H=>(back τ H0 k H).upd (τ k) ((H0 k).map (bA.rn τ))
section
variable{P:Program}{c bPB c2:Cf}{H H0 H1:aA}{τ:Nat -> Nat}
theorem WM(τ:Nat->Nat)(H0 H:aA): ∀(k j:Nat),(∀a b,a<k->b<k->τ a=τ b->a=b)->
 (∃i,i<k/\τ i=j/\back τ H0 k H j=(H0 i).map (bA.rn τ))\/((∀i,i<k->τ i≠j)/\back τ H0 k H j=H j)
 |0,j,_=>.inr ⟨fun i hi=>by omega,rfl⟩
 |k+1,j,c=>by
  by_cases d:τ k=j;·exact .inl ⟨k,by omega,d,by simp[back,aA.upd,d]⟩
  ·have g:back τ H0 (k+1) H j=back τ H0 k H j:=(by simp only[back,aA.upd];rw[if_neg (Ne.symm d)]);rw[g];rcases WM τ H0 H k j (fun a b m g=>c a b (by omega) (by omega)) with⟨i,h,e,l⟩|⟨h,e⟩
   ·exact .inl ⟨i,by omega,e,l⟩
   ·refine .inr ⟨fun i hi=> ?_,e⟩;by_cases f:i=k;·subst f;exact d
    ·exact h i (by omega)
variable{c':Cf}{x:Value}
theorem afH{c:Cf}(l2: ∀i,c.N i->c'.N (τ i))(a: ∀i,c.N i->c'.ρ (τ i)=c.ρ i)(bOV:c'.I=c.I)(hw:c'.w=c.w){d:D1}(h:bY c d x):bY c' (rn0 τ d) x:=by
 cases d<;>simp only[bY,rn0] at h ⊢ <;>first| (rw[bOV,hw];exact h)|exact h|skip
 ·refine⟨h.1,h.2.imp (fun h=>h) fun⟨e,b,f⟩=>⟨e,l2 _ b,by rw[a _ b];exact f⟩⟩
 ·exact⟨l2 _ h.1,by rw[a _ h.1];exact h.2⟩
 ·exact⟨l2 _ h.1,by rw[a _ h.1];exact h.2⟩
theorem XS{c:Cf}(l2: ∀i,c.N i->c'.N (τ i))(a: ∀i,c.N i->c'.ρ (τ i)=c.ρ i)(bOV:c'.I=c.I)(hw:c'.w=c.w){d:D1}(h:Rel c d x):Rel c' (rn1 τ d) x:=by
 cases d with
 |clo f caps=>obtain⟨vs,e,hl,g⟩:=h;refine⟨vs,e,by simp[hl],fun i d u b j=> ?_⟩;simp only[p0,m4] at b;obtain⟨k,b,rfl⟩:=b;exact afH l2 a bOV hw (g i k u b j)
 |_=>simp only[Rel,rn1,rn0] at h ⊢;exact afH l2 a bOV hw h
theorem apJ{c:Cf}(l2: ∀i,c.N i->c'.N (τ i))(b: ∀i,c.N i->c'.ρ (τ i)=c.ρ i)(bOV:c'.I=c.I)(hw:c'.w=c.w){e:List D1}{xs:List Value}(h:rU c e xs):rU c' (e.map (rn1 τ)) xs:=by refine⟨by simp[h.1],fun i d u a f=> ?_⟩;simp only[p0,m4] at a;obtain⟨g,a,rfl⟩:=a;exact XS l2 b bOV hw (h.2 i g u a f)
theorem afI{c:Cf}(l2: ∀i,c.N i->c'.N (τ i))(a: ∀i,c.N i->c'.ρ (τ i)=c.ρ i)(bOV:c'.I=c.I)(hw:c'.w=c.w){d:DV}(h:jZ c d x):jZ c' (rnV τ d) x:=by
 cases d with
 |c d=>exact XS l2 a bOV hw h
 |agg cs=>obtain⟨vs,b,hl⟩:=h;exact⟨vs,b,apJ l2 a bOV hw hl⟩
theorem ao2{c:Cf}(l2: ∀i,c.N i->c'.N (τ i))(a: ∀i,c.N i->c'.ρ (τ i)=c.ρ i)(bOV:c'.I=c.I)(hw:c'.w=c.w){d:D}(h:fD c d x):fD c' (rnD τ d) x:=by
 cases d with
 |one d=>exact afI l2 a bOV hw h
 |dead=>trivial
 |tup k=>obtain⟨vs,e,hl,f⟩:=h;refine⟨vs,e,by simp[hl],fun i d u b g=> ?_⟩;simp only[p0,m4] at b;obtain⟨j,b,rfl⟩:=b;exact afI l2 a bOV hw (f i j u b g)
theorem aB.lift{f:FuncId}{args0 args:List D}{p nx:Nat}{K0 K:D->aA->Nat->Prop}(h:aB P f args0 H0 p K0)(τ:Nat->Nat)(hlen:args.length=args0.length)
 (aa: ∀(i:Nat) (d0 d:D),args0[i]?=some d0->args[i]?=some d->CvD H (fun _=>False) τ p d0 d) (bO5:CvH H (fun _=>False) τ p H0) (hτ: ∀i,i<p->τ i<nx) (ah: ∀i j,i<p->j<p->τ i=τ j->i=j)
 (bPN: ∀r H' n',p<=n'->K0 r H' n'->K (rnD (tau p nx τ) r) (back (tau p nx τ) H' n' H) (nx+(n'-p))):aB P f args H nx K:=by
 refine⟨h.1,fun c vs hs l2 hl hr=> ?_⟩
 have ai:Step {c with N:=fun _=>False} H c H:={
  ρ:=fun id h=>h.elim
  N:=fun id h=>h.elim
  I:=fun b h=>h
  I':=fun b h=>.inl h
  size:=m5 _
  os:=rfl
  tape:=rfl
  output:=rfl
  frame:=fun _ _ _=>rfl
  own:=fun b h=>.inl h}
 have aj:=(adN (nx:=0) hs ai (fun _ h=>h.elim) (bxY p) (fun i hi=>by omega) bO5).1
 have an:c.frI H (fun _=>False)=c.I:=by funext b;simp only[Cf.frI,false_and,exists_false,or_false]
 rw[an] at aj
 obtain⟨bPB,G⟩: ∃bPB,bPB=c.conv 0 p τ c.I:=⟨_,rfl⟩
 rw[<-G] at aj
 have C:bPB.w=c.w:=by rw[G];rfl
 have e2:bPB.I=c.I:=by rw[G];rfl
 have e3: ∀i,bPB.ρ i=c.ρ (τ i):=fun i=>by rw[G];rfl
 have e4: ∀i,bPB.N i->i<p/\c.N (τ i):=fun i hi=>by rw[G] at hi;exact hi.elim (fun h=>absurd h.1 (bq2 i)) fun h=>⟨h.2.1,h.2.2⟩
 have z: ∀b,uG bPB H0 b->uG c H b:=by rintro b ⟨id,o,k1,k2,rfl⟩;obtain⟨g,_,o',e,q,k9,_⟩:=bO5.obj id o k1;exact⟨τ id,o',e,by omega,(congrArg Prod.fst (e3 id)).symm⟩
 have Q:=h.2 bPB vs aj (fun i hi=>(e4 i hi).1) (by rw[hl,hlen]) (fun i d0 v g e=>by
  have hi:i<args.length:=by rw[hlen];exact(m3.1 g).1
  have:=zD (nx:=0) hs (I':=c.I) (fun b h=>h) (fun id o h=>h.elim) (fun i hi=>by omega) (aa i d0 _ g (n1 hi)) (hr i _ v (n1 hi) e)
  rw[G];exact this)
 rw[C] at Q
 apply Q.mono
 rintro x w' ⟨v,c2,r,H2,J,rfl,rfl,A,L,p3,p4,p5,p6⟩
 obtain⟨t,ht⟩: ∃t,t=tau p nx τ:=⟨_,rfl⟩
 have B: ∀i,i<p->t i=τ i:=fun i hi=>by rw[ht];simp only[tau];rw[if_pos hi]
 have M: ∀i,p<=i->t i=nx+(i-p):=fun i hi=>by rw[ht];simp only[tau];rw[if_neg (by omega)]
 have ao: ∀i,c2.N i->i<J:=fun i hi=>by
  rcases p3 i hi with h|h;·have:=(e4 i h).1;omega
  ·exact h.2
 have ab: ∀a b,a<J->b<J->t a=t b->a=b:=by
  intro a b _ _ R;by_cases ha:a<p<;>by_cases E:b<p;·rw[B a ha,B b E] at R;exact ah a b ha E R
  ·rw[B a ha,M b (by omega)] at R;have:=hτ a ha;omega
  ·rw[M a (by omega),B b E] at R;have:=hτ b E;omega
  ·rw[M a (by omega),M b (by omega)] at R;omega
 obtain⟨bPO,S⟩: ∃bPO:Cf,bPO= {ρ:=fun j=>if j<nx then c.ρ j else c2.ρ (p+(j-nx)),N:=fun j=>c.N j\/(nx<=j/\c2.N (p+(j-nx))),I:=c2.I,w:=c2.w}:=⟨_,rfl⟩
 have O:bPO.w=c2.w:=by rw[S]
 have q2:bPO.I=c2.I:=by rw[S]
 have T: ∀j,j<nx->bPO.ρ j=c.ρ j:=fun j U=>by rw[S];simp only;rw[if_pos U]
 have q4: ∀j,bPO.N j↔c.N j\/(nx<=j/\c2.N (p+(j-nx))):=fun j=>by rw[S]
 have q5: ∀i,c2.N i->bPO.N (t i):=by
  intro i hi;rw[q4];rcases p3 i hi with h|h;·rw[B i (e4 i h).1];exact .inl (e4 i h).2
  ·rw[M i h.1];right;refine⟨by omega,?_⟩;have:p+(nx+(i-p)-nx)=i:=(by omega);rw[this];exact hi
 have Y: ∀i,c2.N i->bPO.ρ (t i)=c2.ρ i:=by
  intro i hi;rcases p3 i hi with h|h;·rw[B i (e4 i h).1,T _ (hτ i (e4 i h).1),L.ρ i h,e3]
  ·rw[M i h.1,S];simp only;rw[if_neg (by omega)];congr 1;omega
 have F: ∀j o,H j=some o->0<o.ext->(c.ρ j).1<c.w.heap.size:=by intro j o m he;exact(hs.blk j o m he).lt
 have hB: ∀j o,back t H2 J H j=some o->(∃i n,i<J/\t i=j/\H2 i=some n/\o=n.rn t)\/((∀i,i<J->t i≠j)/\H j=some o):=by
  intro j o m;rcases WM t H2 H J j ab with⟨i,g,e,q⟩|⟨g,e⟩
  ·rw[q] at m;simp only[m4] at m;obtain⟨n,k9,rfl⟩:=m;exact .inl ⟨i,n,g,e,k9,rfl⟩
  ·rw[e] at m;exact .inr ⟨g,m⟩
 have s: ∀j o,H j=some o->j<nx:=fun j o m=>l2 j (hs.named j o m)
 have y: ∀j o,(∀i,i<J->t i≠j)->H j=some o->0<o.ext->¬uG bPB H0 (c.ρ j).1:=by
  rintro j o U m he ⟨i,n,k1,k2,bPC⟩;obtain⟨g,_,o',e,q,k9,_⟩:=bO5.obj i n k1;have Z:τ i≠j:=by rw[<-B i g];exact U i (by omega)
  rw[e3] at bPC;exact hs.sep (τ i) j o' o e m (by omega) he Z bPC
 have V:Step c H bPO (back t H2 J H):={
  ρ:=fun j U=>T j (l2 j U)
  N:=fun j U=>(q4 j).2 (.inl U)
  I:=fun b E=>by rw[q2];exact L.I b (by rw[e2];exact E)
  I':=fun b E=>by
   rw[q2] at E;rcases L.I' b E with h|h|h;·left;rw[<-e2];exact h
   ·exact .inr (.inl (z b h))
   ·right;right;rw[<-C];exact h
  size:=by rw[O,<-C];exact L.size
  os:=by rw[O,<-C];exact L.os
  tape:=by rw[O,<-C];exact L.tape
  output:=by rw[O,<-C];exact L.output
  frame:=fun b E m=>by rw[O,<-C];exact L.frame b (by rw[C];exact E) fun h=>m (z b h)
  own:=by
   rintro b ⟨j,o,k1,k2,rfl⟩;rcases hB j o k1 with⟨i,n,g,rfl,q,rfl⟩|⟨g,e⟩
   ·rw[Y i (A.named i n q)];rcases L.own _ ⟨i,n,q,k2,rfl⟩ with h|h;·exact .inl (z _ h)
    ·right;rw[<-C];exact h
   ·left;exact⟨j,o,e,k2,by rw[T j (s j o e)]⟩}
 have ad: ∀j o,(∀i,i<J->t i≠j)->H j=some o->0<o.ext->bPO.w.heap[(bPO.ρ j).1]?=c.w.heap[(c.ρ j).1]?:=by intro j o U m he;rw[T j (s j o m),O,<-C];exact L.frame _ (by rw[C];exact F j o m he) (y j o U m he)
 have ae: ∀d x,Rel c2 d x->Rel bPO (rn1 t d) x:=fun d x h=>XS q5 Y q2 O h
 refine⟨v,bPO,rnD t r,back t H2 J H,nx+(J-p),rfl,O,?_,V,?_,by omega,ao2 q5 Y q2 O p5,by rw[ht];exact bPN r H2 J p4 p6⟩
 ·refine {named:= ?_,wf:= ?_,blk:= ?_,cells:= ?_,sep:= ?_,imm:= ?_,old:= ?_}
  ·intro j o m;rcases hB j o m with⟨i,n,g,rfl,q,rfl⟩|⟨g,e⟩
   ·exact q5 i (A.named i n q)
   ·exact(q4 j).2 (.inl (hs.named j o e))
  ·intro j o m;rcases hB j o m with⟨i,n,g,rfl,q,rfl⟩|⟨g,e⟩
   ·obtain⟨k1,k2⟩:=A.wf i n q;refine⟨by simpa [bA.rn] using k1,fun i r hr=> ?_⟩;simp only[bA.rn,p0,m4] at hr;obtain⟨r0,hr,rfl⟩:=hr;simpa [bA.rn] using k2 i r0 hr
   ·exact hs.wf j o e
  ·intro j o m he;rcases hB j o m with⟨i,n,g,rfl,q,rfl⟩|⟨g,e⟩
   ·rw[Y i (A.named i n q),O];exact(A.blk i n q he).arW rfl rfl fun _=>by simp[bA.rn]
   ·have:=hs.blk j o e he;rw[<-ad j o g e he,<-T j (s j o e)] at this;exact this
  ·intro j o k l r d m hr hd;rcases hB j o m with⟨i,n,g,rfl,q,rfl⟩|⟨g,e⟩
   ·simp only[bA.rn,p0,m4] at hr;obtain⟨r0,hr,rfl⟩:=hr;simp only[p0,m4] at hd;obtain⟨d0,hd,rfl⟩:=hd;obtain⟨u,l1,bOW⟩:=A.cells i n k l r0 d0 q hr hd;refine⟨u,?_,ae d0 u bOW⟩;rw[Y i (A.named i n q),O];exact l1
   ·obtain⟨u,l1,bOW⟩:=hs.cells j o k l r d e hr hd;have ak:0<o.ext:=by have:=(hs.wf j o e).1;have hk:k<o.rows.length:=(m3.1 hr).1;omega
    refine⟨u,?_,bOW.step V hs⟩;rw[<-l1];have:=ad j o g e ak;rw[T j (s j o e)] at this ⊢;exact World.cell?_of_block (w:=c.w) this
  ·intro j j' o o' m aq he W Z;rcases hB j o m with⟨i,n,g,rfl,q,rfl⟩|⟨g,e⟩<;>rcases hB j' o' aq with⟨i',af,al,rfl,ag,rfl⟩|⟨al,X⟩
   ·rw[Y i (A.named i n q),Y i' (A.named i' af ag)];exact A.sep i i' n af q ag he W fun h=>Z (congrArg t h)
   ·rw[Y i (A.named i n q),T j' (s j' o' X)];intro heq;rcases L.own _ ⟨i,n,q,he,heq⟩ with h|h;·exact y j' o' al X W h
    ·have:=F j' o' X W;rw[C] at h;omega
   ·rw[Y i' (A.named i' af ag),T j (s j o e)];intro heq;rcases L.own _ ⟨i',af,ag,W,heq.symm⟩ with h|h;·exact y j o g e he h
    ·have:=F j o e he;rw[C] at h;omega
   ·rw[T j (s j o e),T j' (s j' o' X)];exact hs.sep j j' o o' e X he W Z
  ·intro j o m he;rw[q2];rcases hB j o m with⟨i,n,g,rfl,q,rfl⟩|⟨g,e⟩
   ·rw[Y i (A.named i n q)];exact A.imm i n q he
   ·rw[T j (s j o e)];intro bOV;rcases L.I' _ bOV with h|h|h;·rw[e2] at h;exact hs.imm j o e he h
    ·exact y j o g e he h
    ·have:=F j o e he;rw[C] at h;omega
  ·intro b E;rw[q2] at E;rw[O];exact A.old b E
 ·intro j U;rcases(q4 j).1 U with h|⟨g,e⟩
  ·exact .inl h
  ·right;have:=ao _ e;exact⟨g,by omega⟩
def D1.plain:D1->Bool
 | .v _=>true
 |_=>false
def D.plain:D->Bool
 | .one (.c d)=>d.plain
 | .one (.agg a)=>a.all D1.plain
 | .tup xs=>xs.all fun x=>x.cells.all D1.plain
 | .dead=>false
theorem amA{c:Cf}{d:D1}(h:d.plain=true)(hr:Rel c d x):Rel c' d x:=by
 cases d<;>simp only[D1.plain] at h<;>first|cases h;done|skip
 have:=x6 (c:=c) hr;subst this;exact IS hr.oQ
theorem aqY{c:Cf}{a:List D1}(h:a.all D1.plain=true){xs:List Value}(hr:rU c a xs):rU c' a xs:=⟨hr.1,fun i d u b e=>amA (w2.1 h d (s3 b)) (hr.2 i d u b e)⟩
theorem aqX{c:Cf}{d:D}(h:d.plain=true)(hr:fD c d x):fD c' d x:=by
 have bPP: ∀(d:DV) (x:Value),d.cells.all D1.plain=true->jZ c d x->jZ c' d x:=by
  intro d x h hr
  cases d with
  |c d=>exact amA (by simpa [DV.cells] using h) hr
  |agg e=>obtain⟨vs,a,hl⟩:=hr;exact⟨vs,a,aqY h hl⟩
 cases d with
 |one d=>exact bPP d x (by cases d<;>simpa [D.plain,DV.cells] using h) hr
 |dead=>trivial
 |tup e=>obtain⟨vs,a,hl,f⟩:=hr;refine⟨vs,a,hl,fun i d u b g=>bPP d u ?_ (f i d u b g)⟩;simp only[D.plain,w2] at h;exact w2.2 (h d (s3 b))
theorem aB.pure{f:FuncId}{args0 args:List D}{nx:Nat}{K:D->aA->Nat->Prop}{R:D->Prop}(h:aB P f args0 .nil 0 fun r _ _=>r.plain=true/\R r)(hlen:args.length=args0.length)
 (y: ∀(i:Nat) (J d:D),args0[i]?=some J->args[i]?=some d->CvD H (fun _=>True) id 0 J d) (bPN: ∀r,R r->K r H nx):aB P f args H nx K:=by
 refine⟨h.1,fun c vs hs l2 hl hr=> ?_⟩
 have A:Step {c with N:=fun _=>False} H c H:={
  ρ:=fun id h=>h.elim
  N:=fun id h=>h.elim
  I:=fun b h=>h
  I':=fun b h=>.inl h
  size:=m5 _
  os:=rfl
  tape:=rfl
  output:=rfl
  frame:=fun _ _ _=>rfl
  own:=fun b h=>.inl h}
 have B:=(adN (nx:=0) (nh:=0) (σ:=id) (F:=fun _=>True) (H':=.nil) hs A (fun _ h=>h.elim) (m5 0) (fun i hi=>rfl) ⟨fun id o h=>(by cases h),fun i j o o' h=>(by cases h)⟩).1
 obtain⟨bPB,q⟩: ∃bPB,bPB=c.conv 0 0 id (c.frI H fun _=>True):=⟨_,rfl⟩
 rw[<-q] at B
 have s:bPB.w=c.w:=by rw[q];rfl
 have g:=h.2 bPB vs B (fun i hi=>by rw[q] at hi;rcases hi with⟨h,_⟩|⟨_,C,_⟩<;>omega) (by rw[hl,hlen]) (fun i J v C E=>by
  have hi:i<args.length:=by rw[hlen];exact(m3.1 C).1
  have:=zD (nx:=0) hs (I':=c.frI H fun _=>True) (fun b h=>.inl h) (fun id o C E T=>.inr ⟨id,o,C,E,T,rfl⟩) (fun i hi=>rfl) (y i J _ C (n1 hi)) (hr i _ v (n1 hi) E)
  rw[q];exact this)
 rw[s] at g
 apply g.mono
 rintro x w' ⟨v,c2,r,H2,n2,rfl,rfl,p1,z,p3,p4,U,V,W⟩
 have L: ∀b,¬uG bPB .nil b:=by rintro b ⟨id,o,h,_⟩;cases h
 have m: ∀b,b<c.w.heap.size->c2.w.heap[b]?=c.w.heap[b]?:=fun b n=>by rw[<-s];exact z.frame b (by rw[s];exact n) (L b)
 obtain⟨bPO,a⟩: ∃bPO:Cf,bPO= {c with w:=c2.w}:=⟨_,rfl⟩
 have p:Step c H bPO H:={
  ρ:=fun j S=>by rw[a]
  N:=fun j S=>by rw[a];exact S
  I:=fun b n=>by rw[a];exact n
  I':=fun b n=>by rw[a] at n;exact .inl n
  size:=by rw[a,<-s];exact z.size
  os:=by rw[a,<-s];exact z.os
  tape:=by rw[a,<-s];exact z.tape
  output:=by rw[a,<-s];exact z.output
  frame:=fun b n e=>by rw[a];exact m b n
  own:=by rintro b ⟨j,o,X,Y,bPC⟩;exact .inl ⟨j,o,X,Y,by rw[a] at bPC;exact bPC⟩}
 have t: ∀j o,H j=some o->0<o.ext->(c.ρ j).1<c.w.heap.size:=by intro j o e he;exact(hs.blk j o e he).lt
 refine⟨v,bPO,r,H,nx,rfl,by rw[a],?_,p,fun i hi=>by rw[a] at hi;exact .inl hi,m5 _,aqX V U,bPN r W⟩
 refine {named:= ?_,wf:=hs.wf,blk:= ?_,cells:= ?_,sep:= ?_,imm:= ?_,old:= ?_}
 ·intro j o e;rw[a];exact hs.named j o e
 ·intro j o e he;have:=hs.blk j o e he;rw[<-m _ (t j o e he)] at this;rw[a];exact this
 ·intro j o k l r d e hr Z;obtain⟨u,l1,bOW⟩:=hs.cells j o k l r d e hr Z;have G:0<o.ext:=by have:=(hs.wf j o e).1;have hk:k<o.rows.length:=(m3.1 hr).1;omega
  refine⟨u,?_,bOW.step p hs⟩;rw[<-l1,a];exact World.cell?_of_block (w:=c.w) (m _ (t j o e G))
 ·intro j j' o o' e M he O Q;rw[a];exact hs.sep j j' o o' e M he O Q
 ·intro j o e he;rw[a];exact hs.imm j o e he
 ·intro b n;rw[a] at n ⊢;have:=hs.old b n;have E:=z.size;rw[s] at E;simp only;omega
end
def wv(P:Program)(b:Nat)(live:List Nat)(K:Env->aA->Nat->Prop)(L:List aY)(e:Env)(H:aA)(nx:Nat)(S:dJ):Prop:=avc P b (fun e' H' nx'=>K (e'.wT live) H' nx') L e H nx S
def wvQ(P:Program)(b:Nat)(live:List Nat)(K:Env->aA->Nat->Prop)(L:List aY)(dst:Option Nat)(e:Env)(H:aA)(nx:Nat)(S:dJ):Option D->Prop
 |some d=>wv P b live K L (e.put dst d) H nx S
 |none=>False
def wvL(P:Program)(b:Nat)(live:List Nat)(K:Env->aA->Nat->Prop)(L:List aY)(dst:Option Nat)(e:Env)(H:aA)(nx:Nat)(S:dJ)(p:Nat)(g:D->aA->Prop):Option D->Prop
 |some d=>wv P b live K L (e.put dst d) H nx ((p,g d)::S)
 |none=>False
def wvA(P:Program)(b:Nat)(live:List Nat)(K:Env->aA->Nat->Prop)(L:List aY)(dst:Option Nat)(id:Nat)(e:Env)(H:aA)(nx:Nat)(S:dJ):Option (D×bA)->Prop
 |some (d,a)=>wv P b live K L (e.put dst d) (H.set id a) nx S
 |none=>False
def wvS(P:Program)(b:Nat)(live:List Nat)(K:Env->aA->Nat->Prop)(L:List aY)(dst:Option Nat)(m st:List Nat)(e:Env)(H:aA)(nx:Nat)(S:dJ):Option (Nat×bA)->Prop
 |some (i,a)=>lU S st (dT b m H ((msk b m H).set i a))/\wv P b live K L (e.put dst .dead) (dT b m H ((msk b m H).set i a)) nx S
 |none=>False
def wvP(P:Program)(b:Nat)(live:List Nat)(K:Env->aA->Nat->Prop)(L:List aY)(dst:Option Nat)(id:Nat)(m st:List Nat)(e:Env)(H:aA)(nx:Nat)(S:dJ)(a:Nat):Option (Option Nat×Nat×Nat×List (List D1))->Prop
 |some (dl,n,k,rows)=>k<=2147483647/\ ∀cap,k<=cap->a<=cap->lU S st (dT b m H ((VR (msk b m H) dl).set id ⟨n,cap,rows⟩))/\wv P b live K L (e.put dst (.one (.c (.osl n id 0 k cap)))) (dT b m H ((VR (msk b m H) dl).set id ⟨n,cap,rows⟩)) nx S
 |none=>False
def DQ(P:Program)(b:Nat)(live:List Nat)(K:Env->aA->Nat->Prop)(L:List aY)(dst:Option Nat)(m st:List Nat)(e:Env)(H:aA)(S:dJ)(r:D)(H':aA)(nx:Nat):Prop:=lU S st (dT b m H H')/\wv P b live K L (e.put dst r) (dT b m H H') nx S
def ae4(c x y:D):Option D:=
 match c with
 | .one (.c (.v (.bool t)))=>some (aa5 t x y)
 |_=>none
def arP:D->Option D
 | .one (.c (.ptr n id row col))=>some (.one (.c (.ptr n id row col)))
 | .one (.c (.fQ cs))=>some (.one (.c (.fQ cs)))
 |_=>none
def akG(H:aA)(n:Nat)(g:Bool):D->Option D
 | .one (.c d)=>(tT H d n).bind (mkV g)
 |_=>none
def aqW(k:Nat):D->Option D
 | .one (.c (.ptr n id row col))=>some (.one (.c (.ptr n id row (col+k))))
 | .one (.c (.fQ cs))=>some (.one (.c (.fQ (cs.drop k))))
 |_=>none
def aoH(n:Nat)(rows:List (List D1))(k:Int):Option D:=
 if 0<=k then
  match rows[k.toNat]? with
  |some r=>if r.length=n then some (.one (.c (.fQ r))) else none
  |none=>none
 else none
def aqQ(n:Nat):D->D->Option D
 | .one (.c (.osl m id off len _)),.one (.c (.v (.int _ k)))=>if m=n/\0<=k/\k<len then some (.one (.c (.ptr n id (off+k.toNat) 0))) else none
 | .one (.c (.isl rows)),.one (.c (.v (.int _ k)))=>aoH n rows k
 |_,_=>none
def al4(n len:Nat):D->D->Option D
 | .one (.c (.ptr m id row col)),.one (.c (.v (.int _ k)))=>if 0<=k/\k<len then some (.one (.c (.ptr m id row (col+k.toNat*n)))) else none
 |_,_=>none
def an3(op:BinOp):D->D->Option D
 | .one (.c (.v a)),.one (.c (.v b))=>(SA op a b).map fun v=>.one (.c (.v v))
 |_,_=>none
def atP(neg:Bool):D->D->Option D
 | .one (.c (.v (.bool a))),.one (.c (.v (.bool b)))=>some (.one (.c (.v (.bool (if neg then a != b else a==b)))))
 |_,_=>none
def unD:UnOp->D->Option D
 | .not,.one (.c (.v (.bool b)))=>some (.one (.c (.v (.bool !b))))
 | .neg,.one (.c (.v (.int k n)))=>some (.one (.c (.v (.int k (k.wrap (0-n))))))
 |_,_=>none
def amP(k:IntKind):D->Option D
 | .one (.c (.v (.int _ n)))=>some (.one (.c (.v (.int k (k.wrap n)))))
 |_=>none
def arV:Bool->D->Option D
 |true,.one (.c (.v (.string s)))=>some (.one (.c (.v (.int .i64 s.size))))
 |false,.one (.c (.isl rows))=>some (.one (.c (.v (.int .i64 rows.length))))
 |false,.one (.c (.osl _ _ _ len _))=>some (.one (.c (.v (.int .i64 len))))
 |_,_=>none
def atJ:D->Option D
 | .one (.c (.osl _ _ _ _ cap))=>some (.one (.c (.v (.int .i64 cap))))
 |_=>none
def arJ(i:Nat):D->Option D
 | .tup xs=>(xs[i]?).map .one
 |_=>none
def EA(d:Nat):Option D->Option Nat
 |none=>some d
 |some (.one (.c (.v (.int _ k))))=>if 0<=k then some k.toNat else none
 |_=>none
def sJ(n:Nat)(x:D)(lo hi mx:Option D):Option D:=
 match x with
 | .one (.c (.isl rows))=>
   match mx,EA 0 lo,EA rows.length hi with
   |none,some l,some h=>if l<=h/\h<=rows.length/\(∀r∈rows,r.length=n) then some (.one (.c (.isl ((rows.drop l).take (h-l))))) else none
   |_,_,_=>none
 | .one (.c (.osl m id off len cap))=>
   match EA 0 lo,EA len hi,EA cap mx with
   |some l,some h,some a=>(ZU n l h a (.osl m id off len cap)).map fun d=>.one (.c d)
   |_,_,_=>none
 |_=>none
def asY:D->Option D
 | .one (.c (.isl _))=>some (.one (.c .nil))
 | .one (.c (.osl _ _ _ _ _))=>some (.one (.c .nil))
 |_=>none
def aq0(d:Bool):D->D->Option D
 | .one (.c (.v (.int k a))),.one (.c (.v (.int _ b)))=>some (.one (.c (.v (.int k (if d then (if b<a then b else a) else (if a<b then b else a))))))
 |_,_=>none
def aqE(off n:Nat)(g:Bool):D->Option D
 | .one (.agg cs)=>if off+n<=cs.length then mkV g ((cs.drop off).take n) else none
 |_=>none
def afW:Option (List D1)->Option D
 |some cs=>some (.one (.agg cs))
 |none=>none
def akJ(cs:List D1)(off n:Nat)(e:Env)(a:List (Nat×Nat×aT)):D->Option (List D1)
 | .one d=>if d.cells.length=n/\off+n<=cs.length then sH e (iA cs off d.cells) a else none
 |_=>none
def ldR(r:Option (List D1))(col k:Nat):Option (List D1):=
 match r with
 |some r=>if col+k<=r.length then some ((r.drop col).take k) else none
 |none=>none
def ldO(o:Option bA)(n row col k:Nat):Option (List D1):=
 match o with
 |some o=>if o.n=n then ldR o.rows[row]? col k else none
 |none=>none
def stR(id:Nat)(o:bA)(r:Option (List D1))(row col:Nat)(a:List D1):Option (Nat×bA):=
 match r with
 |some r=>if col+a.length<=r.length then some (id,⟨o.n,o.ext,o.rows.set row (iA r col a)⟩) else none
 |none=>none
def stO(id:Nat)(o:Option bA)(n row col:Nat)(a:List D1):Option (Nat×bA):=
 match o with
 |some o=>if o.n=n then stR id o o.rows[row]? row col a else none
 |none=>none
variable{row col:Nat}
theorem ZA{H:aA}{n id k:Nat}:tT H (.ptr n id row col) k=ldO (H id) n row col k:=by unfold tT ldO ldR;rfl
theorem X4{H:aA}{cs:List D1}{k:Nat}:tT H (.fQ cs) k=if k<=cs.length then some (cs.take k) else none:=rfl
theorem ZI{H:aA}{n id:Nat}{a:List D1}:PL H (.ptr n id row col) a=stO id (H id) n row col a:=by unfold PL stO stR;rfl
theorem akL{α:Type}[Inhabited α]{n:Nat}{enc:α->List D1}{l:List α}{k:Int}:
 aoH n (l.map enc) k=if 0<=k/\k<l.length/\(enc (l.getD k.toNat default)).length=n then some (.one (.c (.fQ (enc (l.getD k.toNat default))))) else none:=by
 unfold aoH
 by_cases a:0<=k
 ·by_cases d:k<l.length;·have b:k.toNat<l.length:=(by omega);simp[a,d,b]
  ·have b: ¬k.toNat<l.length:=(by omega);simp[a,d,b]
 ·simp[a]
theorem apK{α:Type}[Inhabited α]{enc:α->List D1}{l:List α}{i k:Nat}:
 ldR ((l.map enc)[i]?) col k=if i<l.length/\col+k<=(enc (l.getD i default)).length then some (((enc (l.getD i default)).drop col).take k) else none:=by
 by_cases h:i<l.length
 ·simp[ldR,h]
 ·simp[ldR,h]
theorem ao5{α:Type}[Inhabited α]{enc:α->List D1}{l:List α}{id:Nat}{o:bA}{i:Nat}{a:List D1}:
 stR id o ((l.map enc)[i]?) row col a=if i<l.length/\col+a.length<=(enc (l.getD i default)).length then some (id,⟨o.n,o.ext,o.rows.set row (iA (enc (l.getD i default)) col a)⟩) else none:=by
 by_cases h:i<l.length
 ·simp[stR,h]
 ·simp[stR,h]
theorem ajW{α β:Type}{c:Prop}[Decidable c]{x:Option α}{f:α->Option β}:(if c then x else none).bind f=if c then x.bind f else none:=by split<;>rfl
section
variable{P:Program}{b:Nat}{live:List Nat}{K:Env -> aA -> Nat -> Prop}{L:List aY}{dst:Option Nat}{e:Env}{H:aA}{nx:Nat}{S:dJ}
theorem AWP.reg{T:Nat}{ops:List aY}{n:Nat}{Q:AQ}(h:wv P nx live (Q .normal) ops e H (nx+n) []):AWP P T (.region ops n live) e H nx Q:=AWP.region h
theorem aqL:wv P b live K [] e H nx S=K (e.wT live) H nx:=rfl
variable{ix:Nat}{m s:List Nat}
theorem as7{op:AOp}(a: ∃r,op.kind= .q r):wv P b live K (⟨ix,dst,op,none,m,s,false⟩::L) e H nx S=wvQ P b live K L dst e H nx S (aU (msk b m H) e op):=by
 obtain⟨r,a⟩:=a;unfold wv;simp only[avc,l8,vI,aop,a,entry,CC,if_false,List.nil_append]
 cases h:aU (msk b m H) e op with
 |none=>simp[wvQ]
 |some d=>simp[wvQ,wv]
theorem atM{op:AOp}(a: ∃r,op.kind= .q r):wv P b live K (⟨ix,dst,op,none,m,s,true⟩::L) e H nx S=wvL P b live K L dst e H nx S ix (fun d H'=>aU (msk b m H') e op=some d) (aU (msk b m H) e op):=by
 obtain⟨r,a⟩:=a;unfold wv;simp only[avc,l8,vI,aop,a,entry,if_true,List.singleton_append]
 cases h:aU (msk b m H) e op with
 |none=>simp[wvL]
 |some d=>simp[wvL,wv]
variable{k:Bool}
theorem am2{op:AOp}(c:op.kind= .a):wv P b live K (⟨ix,dst,op,none,m,s,k⟩::L) e H nx S=wvA P b live K L dst (b+ix) e H nx S (lT (b+ix) e op):=by
 unfold wv;simp only[avc,l8,vI,aop,c]
 cases h:lT (b+ix) e op with
 |none=>simp[wvA]
 |some d=>obtain⟨d,f⟩:=d;simp only[wvA,wv,Option.some.injEq,Prod.mk.injEq,eq_iff_iff];exact⟨by rintro⟨_,_,⟨rfl,rfl⟩,h⟩;exact h,fun h=>⟨_,_,⟨rfl,rfl⟩,h⟩⟩
variable{n:Nat}{x y:aT}
theorem amY{g:Bool}:wv P b live K (⟨ix,dst,.store n g x y,none,m,s,k⟩::L) e H nx S=wvS P b live K L dst m s e H nx S (LB (msk b m H) e (.store n g x y)):=by
 unfold wv;simp only[avc,l8,vI,aop,AOp.kind,HX]
 cases h:LB (msk b m H) e (.store n g x y) with
 |none=>simp[wvS]
 |some d=>obtain⟨i,a⟩:=d;simp only[wvS,wv,Option.some.injEq,Prod.mk.injEq,eq_iff_iff];exact⟨by rintro⟨_,_,⟨rfl,rfl⟩,h⟩;exact h,fun h=>⟨_,_,⟨rfl,rfl⟩,h⟩⟩
theorem ahJ:wv P b live K (⟨ix,dst,.append n x y,none,m,s,k⟩::L) e H nx S=wvP P b live K L dst (b+ix) m s e H nx S (amE (x.ev e)) (IX (msk b m H) e (.append n x y)):=by
 unfold wv;simp only[avc,l8,vI,aop,AOp.kind,HX]
 cases h:IX (msk b m H) e (.append n x y) with
 |none=>simp[wvP]
 |some d=>obtain⟨dl,a,k',rows⟩:=d;simp only[wvP,wv,Option.some.injEq,Prod.mk.injEq,eq_iff_iff];exact⟨by rintro⟨_,_,_,_,⟨rfl,rfl,rfl,rfl⟩,h⟩;exact h,fun h=>⟨_,_,_,_,⟨rfl,rfl,rfl,rfl⟩,h⟩⟩
theorem an4{f:FuncId}{xs:List aT}:wv P b live K (⟨ix,dst,.call f xs,none,m,s,k⟩::L) e H nx S=aB P f (xs.map (·.ev e)) (msk b m H) nx (DQ P b live K L dst m s e H S):=by unfold wv;simp only[avc,l8,vI,aop,AOp.kind,HX];rfl
theorem amM{t:Nat}{w:Bool}{op:AOp}{x:Bool}(h:e t= .one (.c (.v (.bool x)))):wv P b live K (⟨ix,dst,op,some (t,w),m,s,k⟩::L) e H nx S=if x=w then wv P b live K (⟨ix,dst,op,none,m,s,k⟩::L) e H nx S else wv P b live K L (e.put dst (.tup [])) H nx S:=by
 unfold wv;simp only[avc,l8,vI,h];by_cases a:x=w;·subst a;simp;exact brL
 ·have:(x==w)=false:=by simpa using a
  simp[a,this]
theorem alM{d:D}:wvQ P b live K L dst e H nx S (some d)=wv P b live K L (e.put dst d) H nx S:=rfl
theorem amH:wvQ P b live K L dst e H nx S none=False:=rfl
theorem ao9{c:Prop}[Decidable c]{x:Option D}:wvQ P b live K L dst e H nx S (if c then x else none)=(c/\wvQ P b live K L dst e H nx S x):=by split<;>rename_i h<;>simp[h,wvQ]
theorem am8{c:Prop}[Decidable c]{x:Option D}:wvQ P b live K L dst e H nx S (if c then none else x)=(¬c/\wvQ P b live K L dst e H nx S x):=by split<;>rename_i h<;>simp[h,wvQ]
theorem alC{d:D}{p:Nat}{g:D->aA->Prop}:wvL P b live K L dst e H nx S p g (some d)=wv P b live K L (e.put dst d) H nx ((p,g d)::S):=rfl
theorem am3{id:Nat}{d:D}{a:bA}:wvA P b live K L dst id e H nx S (some (d,a))=wv P b live K L (e.put dst d) (H.set id a) nx S:=rfl
theorem apI{id:Nat}{c:Prop}[Decidable c]{x:Option (D×bA)}:wvA P b live K L dst id e H nx S (if c then x else none)=(c/\wvA P b live K L dst id e H nx S x):=by split<;>rename_i h<;>simp[h,wvA]
variable{st:List Nat}
theorem al6{i:Nat}{a:bA}:wvS P b live K L dst m st e H nx S (some (i,a))=(lU S st (dT b m H ((msk b m H).set i a))/\wv P b live K L (e.put dst .dead) (dT b m H ((msk b m H).set i a)) nx S):=rfl
theorem an8{c:Prop}[Decidable c]{x:Option (Nat×bA)}:wvS P b live K L dst m st e H nx S (if c then x else none)=(c/\wvS P b live K L dst m st e H nx S x):=by split<;>rename_i h<;>simp[h,wvS]
theorem alL{id:Nat}{dl:Option Nat}{k a:Nat}{rows:List (List D1)}:wvP P b live K L dst id m st e H nx S a (some (dl,n,k,rows))=
 (k<=2147483647/\ ∀cap,k<=cap->a<=cap->lU S st (dT b m H ((VR (msk b m H) dl).set id ⟨n,cap,rows⟩))/\wv P b live K L (e.put dst (.one (.c (.osl n id 0 k cap)))) (dT b m H ((VR (msk b m H) dl).set id ⟨n,cap,rows⟩)) nx S):=rfl
theorem amW{r:D}{H':aA}:DQ P b live K L dst m st e H S r H' nx=(lU S st (dT b m H H')/\wv P b live K L (e.put dst r) (dT b m H H') nx S):=rfl
theorem anI:msk b [] H=H:=by funext i;simp[msk]
theorem ahA{H':aA}:dT b [] H H'=H':=by funext i;simp[dT]
theorem Z9{S:dJ}{H:aA}:lU S [] H=True:=by simp[lU]
theorem adO:aU H e (.move x)=some (x.ev e):=rfl
theorem ac7{c:aT}:aU H e (.pick c x y)=ae4 (c.ev e) (x.ev e) (y.ev e):=by unfold aU ae4;rfl
theorem YM:aU H e (.tF x)=arP (x.ev e):=by unfold aU arP;rfl
theorem adH{g:Bool}:aU H e (.load n g x)=akG H n g (x.ev e):=by unfold aU akG;rfl
theorem aiB{k:Nat}:aU H e (.fld k x)=aqW k (x.ev e):=by unfold aU aqW;rfl
theorem ahE{i:aT}:aU H e (.idx n x i)=aqQ n (x.ev e) (i.ev e):=by unfold aU aqQ aoH;rfl
theorem aeR{l:Nat}{i:aT}:aU H e (.TL n l x i)=al4 n l (x.ev e) (i.ev e):=by unfold aU al4;rfl
theorem aiM{op:BinOp}:aU H e (.bin op x y)=an3 op (x.ev e) (y.ev e):=by unfold aU an3;rfl
theorem aEH{g:Bool}:aU H e (.beq g x y)=atP g (x.ev e) (y.ev e):=by unfold aU atP;rfl
theorem akA{op:UnOp}:aU H e (.un op x)=unD op (x.ev e):=by unfold aU unD;rfl
theorem acM{k:IntKind}:aU H e (.conv k x)=amP k (x.ev e):=by unfold aU amP;rfl
theorem ahF{s:Bool}:aU H e (.len s x)=arV s (x.ev e):=by unfold aU arV;rfl
theorem agP{i:Nat}:aU H e (.ext x i)=arJ i (x.ev e):=by unfold aU arJ;rfl
theorem aoI{d:Nat}{x:Option aT}:HD e d x=EA d (x.map (·.ev e)):=by
 cases x with
 |none=>rfl
 |some x=>simp only[HD,EA,Option.map];cases x.ev e with
  |one x=>cases x with
   |c x=>cases x with
    |v x=>cases x<;>rfl
    |_=>rfl
   |agg _=>rfl
  |_=>rfl
theorem ah8{lo hi mx:Option aT}:aU H e (.slc n x lo hi mx)=sJ n (x.ev e) (lo.map (·.ev e)) (hi.map (·.ev e)) (mx.map (·.ev e)):=by
 simp only[aU,sJ,aoI]
 cases x.ev e with
 |one x=>cases x with
  |c x=>cases x with
   |isl rows=>
    cases mx with
    |none=>
     simp only[Option.map_none]
     cases EA 0 (lo.map (·.ev e)) with
     |none=>rfl
     |some l=>cases EA rows.length (hi.map (·.ev e))<;>rfl
    |some m=>rfl
   |_=>rfl
  |agg _=>rfl
 |_=>rfl
theorem ai3{g:Bool}:aU H e (.mmx g x y)=aq0 g (x.ev e) (y.ev e):=by unfold aU aq0;rfl
theorem abJ{z:List D1}{a:List (Nat×Nat×aT)}:aU H e (.build z a)=afW (sH e z a):=by simp only[aU];cases sH e z a<;>rfl
theorem ahW{cs:List D1}:sH e cs []=some cs:=rfl
theorem ac1{cs:List D1}{off:Nat}{a:List (Nat×Nat×aT)}:sH e cs ((off,n,x)::a)=akJ cs off n e a (x.ev e):=by unfold sH akJ;rfl
end
def wvG(P:Program)(b:Nat)(live:List Nat)(K:Env->aA->Nat->Prop)(o:aY)(L:List aY)(w:Bool)(e:Env)(H:aA)(nx:Nat)(S:dJ):D->Prop
 | .one (.c (.v (.bool x)))=>if x=w then wv P b live K (o::L) e H nx S else wv P b live K L (e.put o.dst (.tup [])) H nx S
 | .tup []=>wv P b live K L (e.put o.dst (.tup [])) H nx S
 |_=>False
def ZT:Option Value->Option D
 |some v=>some (.one (.c (.v v)))
 |none=>none
section
variable{P:Program}{T:Nat}{b:Nat}{live:List Nat}{K:Env -> aA -> Nat -> Prop}{L:List aY}{dst:Option Nat}{e:Env}{H:aA}{nx:Nat}{S:dJ}{Q:AQ}{x y z:AC}
theorem as9{ix t:Nat}{w:Bool}{op:AOp}{m s:List Nat}{k:Bool}:wv P b live K (⟨ix,dst,op,some (t,w),m,s,k⟩::L) e H nx S=wvG P b live K ⟨ix,dst,op,none,m,s,k⟩ L w e H nx S (e t):=by
 generalize he:e t=d;by_cases a: ∃x,d= .one (.c (.v (.bool x)));·obtain⟨x,rfl⟩:=a;rw[amM he];rfl
 ·by_cases hu:d= .tup [];·subst hu;unfold wv;simp only[avc,l8,vI,he,wvG];rfl
  ·have f:vI (some (t,w)) e=none:=by
    unfold vI;simp only[he]
    split
    ·exact absurd ⟨_,rfl⟩ a
    ·exact absurd rfl hu
    ·rfl
   have g:wvG P b live K ⟨ix,dst,op,none,m,s,k⟩ L w e H nx S d=False:=by
    unfold wvG;split;·exact absurd ⟨_,rfl⟩ a
    ·exact absurd rfl hu
    ·rfl
   rw[g]
   unfold wv
   simp only[avc,l8,f]
def aM(P:Program)(T:Nat):List AC->Env->aA->Nat->AQ->Prop
 | [],e,H,nx,Q=>Q .normal e H nx
 |x::xs,e,H,nx,Q=>AWP P T x e H nx (AQ.then (fun e' H' nx'=>aM P T xs e' H' nx' Q) Q)
variable{zs:List AC}
theorem aM.run(h:aM P T [x] e H nx Q):AWP P T x e H nx Q:=AWP.mono h fun ex e' H' nx' _ a=>by cases ex<;>exact a
theorem aM.nil(h:Q .normal e H nx):aM P T [] e H nx Q:=h
theorem aM.skip(h:aM P T zs e H nx Q):aM P T (.skip::zs) e H nx Q:=AWP.skip h
theorem aM.ret(h:Q .ret e H nx):aM P T (.ret::zs) e H nx Q:=AWP.ret h
theorem aM.exit{id:Nat}(h:Q (.exit id) e H nx):aM P T (.exit id::zs) e H nx Q:=AWP.exit h
theorem aM.seq(h:aM P T (x::y::zs) e H nx Q):aM P T (.seq x y::zs) e H nx Q:=by
 refine AWP.seq fun K bPN=>AWP.mono h fun ex e' H' nx' _ a=> ?_
 cases ex with
 |normal=>exact bPN _ _ _ a
 |exit i=>exact a
 |ret=>exact a
theorem aM.reg{ops:List aY}{n:Nat}(h: ∀K:Env->aA->Nat->Prop,(∀e' H' nx',aM P T zs e' H' nx' Q->K e' H' nx')->wv P nx live K ops e H (nx+n) []):aM P T (.region ops n live::zs) e H nx Q:=AWP.region (h _ fun _ _ _ h=>h)
theorem aM.cond{c:aT}{t:Bool}(hc:c.ev e= .one (.c (.v (.bool t))))(a:t=true->aM P T (x::zs) e H nx Q)(b:t=false->aM P T (y::zs) e H nx Q):aM P T (.cond c x y::zs) e H nx Q:=AWP.cond t hc a b
theorem aM.block{id:Nat}(h: ∀K:Env->aA->Nat->Prop,(∀e' H' nx',aM P T zs e' H' nx' Q->K e' H' nx')->aM P T [x] e H nx (AQ.blk id K Q)):aM P T (.block id x::zs) e H nx Q:=by
 refine AWP.block fun K bPN=>AWP.mono (h K fun e' H' nx' h=>bPN e' H' nx' h).run fun ex e' H' nx' _ a=> ?_
 cases ex with
 |normal=>exact a
 |exit i=>
  simp only[AQ.blk] at a ⊢;split;·rename_i hi;rw[if_pos hi] at a;exact a
  ·rename_i hi;rw[if_neg hi] at a;exact a
 |ret=>exact a
theorem aM.conv{nh:Nat}{e':Env}{H':aA}{F:Nat->Prop}{σ:Nat->Nat}(a:Cv nx e H nh e' H' F σ)(h:aM P T (x::zs) e' H' nh Q):aM P T (x::zs) e H nx Q:=AWP.conv (m5 nx) (.inl rfl) a h
theorem aM.EJ(n:Nat)(h:aM P T (x::zs) e (H.set nx ⟨n,0,[]⟩) (nx+1) Q):aM P T (x::zs) e H nx Q:=AWP.EJ n h
theorem aM.loop{α:Type}(E:α->Env)(G:α->aA)(nh:Nat)(μ:α->Nat)(a:α)(d: ∃F σ,Cv nx e H nh (E a) (G a) F σ)
 (h: ∀u,∀K:Env->aA->Nat->Prop,(∀e' H' nx' b,nh<=nx'->μ b<μ u->(∃F σ,Cv nx e' H' nh (E b) (G b) F σ)->K e' H' nx')->aM P T [x] (E u) (G u) nh (AQ.then K Q)):aM P T (.loop x::zs) e H nx Q:=
 AWP.loop E G nh μ a d fun u K bPN=>AWP.mono (h u K bPN).run fun ex e' H' nx' _ c=>by
  cases ex with
  |normal=>exact c
  |exit i=>exact c
  |ret=>exact c
theorem aB.body{f:FuncId}{fn:Func}{ac:AC}{rs:List aW}{cs:List Cert}{args:List D}{c:D->aA->Nat->Prop}
 (g:P.funcs[f]?=some fn) (b:qY P f=true) (hc:aO P fn cs=some (ac,rs)) (hl:args.length<=fn.ntmps)
 (h: ∀Q:AQ,(∀ex e' H' nx' d nh e a F σ,ex= .normal\/ex= .ret->yT H' e' rs=some d->CvR nx d H' nh e a F σ->c e a nh->Q ex e' H' nx')->aM P fn.ntmps [ac] (Env.args 0 args) H nx Q):aB P f args H nx c:=
 aB.enter g b hc hl fun Q i=>(h Q i).run
theorem aA.set_set{H:aA}{i:Nat}{x y:bA}:(H.set i x).set i y=H.set i y:=by funext j;simp only[aA.set];split<;>rfl
theorem ae3{v:Value}:ZT (some v)=some (.one (.c (.v v))):=rfl
theorem acF:ZT none=none:=rfl
theorem ah5{c:Prop}[Decidable c]{x:Option Value}:ZT (if c then none else x)=if c then none else ZT x:=by split<;>rfl
theorem ao6{op:BinOp}{u v:Value}:an3 op (.one (.c (.v u))) (.one (.c (.v v)))=ZT (SA op u v):=by simp only[an3];cases SA op u v<;>rfl
end
attribute [go_sem] aqL as7 atM am2 amY ahJ an4 alM amH ao9 am8 alC am3 apI al6 an8 alL anI ahA Z9 adO ac7 YM adH aiB ahE aeR aiM aEH akA acM ahF agP ah8 ai3 abJ ahW ac1 AOp.kind exists_eq' Kind.q.injEq Env.wT Env.put Env.args Env.set aT.ev AQ.then AQ.blk ofV reduceIte Nat.reduceEqDiff Nat.reduceAdd arP akG aqW aqQ al4 ao6 atP unD amP arV atJ arJ asY aq0 aqE afW akJ ZA X4 ldO apK ZI stO ao5 akL ajW CF forall_exists_index and_imp forall_apply_eq_imp_iff₂ implies_true aA.set_set aA.set aA.nil aA.del mkV Option.bind_some Option.bind_none Option.map_some Option.map_none List.getElem?_cons_zero List.getElem?_cons_succ List.length_cons List.length_nil List.take_succ_cons List.take_zero List.drop_succ_cons bq5 List.take_nil List.drop_nil List.nil_append List.cons_append bq6 n3 q0 List.set_cons_zero List.set_cons_succ bqW Nat.reduceLeDiff Y4 Nat.add_zero m5 true_and and_true ae3 acF ah5 SA lT LB iA IX J7 VR DV.cells ae4 aa5 chunk List.replicate_succ List.replicate_zero List.flatten_cons List.flatten_nil CC beq_self_eq_true
theorem aaO{P:Program}{b:Nat}{live:List Nat}{K:Env->aA->Nat->Prop}{L:List aY}{dst:Option Nat}{e:Env}{H:aA}{nx:Nat}{S:dJ}{ix:Nat}{k:XK}{xs:List aT}{m s:List Nat}{a:Bool}(c:k.kind= .l):
 wv P b live K (⟨ix,dst,.xop k xs,none,m,s,a⟩::L) e H nx S=xl P (b+ix) (msk b m H) nx (DQ P b live K L dst m s e H S) k (xs.map (·.ev e)):=by
 unfold wv
 simp only[avc,l8,vI,aop,AOp.kind,c,HX]
 rfl
def xlC(H:aA)(nx:Nat)(R:D->aA->Nat->Prop):Option (Nat×bA×Nat)->Prop
 |some (i,a,k)=>R (.one (.c (.v (.int .i64 k)))) (H.set i a) nx
 |none=>False
def xlZ(H:aA)(nx:Nat)(R:D->aA->Nat->Prop):Option (Nat×bA)->Prop
 |some (i,a)=>R (.tup []) (H.set i a) nx
 |none=>False
section
variable{P:Program}{id:Nat}{H:aA}{nx:Nat}{R:D -> aA -> Nat -> Prop}
theorem aq8{neg:Bool}{rows:List (List D1)}:xl P id H nx R (.qJ neg) [.one (.c (.isl rows))]=if rows.length=0 then ∀b,R (bD b) H nx else R (bD neg) H nx:=rfl
theorem aqM{neg:Bool}{n i off len cap:Nat}:xl P id H nx R (.qJ neg) [.one (.c (.osl n i off len cap))]=if cap=0 then ∀b,R (bD b) H nx else R (bD neg) H nx:=rfl
theorem apH{n:Nat}{d s:D}:xl P id H nx R (.copy n) [d,s]=xlC H nx R (VX H n d s):=by simp only[xl];cases VX H n d s<;>rfl
theorem ak1{n:Nat}{z:List D1}{d:D}:xl P id H nx R (.clear n z) [d]=xlZ H nx R (MN H n z d):=by simp only[xl];cases MN H n z d<;>rfl
theorem aqP{f:FuncId}{a:List D}:xl P id H nx R (.aaN f) a=asG P f a H nx R:=rfl
theorem alV{i k:Nat}{a:bA}:xlC H nx R (some (i,a,k))=R (.one (.c (.v (.int .i64 k)))) (H.set i a) nx:=rfl
theorem anU{c:Prop}[Decidable c]{x:Option (Nat×bA×Nat)}:xlC H nx R (if c then x else none)=(c/\xlC H nx R x):=by split<;>rename_i h<;>simp[h,xlC]
theorem ajZ{i:Nat}{a:bA}:xlZ H nx R (some (i,a))=R (.tup []) (H.set i a) nx:=rfl
theorem ao3{c:Prop}[Decidable c]{x:Option (Nat×bA)}:xlZ H nx R (if c then x else none)=(c/\xlZ H nx R x):=by split<;>rename_i h<;>simp[h,xlZ]
end
attribute [go_sem] aaO XK.kind aq8 aqM apH ak1 aqP alV anU ajZ ao3 amW VX MN apP WT G2 xq bD true_or
theorem ajQ{r:List D1}{k:Nat}:ldR (some r) col k=if col+k<=r.length then some ((r.drop col).take k) else none:=rfl
theorem al0{id:Nat}{o:bA}{r:List D1}{a:List D1}:stR id o (some r) row col a=if col+a.length<=r.length then some (id,⟨o.n,o.ext,o.rows.set row (iA r col a)⟩) else none:=rfl
attribute [go_sem] ajQ al0 Int.toNat_natCast
def noF:Nat->Prop:=fun _=>False
section
variable{H G:aA}{F:Nat -> Prop}{σ:Nat -> Nat}{nx nh:Nat}{e e':Env}
theorem bB{d:D1}(h:d.dQ=true):Cv1 H F σ nh d d:=.frz (.same d h)
theorem an2{n id a off len cap:Nat}(h:a<nh)(hs:σ a=id):Cv1 H F σ nh (.osl n a off len cap) (.osl n id off len cap):=by subst hs;exact .osl n a off len cap h
theorem afZ{n id a row col:Nat}(h:a<nh)(hs:σ a=id):Cv1 H F σ nh (.ptr n a row col) (.ptr n id row col):=by subst hs;exact .ptr n a row col h
theorem aa6{id a:Nat}(h:a<nh)(hs:σ a=id):Cv1 H F σ nh (.omap a) (.omap id):=by subst hs;exact .omap a h
theorem afQ{n id b off a c:Nat}:Cv1 H F σ nh (.osl n id off 0 0) (.osl c b a 0 0):=.VS n id b off a c
theorem eP:CvL H F σ nh [] []:=⟨rfl,fun i x y h=>by simp at h⟩
theorem aH{x y:D1}{xs ys:List D1}(f:Cv1 H F σ nh x y)(e:CvL H F σ nh xs ys):CvL H F σ nh (x::xs) (y::ys):=by
 refine⟨by simp[e.1],fun i a b c d=> ?_⟩
 match i with
 |0=>simp at c d;subst c;subst d;exact f
 |i+1=>exact e.2 i a b (by simpa using c) (by simpa using d)
theorem GW{xs:List D1}(h: ∀x∈xs,x.dQ=true):CvL H F σ nh xs xs:=by refine⟨rfl,fun i a b c d=> ?_⟩;rw[c] at d;cases d;exact bB (h a (s3 c))
theorem bS{o:bA}(h: ∀r∈o.rows,∀x∈r,x.dQ=true):CvO H F σ nh o o:=⟨rfl,rfl,m5 _,fun _ h=>h,fun i r hr=>⟨r,hr,GW (h r (s3 hr))⟩⟩
theorem aP{n m:Nat}{r r':List D1}(h:CvL H F σ nh r' r):CvO H F σ nh ⟨n,m,[r']⟩ ⟨n,m,[r]⟩:=by
 refine⟨rfl,rfl,m5 _,fun _ h=>(by cases h),fun i a b=> ?_⟩
 match i with
 |0=>simp at b;subst b;exact⟨r,rfl,h⟩
 |i+1=>simp at b
theorem PS:CvH H F σ nh .nil:=⟨fun id o h=>(by cases h),fun i j o o' h=>(by cases h)⟩
theorem anZ{t:Nat}{d:D}(h:CvE H F σ nh e' e)(a:CvD H F σ nh d (e t)):CvE H F σ nh (e'.set t d) e:=by
 intro u;simp only[Env.set];split;·rename_i hu;subst hu;exact a
 ·exact h u
theorem apS{x y:D1}(h:Cv1 H F σ nh x y):CvD H F σ nh (.one (.c x)) (.one (.c y)):=h
theorem lY{xs ys:List D1}(h:CvL H F σ nh xs ys):CvD H F σ nh (.one (.agg xs)) (.one (.agg ys)):=h
theorem agI{d:D}(h:CvD H noF id nx d d):CvR nx d H nx d .nil noF id:=⟨m5 _,fun _ _=>rfl,h,PS⟩
theorem ajE{d:D}(h:d.plain=true):CvD H F σ nh d d:=by
 have bPP: ∀x:DV,x.cells.all D1.plain=true->CvV H F σ nh x x:=by
  intro x j;have e: ∀y∈x.cells,y.dQ=true:=fun y k=>by have:=w2.1 j y k;cases y<;>simp_all [D1.plain,D1.dQ]
  cases x with
  |c y=>exact bB (e y (by simp[DV.cells]))
  |agg ys=>exact GW e
 cases d with
 |one x=>exact bPP x (by cases x<;>simpa [D.plain,DV.cells] using h)
 |tup xs=>refine⟨rfl,fun i a b f g=> ?_⟩;rw[f] at g;cases g;simp only[D.plain,w2] at h;exact bPP a (w2.2 (h a (s3 f)))
 |dead=>trivial
theorem aZ{Q:AQ}{rs:List aW}{R:D->Prop}(e: ∀ex b H2 a d nh d2 f F σ,ex=AEx.normal\/ex=AEx.ret->yT H2 b rs=some d->CvR nx d H2 nh d2 f F σ->(d2.plain=true/\R d2)->Q ex b H2 a)
 {b:Env} {H2:aA} {a:Nat} (d:D) (g:yT H2 b rs=some d) (c:d.plain=true) (h:R d):Q .ret b H2 a:=
 e _ _ _ _ d nx d .nil noF id (.inr rfl) g (agI (ajE c)) ⟨c,h⟩
end
end Go.AM
