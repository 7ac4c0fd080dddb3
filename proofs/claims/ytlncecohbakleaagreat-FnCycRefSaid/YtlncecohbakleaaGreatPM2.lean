/- Rules and contracts. -/
import Derived.Test.YtlncecohbakleaaGreatPM1
import Derived.Deep.LoopGhost
set_option linter.unusedVariables false
set_option linter.unusedSimpArgs false
set_option maxRecDepth 100000
set_option maxHeartbeats 8000000
namespace Go.AM
open Go.RowKit
section
variable{P:Program}{c c':Cf}{H H':aA}{T:Nat}{e:Env}{a:Act}{b:Nat}
theorem Mj{M:Nat->Prop}[DecidablePred M]{Hm:aA}(hs:St c H)(hm: ∀i,Hm i=if M i then none else H i)(v:St c' H')(b:Step c Hm c' H'):
 St c' (fun i=>if M i then H i else H' i)/\Step c H c' (fun i=>if M i then H i else H' i):=by
 have s: ∀i o,Hm i=some o->H i=some o:=by
  intro i o h;rw[hm] at h;split at h;·simp at h
  ·exact h
 have A: ∀k,B0 c Hm k->B0 c H k:=fun k ⟨i,o,x,y,z⟩=>⟨i,o,s i o x,y,z⟩
 have n: ∀i o,M i->H i=some o->0<o.ext->¬B0 c Hm (c.ρ i).1:=by
  rintro i o e m he ⟨j,o',x,y,z⟩;have p:j≠i:=by rintro rfl;rw[hm,if_pos e] at x;simp at x
  exact hs.sep j i o' o (s j o' x) m y he p z
 have q: ∀i o,H i=some o->0<o.ext->(c.ρ i).1<c.w.heap.size:=by intro i o m he;exact(hs.blk i o m he).lt
 have a: ∀i o,H i=some o->c'.ρ i=c.ρ i:=fun i o m=>b.ρ i (hs.named i o m)
 have f: ∀i o,M i->H i=some o->0<o.ext->c'.w.heap[(c.ρ i).1]?=c.w.heap[(c.ρ i).1]?:=fun i o e m he=>b.frame _ (q i o m he) (n i o e m he)
 have C: ∀i o (k:Nat) r,H i=some o->o.rows[k]?=some r->0<o.ext:=by intro i o k r m hr;have:=(hs.wf i o m).1;have E:k<o.rows.length:=(adB.1 hr).1;omega
 have g:Step c H c' (fun i=>if M i then H i else H' i):={
  ρ:=b.ρ
  N:=b.N
  I:=b.I
  I':=fun k E=>(b.I' k E).imp (fun h=>h) (fun h=>h.imp (A k) fun h=>h)
  size:=b.size
  os:=b.os
  tape:=b.tape
  output:=b.output
  frame:=fun k E F=>b.frame k E fun h=>F (A k h)
  own:=by
   rintro k ⟨i,o,x,y,z⟩;simp only at x;split at x;·rename_i e;left;exact⟨i,o,x,y,by rw[a i o x] at z;exact z⟩
   ·exact(b.own k ⟨i,o,x,y,z⟩).imp (A k) fun h=>h}
 have D: ∀d x,Rel c d x->Rel c' d x:=fun d x h=>h.step g hs
 refine⟨?_,g⟩
 refine {named:= ?_,wf:= ?_,blk:= ?_,cells:= ?_,sep:= ?_,imm:= ?_,old:=v.old}
 ·intro i o x;split at x;·exact b.N i (hs.named i o x)
  ·exact v.named i o x
 ·intro i o x;split at x;·exact hs.wf i o x
  ·exact v.wf i o x
 ·intro i o x he;split at x;·rename_i e;rw[a i o x,f i o e x he];exact hs.blk i o x he
  ·exact v.blk i o x he
 ·intro i o k j r d x hr G;split at x;·rename_i e;obtain⟨u,J,K⟩:=hs.cells i o k j r d x hr G;refine⟨u,?_,D _ _ K⟩;rw[a i o x,<-J];exact World.cell?_of_block (w:=c.w) (f i o e x (C i o k r x hr))
  ·exact v.cells i o k j r d x hr G
 ·intro i B o o' x t he l p;split at x<;>split at t;·rw[a i o x,a B o' t];exact hs.sep i B o o' x t he l p
  ·rename_i e _;intro heq;rw[a i o x] at heq;rcases b.own _ ⟨B,o',t,l,heq.symm⟩ with h|h;·exact n i o e x he h
   ·have:=q i o x he;omega
  ·rename_i _ e;intro heq;rw[a B o' t] at heq;rcases b.own _ ⟨i,o,x,he,heq⟩ with h|h;·exact n B o' e t l h
   ·have:=q B o' t l;omega
  ·exact v.sep i B o o' x t he l p
 ·intro i o x he;split at x
  ·rename_i e;rw[a i o x];intro L;rcases b.I' _ L with h|h|h;·exact hs.imm i o x he h
   ·exact n i o e x he h
   ·have:=q i o x he;omega
  ·exact v.imm i o x he
theorem ER.put(hs:St c H)(b:Step c H c' H')(he:ER c T e a){dst:Option Nat}(i: ∀t,dst=some t->t<T){d:D}{v:Value}(hr:iA c' d v):ER c' T (e.put dst d) (a.put dst v):=by
 obtain⟨f,g,h⟩:=he
 cases dst with
 |none=>exact⟨f,g,fun t=>(h t).step b hs⟩
 |some t=>
  refine⟨by simp[Act.put,f],g,fun u=> ?_⟩;simp only[Env.put,Env.set,Act.put];by_cases hu:u=t;·subst hu;rw[if_pos rfl];have:u<a.tmps.size:=(by rw[f];exact i u rfl);simpa [this] using hr
  ·rw[if_neg hu];have:(a.tmps.setIfInBounds t v).getD u undef=a.tmps.getD u undef:=(by simp[af9 (Ne.symm hu)]);rw[this];exact(h u).step b hs
structure RS(T b R:Nat)(c0:Cf)(H0:aA)(L:List bB)(c:Cf)(e:Env)(H:aA)(nx:Nat)(a:Act):Prop where
 st:St c H
 er:ER c T e a
 step:Step c0 H0 c H
 N: ∀i,c.N i->c0.N i\/(b<=i/\i<nx/\ ∀o∈L,i≠b+o.ix)
 nx:b+R<=nx
structure Tr(P:Program)(T R:Nat)(ops:Array Oper)(o:bB):Prop where
 ex: ∃ro,ops[o.ix]?=some ro/\TL P ro.op=o.op/\ro.dst=o.dst/\
  ((ro.guard=none/\o.guard=none)\/ ∃j w rj t,ro.guard=some (j,w)/\ops[j]?=some rj/\rj.dst=some t/\o.guard=some (t,w)/\t<T)
 dst: ∀t,o.dst=some t->t<T
 ix:o.ix<R
theorem tk{ops:Array Oper}{ro:Oper}{o:bB}(he:ER c T e a)
 (q:(ro.guard=none/\o.guard=none)\/ ∃j w i t,ro.guard=some (j,w)/\ops[j]?=some i/\i.dst=some t/\o.guard=some (t,w)/\t<T) {x:Bool} (h:DB o.guard e=some x):
 Region.wanted ro (yielded ops a.tmps)=x:=by
 rcases q with⟨f,g⟩|⟨j,w,i,t,f,g,n,r,p⟩
 ·rw[g] at h;simp[DB] at h;simp[Region.wanted,f,h]
 ·rw[r] at h;simp only[DB] at h;split at h;·rename_i y k;simp only[Option.some.injEq] at h;have hr:=he.2.2 t;rw[k] at hr;have d:=FT (c:=c) hr;have l:t<a.tmps.size:=(by rw[he.1];exact p);have b:yielded ops a.tmps j=some y:=(by simp only[yielded,g,n,Option.bind_some];simp[l] at d ⊢;rw[d]);simp only[Region.wanted,f,b,<-h];cases y<;>cases w<;>rfl
  ·rename_i k;simp only[Option.some.injEq] at h;have hr:=he.2.2 t;rw[k] at hr;obtain⟨vs,d,hl,_⟩:=hr;have m:vs=[]:=ad5 hl;subst m;have l:t<a.tmps.size:=(by rw[he.1];exact p);have b:yielded ops a.tmps j=none:=(by simp only[yielded,g,n,Option.bind_some];simp[l] at d ⊢;rw[d]);simp only[Region.wanted,f,b,<-h];rfl
  ·simp at h
theorem exec{ops:Array Oper}{o:bB}{L:List bB}{R:Nat}{c0:Cf}{H0:aA}{nx:Nat}{S:fE}{K:D->aA->Nat->fE->Prop}(f:Tr P T R ops o)(r: ∀i,c0.N i->i<b)(s: ∀o'∈L,o'.ix≠o.ix)(C: ∀o'∈L,o'.ix<R)
 (hs:RS T b R c0 H0 (o::L) c e H nx a) (h:pP P b o e H nx S K) {u:Act->World->Prop} {Q:Exit->Act->World->Prop}
 (A: ∀d H' nx' S' c' I,RS T b R c0 H0 L c' (e.put o.dst d) H' nx' I->K d H' nx' S'->u I c'.w):wpOp P ops Q o.ix u a c.w:=by
 obtain⟨ro,U,E,B,J⟩:=f.ex
 have t: ¬c.N (b+o.ix):=by
  intro j;rcases hs.N _ j with n|⟨_,_,n⟩
  ·have:=r _ n;omega
  ·exact n o (by simp) rfl
 have m: ∀i,c.N i->c0.N i\/(b<=i/\i<nx/\ ∀o'∈L,i≠b+o'.ix):=fun i hi=>(hs.N i hi).imp (fun h=>h) fun⟨x,y,z⟩=>⟨x,y,fun o' g=>z o' (by simp[g])⟩
 unfold wpOp
 rw[U]
 simp only
 unfold pP at h
 split at h
 ·rename_i F;rw[if_pos (tk hs.er J F)];left;unfold aop at h;split at h;·obtain⟨d,j,n⟩:=h;have p:=hs.st.forget (H':=msk b o.mask H) (fun i o' h=>by unfold msk at h;split at h<;>simp_all);obtain⟨v,k,hr⟩:=Nh (P:=P) (o:=ro) p hs.er (by rw[E];exact j);unfold Oper.wp;rw[k];show u _ _;rw[B];exact A d H nx _ c _ ⟨hs.st,hs.er.put hs.st (Step.refl c H) f.dst hr,hs.step,m,hs.nx⟩ n
  ·obtain⟨d,ob,j,n⟩:=h;obtain⟨v,c',k,G,l,hr,V⟩:=Lf (P:=P) (o:=ro) hs.st hs.er t (by rw[E];exact j);unfold Oper.wp;rw[k];show u _ _;rw[B];refine A d _ nx _ c' _ ⟨G,hs.er.put hs.st l f.dst hr,hs.step.trans l,fun i hi=> ?_,hs.nx⟩ n;rcases(V i).1 hi with rfl|hi;·refine .inr ⟨by omega,by have:=hs.nx;have:=f.ix;omega,fun o' g O=>s o' g (by omega)⟩
   ·exact m i hi
  ·have p:=hs.st.forget (H':=msk b o.mask H) (fun i o' h=>by unfold msk at h;split at h<;>simp_all);refine Ru (P:=P) (o:=ro) p hs.er (nx:=nx) (fun i hi=> ?_) t (by rw[E];exact h) fun d v c' H' nx' W X Y Z k5 k6=> ?_
   ·rcases hs.N i hi with j|j;·have:=r i j;have:=hs.nx;omega
    ·exact j.2.1
   ·rw[B];have q:=Mj (M:=fun i=>i∈o.mask.map (b+ ·)) (Hm:=msk b o.mask H) hs.st (fun i=>rfl) W X;refine A d _ nx' _ c' _ ⟨q.1,hs.er.put hs.st q.2 f.dst Y,hs.step.trans q.2,fun i hi=> ?_,by have:=hs.nx;omega⟩ k6.2;rcases Z i hi with j|rfl|j;·exact(m i j).imp (fun h=>h) fun⟨x,y,z⟩=>⟨x,by omega,z⟩
    ·exact .inr ⟨by omega,by have:=hs.nx;have:=f.ix;omega,fun o' g O=>s o' g (by omega)⟩
    ·exact .inr ⟨by have:=hs.nx;omega,j.2,fun o' g O=>by have:=C o' g;have:=hs.nx;omega⟩
 ·rename_i F;rw[if_neg (by rw[tk hs.er J F];simp),B];exact A (.tup []) H nx _ c _ ⟨hs.st,hs.er.put hs.st (Step.refl c H) f.dst ⟨[],rfl,rfl,by simp⟩,hs.step,m,hs.nx⟩ h
 ·exact h.elim
inductive Anc(ops:Array Oper):Nat->Nat->Prop where
 |base {i j:Nat} {ro:Oper} {ed:Edge} (h:ops[i]?=some ro) (he:ed∈ro.after) (hb:Region.binds .any ed=true) (hj:ed.on=j):Anc ops i j
 |step {i k j:Nat} {ro:Oper} {ed:Edge} (h:ops[i]?=some ro) (he:ed∈ro.after) (hb:Region.binds .any ed=true) (hk:ed.on=k) (hr:Anc ops k j):Anc ops i j
def Zt(ms:List Nat)(es:List Edge):Nat:=es.foldl (fun s a=>if Region.binds .any a then s|||2^a.on|||ms.getD a.on 0 else s) 0
def PD:List Oper->List Nat->List Nat
 | [],ms=>ms
 |o::os,ms=>PD os (ms++[Zt ms o.after.toList])
theorem WQ{ms:List Nat}{j:Nat}: ∀(es:List Edge) (s:Nat),(es.foldl (fun s b=>if Region.binds .any b then s|||2^b.on|||ms.getD b.on 0 else s) s).testBit j=true->
 s.testBit j=true\/ ∃b∈es,Region.binds .any b=true/\(b.on=j\/(ms.getD b.on 0).testBit j=true)
 | [],s,h=>.inl h
 |b::es,s,h=>by
  simp only[List.foldl_cons] at h;rcases WQ es _ h with a|⟨c,a,e,f⟩
  ·split at a
   ·rename_i d;simp only[Nat.testBit_or,aeY] at a;rcases a with(a|a)|a;·exact .inl a
    ·rw[Nat.testBit_two_pow] at a;exact .inr ⟨b,by simp,d,.inl (by simpa using a)⟩
    ·exact .inr ⟨b,by simp,d,.inr a⟩
   ·exact .inl a
  ·exact .inr ⟨c,by simp[a],e,f⟩
theorem TE{ops:Array Oper}: ∀(os:List Oper) (ms:List Nat),(∀k:Nat,os[k]?=ops[ms.length+k]?)->(∀i j:Nat,(ms.getD i 0).testBit j=true->Anc ops i j)->
 ∀i j:Nat,((PD os ms).getD i 0).testBit j=true->Anc ops i j
 | [],ms,_,h=>h
 |o::os,ms,f,h=>by
  simp only[PD];refine TE os _ (fun k=> ?_) (fun i j a=> ?_);·have:=f (k+1);simp only[List.getElem?_cons_succ,ac7,List.length_singleton] at this ⊢;rw[this];congr 1;omega
  ·by_cases hi:i<ms.length;·rw[ae2,adU,if_pos hi,<-ae2] at a;exact h i j a
   ·by_cases d:i=ms.length
    ·subst d;rw[ae2,adU,if_neg hi] at a;simp at a;have b:ops[ms.length]?=some o:=(by have:=f 0;simpa using this.symm);rcases WQ (ms:=ms) o.after.toList 0 a with e|⟨l,e,g,c⟩
     ·simp at e
     ·have hm:l∈o.after:=(by simpa using e);rcases c with c|c;·exact .base b hm g c
      ·exact .step b hm g rfl (h _ _ c)
    ·rw[ae2,adU,if_neg hi] at a;rw[afE (by simp;omega)] at a;simp at a
def Tp(ops:Array Oper)(a:Array Bool):Prop:=∀(i:Nat) (ro:Oper) (b:Edge),a.getD i false=true->ops[i]?=some ro->b∈ro.after->Region.binds .any b=true->a.getD b.on false=true
theorem Cz{ops:Array Oper}{a:Array Bool}(hc:Tp ops a){i j:Nat}(h:Anc ops i j)(hi: ∀(ro:Oper) (b:Edge),ops[i]?=some ro->b∈ro.after->Region.binds .any b=true->a.getD b.on false=true):
 a.getD j false=true:=by
 induction h with
 |base h he c d=>subst d;exact hi _ _ h he c
 |step h he c e hr f=>subst e;exact f fun ro b g k l=>hc _ ro b (hi _ _ h he c) g k l
end
def T6{α:Type}(f:α->α->Bool):List α->Bool
 | []=>true
 |x::xs=>xs.all (f x)&&T6 f xs
theorem QI{α:Type}{f:α->α->Bool}: ∀{l:List α},T6 f l=true->l.Pairwise (fun x y=>f x y=true)
 | [],_=>.nil
 |x::xs,h=>by simp only[T6,ad3,adK] at h;exact .cons h.1 (QI h.2)
def Ho(ops:Array Oper)(T:Nat):Option (Nat×Bool)->Option (Option (Nat×Bool))
 |none=>some none
 |some (j,w)=>match ops[j]? with
  |some a=>match a.dst with
   |some t=>if t<T then some (some (t,w)) else none
   |none=>none
  |none=>none
def Xv(T:Nat):Option Nat->Bool
 |none=>true
 |some t=>decide (t<T)
def Hi(P:Program)(T:Nat)(ops:Array Oper)(i:Nat)(mask La:List Nat)(look:Bool):Option bB:=
 match ops[i]? with
 |some ro=>match Ho ops T ro.guard with
  |some g=>if Xv T ro.dst&&(!look||(TL P ro.op).kind.FI) then some ⟨i,ro.dst,TL P ro.op,g,mask,La,look⟩ else none
  |none=>none
 |none=>none
def S5(P:Program)(T:Nat)(ops:Array Oper):List (Nat×List Nat×List Nat×Bool)->Option (List bB)
 | []=>some []
 | (i,m,s,k)::r=>match Hi P T ops i m s k,S5 P T ops r with
   |some o,some l=>some (o::l)
   |_,_=>none
def HT(ops:Array Oper)(a:List Nat)(l o:bB):Bool:=
 l.ix != o.ix&&((a.getD o.ix 0).testBit l.ix||comm l o)&&WC l o&&
 (match ops[l.ix]? with
  |some ro=>ro.after.toList.all fun b=> !Region.binds .any b||b.on != o.ix
  |none=>false)
def yi(ops:Array Oper)(l:bB):Bool:=
 match ops[l.ix]? with
 |some ro=>ro.after.toList.all fun a=> !Region.binds .any a||(a.on != l.ix&&decide (a.on<ops.size))
 |none=>false
def Xs(ops:Array Oper)(L:List bB):Bool:=L.length==ops.size&&L.all (yi ops)&&T6 (HT ops (PD ops.toList [])) L
def aa9:List Nat->List Nat->Bool
 | [],[]=>true
 |x::xs,y::ys=>x==y&&aa9 xs ys
 |_,_=>false
def tg(n:Nat):List (Nat×List Nat×List Nat×Bool):=(List.range n).map fun i=>(i,[],[],false)
def ey(P:Program)(T:Nat)(ops:Array Oper)(draw:Bool)(cert:List (Nat×List Nat×List Nat×Bool)):Option (List bB):=
 match S5 P T ops (if draw then cert else tg ops.size) with
 |some L=>if draw then (if Xs ops L then some L else none) else some L
 |none=>none
section
variable{P:Program}{c c':Cf}{H H':aA}{T:Nat}{e:Env}{a:Act}{b:Nat}{ops:Array Oper}
theorem zi{i:Nat}{m s:List Nat}{k:Bool}{o:bB}(h:Hi P T ops i m s k=some o):o.ix=i/\Tr P T ops.size ops o/\(o.look=true->o.op.kind.FI=true):=by
 unfold Hi at h;split at h
 ·rename_i ro b;split at h
  ·rename_i g a;split at h
   ·rename_i d;simp only[Option.some.injEq] at h;subst h;simp only[ad3,aeY,aeX] at d;refine⟨rfl,⟨⟨ro,b,rfl,rfl,?_⟩,fun t c=> ?_,(afN.1 b).1⟩,fun hl=> ?_⟩
    ·unfold Ho at a;split at a;·rename_i e;simp only[Option.some.injEq] at a;exact .inl ⟨e,a.symm⟩
     ·rename_i j w e;split at a
      ·rename_i l n;split at a
       ·rename_i t c;split at a;·rename_i f;simp only[Option.some.injEq] at a;exact .inr ⟨j,w,l,t,e,n,c,a.symm,f⟩
        ·simp at a
       ·simp at a
      ·simp at a
    ·have:=d.1;simp only at c;rw[c] at this;simpa [Xv] using this
    ·rcases d.2 with h|h;·simp only at hl;rw[hl] at h;cases h
     ·exact h
   ·simp at h
  ·simp at h
 ·simp at h
theorem UN: ∀{b:List (Nat×List Nat×List Nat×Bool)} {L:List bB},S5 P T ops b=some L->
 L.map (·.ix)=b.map (·.1)/\ ∀o∈L,Tr P T ops.size ops o/\(o.look=true->o.op.kind.FI=true)
 | [],L,h=>by simp only[S5,Option.some.injEq] at h;subst h;simp
 | (i,m,s,k)::r,L,h=>by
   simp only[S5] at h;split at h
   ·rename_i o l c d;simp only[Option.some.injEq] at h;subst h;obtain⟨e,f⟩:=UN d;obtain⟨g,j,n⟩:=zi c;refine⟨by simp[e,g],fun o' a=> ?_⟩;rcases adA.1 a with rfl|h;·exact⟨j,n⟩
    ·exact f o' h
   ·simp at h
theorem aaU{H:aA}{nx:Nat}{o:bB}{S:fE}{K:D->aA->Nat->fE->Prop}(h:pP P b o e H nx S K):
 pP P b o e H nx S fun d H' nx' S'=>K d H' nx' S'/\ ∀p∈S',p∈S\/ ∃d,p∈entry b o e d:=by
 unfold pP at*
 split at h
 ·unfold aop at*;split at h;·obtain⟨d,a,c⟩:=h;exact⟨d,a,c,fun p hp=>(adD.1 hp).elim (fun h=>.inr ⟨d,h⟩) .inl⟩
  ·obtain⟨d,f,a,c⟩:=h;exact⟨d,f,a,c,fun p hp=>.inl hp⟩
  ·exact E9 h fun d H' nx' _ a=>⟨a.1,a.2,fun p hp=>.inl hp⟩
 ·exact⟨h,fun p hp=>.inl hp⟩
 ·exact h
theorem tb{c0:Cf}{H0:aA}{Q:Env->aA->Nat->Prop}{l:Exit->Act->World->Prop}(k: ∀i,c0.N i->i<b)
 (m: ∀c e H nx a,RS T b ops.size c0 H0 [] c e H nx a->Q e H nx->l .normal a c.w): ∀(L:List bB) (c:Cf) (e:Env) (H:aA) (nx:Nat) (a:Act) (S:fE),
 (∀o∈L,Tr P T ops.size ops o)->(L.map (·.ix)).Nodup->RS T b ops.size c0 H0 L c e H nx a->avc P b Q L e H nx S->wpOps P ops l (L.map (·.ix)) a c.w
 | [],c,e,H,nx,a,S,_,_,hs,h=>m c e H nx a hs h
 |o::L,c,e,H,nx,a,S,g,j,hs,h=>by simp only[adG,aeA] at j;simp only[adG];rw[wpOps_cons];simp only[avc] at h;refine exec (g o (by simp)) k (fun o' f heq=>j.1 (heq▸ac9.2 ⟨o',f,rfl⟩)) (fun o' f=>(g o' (by simp[f])).ix) hs h fun d H' nx' S' c' n p q=> ?_;exact tb k m L c' _ H' nx' n S' (fun o' f=>g o' (by simp[f])) j.2 p q
structure Inv(ops:Array Oper)(L:List bB)(listed:Array Bool):Prop where
 size:listed.size=ops.size
 mem: ∀i,i<ops.size->(listed.getD i false=false↔∃o∈L,o.ix=i)
 closed:Tp ops listed
theorem Bg{a:Array Bool}{i j:Nat}(hi:i<a.size):(a.setIfInBounds i true).getD j false=if j=i then true else a.getD j false:=by
 by_cases b:j=i;·subst b;simp[hi]
 ·rw[if_neg b];simp[af9 (Ne.symm b)]
theorem Lt{c0:Cf}{H0:aA}{Q:Env->aA->Nat->Prop}{Qr:Exit->Act->World->Prop}(br: ∀i,c0.N i->i<b)
 (hQ: ∀c e H nx a,RS T b ops.size c0 H0 [] c e H nx a->Q e H nx->Qr .normal a c.w): ∀(fuel:Nat) (L:List bB) (f:Array Bool) (c:Cf) (e:Env) (H:aA) (nx:Nat) (a:Act) (S:fE),L.length<=fuel->
 (∀o∈L,Tr P T ops.size ops o/\(o.look=true->o.op.kind.FI=true)/\yi ops o=true)->L.Pairwise (fun x y=>HT ops (PD ops.toList []) x y=true)->Inv ops L f->
 RS T b ops.size c0 H0 L c e H nx a->tp b S L->avc P b Q L e H nx S->wpAny P .any ops Qr fuel f a c.w:=by
 have K: ∀(L:List bB) (f:Array Bool),(∀o∈L,Tr P T ops.size ops o/\(o.look=true->o.op.kind.FI=true)/\yi ops o=true)->L.Pairwise (fun x y=>HT ops (PD ops.toList []) x y=true)->
  Inv ops L f->Region.ready .any ops f=[]->L=[]:=by
  intro L f n hp hinv hr
  match L,n,hp,hinv with
  | [],_,_,_=>rfl
  |l::L,n,hp,hinv=>
   exfalso;obtain⟨⟨⟨ro,t,_⟩,_,Y⟩,_,B⟩:=n l (by simp);have ca:f.getD l.ix false=false:=(hinv.mem l.ix Y).2 ⟨l,by simp,rfl⟩
   have U:l.ix∈Region.ready .any ops f:=by
    unfold Region.ready;simp only[List.mem_filter,aeS];refine⟨Y,?_⟩;have s:l.ix<f.size:=(by rw[hinv.size];exact Y);have M:f.getD l.ix true=false:=(by have:f.getD l.ix false=f[l.ix]:=(by simp[s]);simp[s];rw[<-this];exact ca);simp only[M,Bool.not_false,t,Option.map_some,Option.getD_some,Bool.true_and,af4];intro u C;by_cases hb:Region.binds .any u=true
    ·simp only[hb,af7,Bool.false_or];simp only[yi,t,adK,aeY,aeX,ad3,bne_iff_ne,decide_eq_true_eq] at B;rcases B u (by simpa using C) with A|⟨A,h3⟩
     ·rw[hb] at A;cases A
     ·cases hl:f.getD u.on false with
      |true=>rfl
      |false=>
       obtain⟨o,Z,g⟩:=(hinv.mem u.on h3).1 hl;rcases adA.1 Z with rfl|Z;·exact absurd g.symm A
       ·have D:=(ad9.1 hp).1 o Z;simp only[HT,t,ad3,adK,aeY,aeX,bne_iff_ne] at D;rcases D.2 u (by simpa using C) with h5|h5;·rw[hb] at h5;cases h5
        ·exact absurd g.symm h5
    ·simp[hb]
   rw[hr] at U;simp at U
 intro fuel
 induction fuel with
 |zero=>
  intro L f c e H nx a S hlen n hp hinv hs hf h;have hL:L=[]:=ad5 (by omega);subst hL;refine⟨?_,hQ c e H nx a hs h⟩;unfold Region.ready;rw[List.filter_eq_nil_iff];intro i hi;simp only[aeS] at hi
  have:f.getD i true=true:=by
   have s:i<f.size:=by rw[hinv.size];exact hi
   cases hl:f.getD i false with
   |true=>simp[s] at hl ⊢;exact hl
   |false=>obtain⟨o,Z,_⟩:=(hinv.mem i hi).1 hl;simp at Z
  simp[this]
 |succ fuel ih=>
  intro L f c e H nx a S hlen n hp hinv hs hf h;refine⟨fun hr=> ?_,fun i hi=> ?_⟩;·have hL:=K L f n hp hinv hr;subst hL;exact hQ c e H nx a hs h
  ·unfold Region.ready at hi;simp only[List.mem_filter,aeS,ad3,aeX] at hi;obtain⟨V,W,E⟩:=hi;have s:i<f.size:=(by rw[hinv.size];exact V);have aa:f.getD i false=false:=(by simp[s] at W ⊢;exact W);obtain⟨o,Z,g⟩:=(hinv.mem i V).1 aa;obtain⟨pre,post,rfl⟩:=List.append_of_mem Z;obtain⟨⟨⟨ro,t,_⟩,_⟩,_⟩:=n o (by simp);rw[g] at t;simp only[t,Option.map_some,Option.getD_some,af4,aeY,aeX] at E
   have ao: ∀(v:Oper) (u:Edge),ops[i]?=some v->u∈v.after->Region.binds .any u=true->f.getD u.on false=true:=by
    intro v u M A h3;rw[t] at M;cases M;rcases E u A with D|D;·rw[h3] at D;cases D
    ·exact D
   have ad:=ae3.1 hp;have bb:=ad9.1 ad.2.1
   have F: ∀l∈pre,Comm l o:=by
    intro l hl;have M:=ad.2.2 l hl o (by simp);simp only[HT,ad3,aeY] at M;rcases M.1.1.2 with A|A;·exfalso;have X:=TE (ops:=ops) ops.toList [] (fun k=>by simp) (fun i j cc=>by simp at cc) o.ix l.ix A;rw[g] at X;have cd:=Cz hinv.closed X ao;have ai:=(n l (by simp[hl])).1.ix;have:=(hinv.mem l.ix ai).2 ⟨l,by simp[hl],rfl⟩;rw[cd] at this;cases this
    ·exact Jl A
   have O:(pre++o::post).Pairwise (fun q l=>WC q l=true):=hp.imp fun {x y} bk=>by simp only[HT,ad3] at bk;exact bk.1.2
   have G:=pull pre e H nx S F O hf h;simp only[avc] at G;have R:=aaU G
   have bp: ∀l∈pre++post,l.ix≠o.ix:=by
    intro l hl heq;rcases adD.1 hl with hl|hl;·have:=ad.2.2 l hl o (by simp);simp[HT,heq] at this
    ·have:=bb.1 l hl;simp[HT,heq] at this
   rw[<-g]
   have cf:RS T b ops.size c0 H0 (o::(pre++post)) c e H nx a:=⟨hs.st,hs.er,hs.step,fun i hi=>(hs.N i hi).imp (fun h=>h) fun⟨x,y,z⟩=>⟨x,y,fun o' m=>z o' (by
    simp only[adA,adD] at m ⊢
    rcases m with h|h|h
    ·exact .inr (.inl h)
    ·exact .inl h
    ·exact .inr (.inr h))⟩,hs.nx⟩
   have r:(pre++post).Sublist (pre++o::post):=(by simp);refine exec (n o (by simp)).1 br bp (fun o' m=>(n o' (r.subset m)).1.ix) cf R fun d H' nx' S' c' a' M ⟨A,h3⟩=> ?_;refine ih (pre++post) _ c' _ H' nx' a' S' (by simp at hlen ⊢;omega) (fun o' m=>n o' (r.subset m)) (hp.sublist r) ?_ M ?_ A
   ·refine⟨by simpa using hinv.size,fun j hj=> ?_,?_⟩
    ·rw[Bg (by rw[g];exact s)];split;·rename_i aj;subst aj;refine⟨(fun h=>by cases h),fun⟨o',m,heq⟩=>absurd heq (bp o' m)⟩
     ·rename_i aj;rw[hinv.mem j hj];constructor
      ·rintro⟨o',m,rfl⟩;refine⟨o',?_,rfl⟩;simp only[adD,adA] at m ⊢;rcases m with h|h|h;·exact .inl h
       ·subst h;exact absurd rfl aj
       ·exact .inr h
      ·rintro⟨o',m,rfl⟩;exact⟨o',r.subset m,rfl⟩
    ·intro k v u hk I C J;rw[Bg (by rw[g];exact s)] at hk ⊢;split;·rfl
     ·split at hk;·rename_i ck;subst ck;rw[g] at I;exact ao v u I C J
      ·exact hinv.closed k v u hk I C J
   ·intro l hl hk p cl H1 ob hh;rcases h3 p cl with D|⟨d',D⟩
    ·exact hf l (r.subset hl) hk p D H1 ob hh
    ·refine fy ?_ hk p D H1 ob hh;rcases adD.1 hl with hl|hl
     ·have hc:=F l hl;simp only[WC,aeY,aeX,agR,af6]
      cases ab:o.look with
      |false=>exact .inl (.inl rfl)
      |true=>right;exact hc.mo (by rw[hk];rfl) (.inl ((n o (by simp)).2.1 ab))
     ·have:=bb.1 l hl;simp only[HT,ad3] at this;exact this.1.2
end
def D1.eW:D1->Bool
 | .v _| .isl _| .dQ _| .WE _=>true
 |_=>false
inductive Frz(H:aA)(F:Nat->Prop):D1->D1->Prop where
 |same (d:D1) (h:d.eW=true):Frz H F d d
 |nil (n id off:Nat):Frz H F (.isl []) (.osl n id off 0 0)
 |frz (rows:List (List D1)) (n id off cap:Nat) (o:bN) (f:Nat->Nat->D1) (hF:F id) (ho:H id=some o) (hn:o.n=n) (hlen:off+rows.length<=o.rows.length) (hcap:rows.length<=cap)
  (hr: ∀(i:Nat) (r':List D1),rows[i]?=some r'->r'.length=n)
  (hf: ∀(i j:Nat) (r':List D1) (d':D1),rows[i]?=some r'->r'[j]?=some d'->∃r,o.rows[off+i]?=some r/\r[j]?=some (f i j))
  (hd: ∀(i j:Nat) (r':List D1) (d':D1),rows[i]?=some r'->r'[j]?=some d'->Frz H F d' (f i j)):Frz H F (.isl rows) (.osl n id off rows.length cap)
 |ptr (cells:List D1) (n id row col:Nat) (o:bN) (r:List D1) (f:Nat->D1) (hF:F id) (ho:H id=some o) (hn:o.n=n) (hr:o.rows[row]?=some r)
  (hf: ∀(j:Nat) (d':D1),cells[j]?=some d'->r[col+j]?=some (f j)) (hd: ∀(j:Nat) (d':D1),cells[j]?=some d'->Frz H F d' (f j)):Frz H F (.dQ cells) (.ptr n id row col)
 |omap (x:pZ) (id:Nat) (hF:F id) (ho:H id=some (DH x)):Frz H F (.WE x) (.omap id)
inductive Cv1(H:aA)(F:Nat->Prop)(σ:Nat->Nat)(nh:Nat):D1->D1->Prop where
 |frz {d' d:D1} (h:Frz H F d' d):Cv1 H F σ nh d' d
 |osl (n id off len cap:Nat) (h:id<nh):Cv1 H F σ nh (.osl n id off len cap) (.osl n (σ id) off len cap)
 |GO (n id id' off off' n':Nat):Cv1 H F σ nh (.osl n id off 0 0) (.osl n' id' off' 0 0)
 |ptr (n id row col:Nat) (h:id<nh):Cv1 H F σ nh (.ptr n id row col) (.ptr n (σ id) row col)
 |clo (f:FuncId) (caps caps':List D1) (hl:caps'.length=caps.length) (h: ∀(i:Nat) (x y:D1),caps'[i]?=some x->caps[i]?=some y->x.eW=true/\Frz H F x y\/ ∃n id row col,id<nh/\x= .ptr n id row col/\y= .ptr n (σ id) row col):Cv1 H F σ nh (.clo f caps') (.clo f caps)
 |omap (id:Nat) (h:id<nh):Cv1 H F σ nh (.omap id) (.omap (σ id))
 |dead (d:D1):Cv1 H F σ nh .dead d
def CvL(H:aA)(F:Nat->Prop)(σ:Nat->Nat)(nh:Nat)(a b:List D1):Prop:=a.length=b.length/\ ∀(i:Nat) (x y:D1),a[i]?=some x->b[i]?=some y->Cv1 H F σ nh x y
def CvV(H:aA)(F:Nat->Prop)(σ:Nat->Nat)(nh:Nat):DV->DV->Prop
 | .c x,.c y=>Cv1 H F σ nh x y
 | .agg xs,.agg ys=>CvL H F σ nh xs ys
 |_,_=>False
def CvD(H:aA)(F:Nat->Prop)(σ:Nat->Nat)(nh:Nat):D->D->Prop
 | .dead,_=>True
 | .one x,.one y=>CvV H F σ nh x y
 | .tup xs,.tup ys=>xs.length=ys.length/\ ∀(i:Nat) (x y:DV),xs[i]?=some x->ys[i]?=some y->CvV H F σ nh x y
 |_,_=>False
def CvE(H:aA)(F:Nat->Prop)(σ:Nat->Nat)(nh:Nat)(e' e:Env):Prop:=∀t,CvD H F σ nh (e' t) (e t)
def CvO(H:aA)(F:Nat->Prop)(σ:Nat->Nat)(nh:Nat)(o' o:bN):Prop:=o'.n=o.n/\o'.ext=o.ext/\o'.rows.length<=o.rows.length/\(o.n=0->o'.rows=[]->o.rows=[])/\(∀(i:Nat) (r':List D1),o'.rows[i]?=some r'->∃r,o.rows[i]?=some r/\CvL H F σ nh r' r)
structure CvH(H:aA)(F:Nat->Prop)(σ:Nat->Nat)(nh:Nat)(H':aA):Prop where
 obj: ∀id o',H' id=some o'->id<nh/\ ¬F (σ id)/\ ∃o,H (σ id)=some o/\CvO H F σ nh o' o
 inj: ∀i j o o',H' i=some o->H' j=some o'->σ i=σ j->i=j
structure Cv(nx:Nat)(e:Env)(H:aA)(nh:Nat)(e':Env)(H':aA)(F:Nat->Prop)(σ:Nat->Nat):Prop where
 le:nx<=nh
 fix: ∀i,i<nx->σ i=i
 env:CvE H F σ nh e' e
 heap:CvH H F σ nh H'
section
variable{c c0:Cf}{H H0 H':aA}{T:Nat}{e e':Env}{a:Act}{F:Nat -> Prop}{σ:Nat -> Nat}{nx nh:Nat}
theorem Hq(hs:St c H){I':Nat->Prop}(V: ∀b,c.I b->I' b)(L: ∀id o,F id->H id=some o->0<o.ext->I' (c.ρ id).1){k d:D1}(h:Frz H F k d): ∀{x:Value},Rel c d x->Imm I' c.w k x:=by
 induction h with
 |same d h=>
  intro x hr
  cases d<;>simp only[D1.eW] at h<;>first
   | (simp only[Rel,cX] at hr;exact hr.EY V (fun _ _=>rfl))
   |cases h
 |nil n id off=>
  intro x hr;simp only[Rel,cX] at hr;obtain⟨_,⟨_,A,rfl⟩|⟨W,_⟩⟩:=hr;·exact .isl [] A 0 0 0 0 (fun _ _=>undef) (by simp) (by simp) (by simp) (by simp) (by simp)
  ·omega
 |frz rows n id off cap o f l s M hlen B hr N X O=>
  intro x a;simp only[Rel,cX] at a;obtain⟨_,⟨W,A,rfl⟩|⟨v,Z,rfl⟩⟩:=a;·have z:rows=[]:=ad5 (by omega);subst z;exact .isl [] A 0 0 0 0 (fun _ _=>undef) (by simp) (by simp) (by simp) (by simp) (by simp)
  ·have q: ∀p:Nat×Nat,∃u:Value,∀r' k,rows[p.1]?=some r'->r'[p.2]?=some k->c.w.cell? ⟨(c.ρ id).1,(c.ρ id).2+off*n+(p.1*n+p.2),none⟩=some u/\Imm I' c.w k u:=by
    rintro⟨i,j⟩
    cases C:rows[i]? with
    |none=>exact⟨undef,fun r' k h=>by cases h⟩
    |some r'=>
     cases t:r'[j]? with
     |none=>exact⟨undef,fun P k h y=>by cases h;rw[t] at y;cases y⟩
     |some k=>obtain⟨r,D,y⟩:=N i j r' k C t;obtain⟨u,Q,R⟩:=hs.cells id o (off+i) j r _ s D y;refine⟨u,fun P S Y J=> ?_⟩;cases Y;rw[t] at J;cases J;refine⟨?_,O i j r' k C t R⟩;rw[<-Q,M];show c.w.cell? ⟨(c.ρ id).1,(c.ρ id).2+off*n+(i*n+j),none⟩=c.w.cell? ⟨(c.ρ id).1,(c.ρ id).2+((off+i)*n+j),none⟩;rw[adT,<-ac2,<-ac2,ac2 (c.ρ id).2]
   obtain⟨g,E⟩:=Classical.axiomOfChoice q
   refine .isl rows _ cap n (c.ρ id).1 ((c.ρ id).2+off*n) (fun i j=>g (i,j)) (fun T=>⟨rfl,L id o l s ?_⟩) B hr (fun i j r' k D y=>(E (i,j) r' k D y).1) (fun i j r' k D y=>(E (i,j) r' k D y).2)
   have:0<rows.length:=List.length_pos_iff.2 T
   have:=(hs.wf id o s).1
   omega
 |omap m id l s=>
  intro x a;simp only[Rel,cX] at a;obtain⟨_,rfl⟩:=a;have K:=hs.blk id _ s (agA _);unfold GS at K;rw[if_pos ⟨rfl,rfl⟩] at K;have e:Fo ((DH m).ext-1)=m:=by show Fo (Cb m+1-1)=m;rw[Nat.add_sub_cancel,FM]
  rw[e] at K;exact .WE m _ (L id _ l s (agA _)) K
 |ptr cells n id row col o r f l s M G N X O=>
  intro x a;simp only[Rel,cX] at a;obtain⟨_,rfl⟩:=a;have v:0<o.ext:=by have:=(hs.wf id o s).1;have:row<o.rows.length:=(adB.1 G).1;omega
  have q: ∀j:Nat,∃u:Value,∀k,cells[j]?=some k->c.w.cell? ⟨(c.ρ id).1,(c.ρ id).2+(row*n+col)+j,none⟩=some u/\Imm I' c.w k u:=by
   intro j
   cases U:cells[j]? with
   |none=>exact⟨undef,fun k h=>by cases h⟩
   |some k=>obtain⟨u,Q,R⟩:=hs.cells id o row (col+j) r _ s G (N j k U);refine⟨u,fun S J=> ?_⟩;cases J;refine⟨?_,O j k U R⟩;rw[<-Q,M];rw[<-ac2,<-ac2,<-ac2]
  obtain⟨g,E⟩:=Classical.axiomOfChoice q;exact .dQ cells _ _ g (L id o l s v) (fun j d h=>(E j d h).1) (fun j d h=>(E j d h).2)
def Cf.conv(c:Cf)(nx nh:Nat)(σ:Nat->Nat)(I':Nat->Prop):Cf:={ρ:=fun i=>c.ρ (σ i),N:=fun i=>(i<nx/\c.N i)\/(nx<=i/\i<nh/\c.N (σ i)),I:=I',w:=c.w}
theorem YR(hs:St c H){I':Nat->Prop}(r: ∀b,c.I b->I' b)(s: ∀id o,F id->H id=some o->0<o.ext->I' (c.ρ id).1)(j: ∀i,i<nx->σ i=i){l d:D1}(h:Cv1 H F σ nh l d){x:Value}
 (hr:Rel c d x):Rel (c.conv nx nh σ I') l x:=by
 have k: ∀id,id<nh->c.N (σ id)->(c.conv nx nh σ I').N id:=by
  intro id g e;by_cases a:id<nx;·left;exact⟨a,by rw[j id a] at e;exact e⟩
  ·right;exact⟨by omega,g,e⟩
 cases h with
 |frz h=>have:=Hq hs r s h hr;cases l<;>simp only[Rel,cX]<;>first|exact this| (cases this;done)
 |osl n id off len cap a=>simp only[Rel,cX] at hr ⊢;exact⟨hr.1,hr.2.imp (fun h=>h) fun⟨g,e,w⟩=>⟨g,k id a e,w⟩⟩
 |GO n id y off t n'=>
  simp only[Rel,cX] at hr ⊢;obtain⟨_,h|⟨E,_⟩⟩:=hr;·exact⟨ac1 _,.inl h⟩
  ·omega
 |ptr n id row col a=>simp only[Rel,cX] at hr ⊢;exact⟨k id a hr.1,hr.2⟩
 |omap id a=>simp only[Rel,cX] at hr ⊢;exact⟨k id a hr.1,hr.2⟩
 |dead d=>simp only[Rel,cX];exact hr.tY
 |clo f caps m hl hc=>
  obtain⟨vs,A,p,B⟩:=hr;refine⟨vs,A,by rw[p,hl],fun i d u g e=> ?_⟩;have hi:i<caps.length:=by rw[<-hl];exact(adB.1 g).1
  have hr:=B i _ u (ac8 hi) e;rcases hc i d _ g (ac8 hi) with⟨v,C⟩|⟨n,id,row,col,a,rfl,D⟩
  ·generalize caps[i]=z at*
   have q:Rel c z u:=by
    cases z with
    |clo G c2=>simp only[cX] at hr;cases hr
    |_=>exact hr
   have:=Hq hs r s C q
   cases d<;>simp only[D1.eW] at v<;>first
    | (simp only[cX];exact this)
    |cases v
  ·rw[D] at hr;simp only[cX] at hr ⊢;exact⟨k id a hr.1,hr.2⟩
theorem Ve(hs:St c H){I':Nat->Prop}(j: ∀b,c.I b->I' b)(k: ∀id o,F id->H id=some o->0<o.ext->I' (c.ρ id).1)(a: ∀i,i<nx->σ i=i){e f:List D1}(h:CvL H F σ nh e f){vs:List Value}
 (hr:y4 c f vs):y4 (c.conv nx nh σ I') e vs:=by
 refine⟨by rw[hr.1,h.1],fun i d u g l=> ?_⟩
 have hi:i<f.length:=by rw[<-h.1];exact(adB.1 g).1
 exact YR hs j k a (h.2 i d _ g (ac8 hi)) (hr.2 i _ u (ac8 hi) l)
theorem Hw(hs:St c H){I':Nat->Prop}(f: ∀b,c.I b->I' b)(g: ∀id o,F id->H id=some o->0<o.ext->I' (c.ρ id).1)(a: ∀i,i<nx->σ i=i){e d:DV}(h:CvV H F σ nh e d){x:Value}
 (hr:mH c d x):mH (c.conv nx nh σ I') e x:=by
 cases e<;>cases d<;>simp only[CvV] at h
 ·exact YR hs f g a h hr
 ·obtain⟨vs,j,hl⟩:=hr;exact⟨vs,j,Ve hs f g a h hl⟩
theorem EB(hs:St c H){I':Nat->Prop}(f: ∀b,c.I b->I' b)(g: ∀id o,F id->H id=some o->0<o.ext->I' (c.ρ id).1)(a: ∀i,i<nx->σ i=i){e d:D}(h:CvD H F σ nh e d){x:Value}
 (hr:iA c d x):iA (c.conv nx nh σ I') e x:=by
 cases e with
 |dead=>trivial
 |one e=>cases d<;>simp only[CvD] at h;exact Hw hs f g a h hr
 |tup xs=>
  cases d<;>simp only[CvD] at h;obtain⟨vs,k,hl,l⟩:=hr;refine⟨vs,k,by rw[hl,h.1],fun i d u j m=> ?_⟩;rename_i ys;have hi:i<ys.length:=by rw[<-h.1];exact(adB.1 j).1
  exact Hw hs f g a (h.2 i d _ j (ac8 hi)) (l i _ u (ac8 hi) m)
def Cf.frI(c:Cf)(H:aA)(F:Nat->Prop):Nat->Prop:=fun b=>c.I b\/ ∃id o,F id/\H id=some o/\0<o.ext/\(c.ρ id).1=b
theorem Hb(hs:St c H)(a:Step c0 H0 c H)(v: ∀i,c0.N i->i<nx)(hle:nx<=nh)(g: ∀i,i<nx->σ i=i)(m:CvH H F σ nh H'):
 St (c.conv nx nh σ (c.frI H F)) H'/\Step c0 H0 (c.conv nx nh σ (c.frI H F)) H':=by
 refine⟨?_,?_⟩
 ·refine {named:= ?_,wf:= ?_,blk:= ?_,cells:= ?_,sep:= ?_,imm:= ?_,old:= ?_}
  ·intro id o' h;obtain⟨p,_,o,e,_⟩:=m.obj id o' h;have C:=hs.named _ o e;by_cases w:id<nx;·left;exact⟨w,by rw[g id w] at C;exact C⟩
   ·right;exact⟨by omega,p,C⟩
  ·intro id o' h;obtain⟨p,_,o,e,q,z,D,_,P⟩:=m.obj id o' h;obtain⟨A,k⟩:=hs.wf _ o e;refine⟨by omega,fun i r hr=> ?_⟩;obtain⟨B,E,R⟩:=P i r hr;rw[R.1,k i B E,q]
  ·intro id o' h he;obtain⟨p,_,o,e,q,z,D,E,P⟩:=m.obj id o' h;exact(hs.blk _ o e (by omega)).Yi q z fun S=>⟨E S,fun hr=>by rw[hr] at D;exact aeG.1 (by simpa using D)⟩
  ·intro id o' i j r d h p e;obtain⟨_,_,o,k,n,G,W,_,J⟩:=m.obj id o' h;obtain⟨B,Q,K⟩:=J i r p;have x:j<B.length:=(by rw[<-K.1];exact(adB.1 e).1);obtain⟨u,T,L⟩:=hs.cells _ o i j B _ k Q (ac8 x);refine⟨u,by rw[n];exact T,?_⟩;exact YR hs (fun b h=>.inl h) (fun id o p e q=>.inr ⟨id,o,p,e,q,rfl⟩) g (K.2 j d _ e (ac8 x)) L
  ·intro i j o o' hi x he U s;obtain⟨_,_,V,k,n,G,_⟩:=m.obj i o hi;obtain⟨_,_,t,J,Q,K,_⟩:=m.obj j o' x;exact hs.sep (σ i) (σ j) V t k J (by omega) (by omega) (fun h=>s (m.inj i j o o' hi x h))
  ·intro id o' h he;obtain⟨_,M,o,e,q,z,_⟩:=m.obj id o' h;rintro(y|⟨f,t,A,k,n,G⟩);·exact hs.imm _ o e (by omega) y
   ·have s:f≠σ id:=(by rintro rfl;exact M A);exact hs.sep f (σ id) t o k e n (by omega) s G
  ·rintro b (y|⟨f,t,A,k,n,rfl⟩);·exact hs.old b y
   ·exact(hs.blk f t k n).lt
 ·exact {
   ρ:=fun id l=>by show c.ρ (σ id)=c0.ρ id;rw[g id (v id l)];exact a.ρ id l
   N:=fun id l=>.inl ⟨v id l,a.N id l⟩
   I:=fun b O=>.inl (a.I b O)
   I':=by
    rintro b (y|⟨f,t,A,k,n,rfl⟩);·exact a.I' b y
    ·exact .inr (a.own _ ⟨f,t,k,n,rfl⟩)
   size:=a.size
   os:=a.os
   tape:=a.tape
   output:=a.output
   frame:=a.frame
   own:=by rintro b ⟨id,o',h,he,O⟩;obtain⟨_,_,o,e,q,z,_⟩:=m.obj id o' h;exact a.own b ⟨σ id,o,e,by omega,O⟩}
theorem Tq(hs:St c H)(a:Step c0 H0 c H)(e: ∀i,c0.N i->i<nx)(hle:nx<=nh)(d: ∀i,i<nx->σ i=i)(f:CvH H F σ nh H'):
 ∃I',(∀b,c.I b->I' b)/\(∀id o,F id->H id=some o->0<o.ext->I' (c.ρ id).1)/\St (c.conv nx nh σ I') H'/\Step c0 H0 (c.conv nx nh σ I') H':=
 ⟨c.frI H F,fun b h=>.inl h,fun id o g j k=>.inr ⟨id,o,g,j,k,rfl⟩,Hb hs a e hle d f⟩
theorem Cv.sound(b:Cv nx e H nh e' H' F σ)(hs:St c H)(d:Step c0 H0 c H)(f: ∀i,c0.N i->i<nx)(he:ER c T e a):
 ∃c',c'.w=c.w/\St c' H'/\ER c' T e' a/\Step c0 H0 c' H'/\(∀i,c'.N i->c.N i/\i<nx\/(nx<=i/\i<nh)):=by
 obtain⟨I',j,k,l,m⟩:=Tq hs d f b.le b.fix b.heap
 refine⟨c.conv nx nh σ I',rfl,l,⟨he.1,he.2.1,fun t=> ?_⟩,m,?_⟩
 ·exact EB hs j k b.fix (b.env t) (he.2.2 t)
 ·rintro i (⟨g,h⟩|⟨g,h,_⟩);·exact .inl ⟨h,g⟩
  ·exact .inr ⟨g,h⟩
end
inductive AC where
 |skip
 |region (ops:List bB) (n:Nat) (live:List Nat)
 |seq (x y:AC)
 |cond (c:aZ) (x y:AC)
 |block (id:Nat) (x:AC)
 |loop (x:AC)
 |exit (id:Nat)
 |ret
inductive AEx where
 |normal
 |exit (id:Nat)
 |ret
def AEx.of:AEx->Exit
 | .normal=>.normal
 | .exit id=>.exit id
 | .ret=>.ret
structure Cert where
 cert:List (Nat×List Nat×List Nat×Bool)
 live:List Nat
def Env.EY(e:Env):List Nat->Env
 | []=>Env.nil
 |t::a=>(Env.EY e a).set t (e t)
theorem Env.vb(e:Env): ∀(l:List Nat) (t:Nat),e.EY l t=e t\/e.EY l t= .dead
 | [],t=>.inr rfl
 |x::l,t=>by
  simp only[Env.EY,Env.set];split;·rename_i h;subst h;exact .inl rfl
  ·exact Env.vb e l t
theorem ER.EY{c:Cf}{T:Nat}{e:Env}{a:Act}(h:ER c T e a)(l:List Nat):ER c T (e.EY l) a:=by
 refine⟨h.1,h.2.1,fun t=> ?_⟩;rcases e.vb l t with b|b;·rw[b];exact h.2.2 t
 ·rw[b];exact trivial
def abZ(P:Program)(T:Nat)(ops:Array Oper)(draw:Bool)(L:List bB):Prop:=∃cert,ey P T ops draw cert=some L/\(draw=true->P.follows .mixedOrders=true)
inductive Cmp(P:Program)(T:Nat):Code->AC->Prop where
 |skip:Cmp P T .skip .skip
 |region (id:Nat) (ops:Array Oper) (draw:Bool) (L:List bB) (live:List Nat) (h:abZ P T ops draw L):Cmp P T (.region id ops draw) (.region L ops.size live)
 |seq {x y:Code} {x' y':AC} (h1:Cmp P T x x') (h2:Cmp P T y y'):Cmp P T (.seq x y) (.seq x' y')
 |cond {c:Operand} {c':aZ} {x y:Code} {x' y':AC} (h:trO c=some c') (h1:Cmp P T x x') (h2:Cmp P T y y'):Cmp P T (.cond c x y) (.cond c' x' y')
 |block {id:Nat} {x:Code} {x':AC} (h:Cmp P T x x'):Cmp P T (.block id x) (.block id x')
 |loop {x:Code} {x':AC} (h:Cmp P T x x'):Cmp P T (.loop x) (.loop x')
 |exit (id:Nat):Cmp P T (.exit id) (.exit id)
 |ret:Cmp P T .ret .ret
def compile(P:Program)(T:Nat):Code->List Cert->Option (AC×List Cert)
 | .skip,cs=>some (.skip,cs)
 | .region _ ops draw,f::cs=>match ey P T ops draw f.cert with
   |some L=>if !draw||P.follows .mixedOrders then some (.region L ops.size f.live,cs) else none
   |none=>none
 | .seq x y,cs=>match compile P T x cs with
   |some (b,a)=>match compile P T y a with
    |some (e,d)=>some (.seq b e,d)
    |none=>none
   |none=>none
 | .cond c x y,cs=>match trO c,compile P T x cs with
   |some c',some (b,a)=>match compile P T y a with
    |some (e,d)=>some (.cond c' b e,d)
    |none=>none
   |_,_=>none
 | .block id x,cs=>match compile P T x cs with
   |some (b,a)=>some (.block id b,a)
   |none=>none
 | .loop x,cs=>match compile P T x cs with
   |some (b,a)=>some (.loop b,a)
   |none=>none
 | .exit id,cs=>some (.exit id,cs)
 | .ret,cs=>some (.ret,cs)
 |_,_=>none
theorem R8{P:Program}{T:Nat}: ∀(x:Code) (cs a:List Cert) (b:AC),compile P T x cs=some (b,a)->Cmp P T x b:=by
 intro x
 induction x with
 |skip=>intro cs a b h;simp only[compile,Option.some.injEq,Prod.mk.injEq] at h;rw[<-h.1];exact .skip
 |region id ops draw=>
  intro cs a b h
  cases cs with
  |nil=>simp[compile] at h
  |cons n cs=>
   simp only[compile] at h;split at h
   ·rename_i L o;split at h;·rename_i m;simp only[Option.some.injEq,Prod.mk.injEq] at h;rw[<-h.1];refine .region id ops draw L n.live ⟨_,o,fun h=> ?_⟩;rw[h] at m;simpa using m
    ·simp at h
   ·simp at h
 |seq x y d e=>
  intro cs a b h;simp only[compile] at h;split at h
  ·rename_i i f g;split at h;·rename_i p j k;simp only[Option.some.injEq,Prod.mk.injEq] at h;rw[<-h.1];exact .seq (d _ _ _ g) (e _ _ _ k)
   ·simp at h
  ·simp at h
 |cond c x y d e=>
  intro cs a b h;simp only[compile] at h;split at h
  ·rename_i c1 i f q g;split at h;·rename_i p j k;simp only[Option.some.injEq,Prod.mk.injEq] at h;rw[<-h.1];exact .cond q (d _ _ _ g) (e _ _ _ k)
   ·simp at h
  ·simp at h
 |block id x l=>
  intro cs a b h;simp only[compile] at h;split at h;·rename_i i f g;simp only[Option.some.injEq,Prod.mk.injEq] at h;rw[<-h.1];exact .block (l _ _ _ g)
  ·simp at h
 |loop x l=>
  intro cs a b h;simp only[compile] at h;split at h;·rename_i i f g;simp only[Option.some.injEq,Prod.mk.injEq] at h;rw[<-h.1];exact .loop (l _ _ _ g)
  ·simp at h
 |exit id=>intro cs a b h;simp only[compile,Option.some.injEq,Prod.mk.injEq] at h;rw[<-h.1];exact .exit id
 |ret=>intro cs a b h;simp only[compile,Option.some.injEq,Prod.mk.injEq] at h;rw[<-h.1];exact .ret
 |_=>intro cs a b h;simp[compile] at h
abbrev AQ:=AEx->Env->aA->Nat->Prop
structure acN(T:Nat)(c:Cf)(H:aA)(nx:Nat)(Q:AQ)(ex:Exit)(a:Act)(w:World)(aex:AEx)(e':Env)(H':aA)(nx':Nat)(c':Cf):Prop where
 ex:aex.of=ex
 w:c'.w=w
 st:St c' H'
 step:Step c H c' H'
 er:ER c' T e' a
 N: ∀i,c'.N i->c.N i\/(nx<=i/\i<nx')
 le:nx<=nx'
 q:Q aex e' H' nx'
def QH(T:Nat)(c:Cf)(H:aA)(nx:Nat)(Q:AQ)(ex:Exit)(a:Act)(w:World):Prop:=∃b e' H' nx' c',acN T c H nx Q ex a w b e' H' nx' c'
def AWP(P:Program)(T:Nat)(x:AC)(e:Env)(H:aA)(nx:Nat)(Q:AQ):Prop:=∀code,Cmp P T code x->∀c a,St c H->ER c T e a->(∀i,c.N i->i<nx)->code.wp P (QH T c H nx Q) a c.w
def AQ.then(K:Env->aA->Nat->Prop)(Q:AQ):AQ
 | .normal=>K
 |ex=>Q ex
def AQ.blk(id:Nat)(K:Env->aA->Nat->Prop)(Q:AQ):AQ
 | .normal=>K
 | .exit i=>if i=id then K else Q (.exit i)
 | .ret=>Q .ret
section
variable{P:Program}{T:Nat}{e:Env}{H:aA}{nx:Nat}{Q:AQ}
theorem QH.lift{c c1:Cf}{H1:aA}{d:Nat}{j:AQ}{ex:Exit}{a:Act}{w:World}(e:Step c H c1 H1)(k: ∀i,c1.N i->c.N i\/(nx<=i/\i<d))(hle:nx<=d)
 (h:QH T c1 H1 d j ex a w) (l: ∀b e' H' nx',b.of=ex->j b e' H' nx'->Q b e' H' nx'):QH T c H nx Q ex a w:=by
 obtain⟨b,e',H',nx',c',h⟩:=h
 refine⟨b,e',H',nx',c',h.ex,h.w,h.st,e.trans h.step,h.er,fun i hi=> ?_,aeB hle h.le,l _ _ _ _ h.ex h.q⟩
 rcases h.N i hi with f|f
 ·rcases k i f with g|g;·exact .inl g
  ·exact .inr ⟨g.1,by have:=h.le;omega⟩
 ·exact .inr ⟨by omega,f.2⟩
theorem QH.here{c:Cf}{a:Act}(hs:St c H)(he:ER c T e a)(b:AEx)(h:Q b e H nx):QH T c H nx Q b.of a c.w:=⟨b,e,H,nx,c,rfl,rfl,hs,Step.refl c H,he,fun _ h=>.inl h,ac1 _,h⟩
theorem AWP.mono{x:AC}{d:AQ}(h:AWP P T x e H nx d)(f: ∀ex e H nx',nx<=nx'->d ex e H nx'->Q ex e H nx'):AWP P T x e H nx Q:=by intro code hc c a hs he g;refine wp_mono (h code hc c a hs he g) fun ex i j ⟨b,e',H',nx',c',hp⟩=>⟨b,e',H',nx',c',hp.ex,hp.w,hp.st,hp.step,hp.er,hp.N,hp.le,f _ _ _ _ hp.le hp.q⟩
theorem AWP.skip(h:Q .normal e H nx):AWP P T .skip e H nx Q:=by intro code hc c a hs he b;cases hc;exact wp_skip (QH.here hs he .normal h)
theorem AWP.exit{id:Nat}(h:Q (.exit id) e H nx):AWP P T (.exit id) e H nx Q:=by intro code hc c a hs he b;cases hc;exact wp_exit (QH.here hs he (.exit id) h)
theorem AWP.ret(h:Q .ret e H nx):AWP P T .ret e H nx Q:=by intro code hc c a hs he b;cases hc;exact wp_ret (QH.here hs he .ret h)
theorem AWP.seq{x y:AC}(h: ∀K:Env->aA->Nat->Prop,(∀e H nx',AWP P T y e H nx' Q->K e H nx')->AWP P T x e H nx (AQ.then K Q)):AWP P T (.seq x y) e H nx Q:=by
 intro code hc c a hs he m
 cases hc with
 |seq n o=>
  refine wp_seq (wp_mono (h _ (fun _ _ _ h=>h) _ n c a hs he m) fun ex p t ⟨f,e',H',nx',c',hp⟩=> ?_);obtain⟨rfl,rfl,g,j,k,b,l,d⟩:=hp
  cases f with
  |normal=>
   simp only[AQ.then] at d;refine wp_mono (d _ o c' p g k fun i hi=> ?_) fun ex q r s=>s.lift j b l fun _ _ _ _ _ h=>h;rcases b i hi with h|h;·have:=m i h;omega
   ·exact h.2
  |exit id=>exact⟨.exit id,e',H',nx',c',rfl,rfl,g,j,k,b,l,d⟩
  |ret=>exact⟨.ret,e',H',nx',c',rfl,rfl,g,j,k,b,l,d⟩
theorem AWP.cond{c:aZ}{x y:AC}(t:Bool)(hc:c.ev e= .one (.c (.v (.bool t))))(h:t=true->AWP P T x e H nx Q)(i:t=false->AWP P T y e H nx Q):AWP P T (.cond c x y) e H nx Q:=by
 intro code d f a hs he g
 cases d with
 |cond j k l=>
  have b:=o8 he j;rw[hc] at b;have b:=FT (c:=f) b
  cases t with
  |true=>exact wp_cond_true b (h rfl _ k f a hs he g)
  |false=>exact wp_cond_false b (i rfl _ l f a hs he g)
theorem AWP.block{id:Nat}{x:AC}(h: ∀K:Env->aA->Nat->Prop,(∀e H nx',Q .normal e H nx'->K e H nx')->AWP P T x e H nx (AQ.blk id K Q)):AWP P T (.block id x) e H nx Q:=by
 intro code hc c a hs he m
 cases hc with
 |block n=>
  refine wp_block (wp_mono (h _ (fun _ _ _ h=>h) _ n c a hs he m) fun ex o p ⟨l,e',H',nx',c',hp⟩=> ?_);obtain⟨rfl,rfl,d,f,g,j,k,b⟩:=hp
  cases l with
  |normal=>exact⟨.normal,e',H',nx',c',rfl,rfl,d,f,g,j,k,b⟩
  |exit i=>
   simp only[AQ.blk] at b;simp only[AEx.of,Exit.inBlock];split;·rename_i hi;rw[if_pos hi] at b;exact⟨.normal,e',H',nx',c',rfl,rfl,d,f,g,j,k,b⟩
   ·rename_i hi;rw[if_neg hi] at b;exact⟨.exit i,e',H',nx',c',rfl,rfl,d,f,g,j,k,b⟩
  |ret=>exact⟨.ret,e',H',nx',c',rfl,rfl,d,f,g,j,k,b⟩
theorem AWP.conv{x:AC}{nh:Nat}{e':Env}{H':aA}{F:Nat->Prop}{σ:Nat->Nat}{d:Nat}(o:d<=nx)(p:nx=d\/True)(b:Cv nx e H nh e' H' F σ)(h:AWP P T x e' H' nh Q):AWP P T x e H nx Q:=by
 intro code hc c a hs he j;obtain⟨c',hw,k,l,m,f⟩:=b.sound hs (Step.refl c H) j he
 have:=h code hc c' a k l fun i hi=>by
  rcases f i hi with g|g;·have:=b.le;omega
  ·exact g.2
 rw[hw] at this;exact wp_mono this fun ex q r n=>n.lift m (fun i hi=>(f i hi).imp (fun h=>h.1) fun h=>h) b.le fun _ _ _ _ _ h=>h
theorem AWP.oB{x:AC}(n:Nat)(h:AWP P T x e (H.set nx ⟨n,0,[]⟩) (nx+1) Q):AWP P T x e H nx Q:=by
 intro code hc c a hs he d;have b: ¬c.N nx:=fun g=>agB _ (d nx g);obtain⟨j,f⟩:=WV hs (n:=n) b
 have k:=h code hc (c.named nx 0 0 c.w) a j ⟨he.1,he.2.1,fun t=>(he.2.2 t).step f hs⟩ fun i hi=>by
  rcases hi with rfl|hi;·exact Nat.lt_succ_self _
  ·exact Nat.lt_succ_of_lt (d i hi)
 refine wp_mono k fun ex m o l=>l.lift f (fun i hi=> ?_) (Nat.le_succ _) fun _ _ _ _ _ h=>h;rcases hi with rfl|hi;·exact .inr ⟨ac1 _,Nat.lt_succ_self _⟩
 ·exact .inl hi
theorem AWP.loop{x:AC}{α:Type}(E:α->Env)(G:α->aA)(nh:Nat)(μ:α->Nat)(f:α)(g: ∃F σ,Cv nx e H nh (E f) (G f) F σ)
 (h: ∀u,∀K:Env->aA->Nat->Prop,(∀e' H' nx' b,nh<=nx'->μ b<μ u->(∃F σ,Cv nx e' H' nh (E b) (G b) F σ)->K e' H' nx')->AWP P T x (E u) (G u) nh (AQ.then K Q)):AWP P T (.loop x) e H nx Q:=by
 intro code hc c a hs he r
 cases hc with
 |loop t=>
  obtain⟨F,σ,g⟩:=g;obtain⟨c0,v,y,z,A,B⟩:=g.sound hs (Step.refl c H) r he;have hle:=g.le;refine wp_loop_ghost (fun n a w=>∃u c1,μ u=n/\c1.w=w/\St c1 (G u)/\ER c1 T (E u) a/\Step c H c1 (G u)/\(∀i,c1.N i->c.N i/\i<nx\/(nx<=i/\i<nh))) (μ f) ⟨f,c0,rfl,v,y,z,A,B⟩ ?_;rintro n a w ⟨u,c1,rfl,rfl,C,D,k,s⟩;refine wp_mono (h u (fun e' H' nx'=>∃b,μ b<μ u/\ ∃F σ,Cv nx e' H' nh (E b) (G b) F σ) (fun _ _ _ b _ j I=>⟨b,j,I⟩) _ t c1 a C D fun i hi=> ?_) fun ex X Y ⟨l,e',H',nx',c',hp⟩=> ?_;·rcases s i hi with h|h<;>omega
  ·obtain⟨rfl,rfl,m,o,p,J,Z,q⟩:=hp
   have d: ∀i,c'.N i->c.N i\/(nx<=i/\i<nx'):=by
    intro i hi;rcases J i hi with h|h
    ·rcases s i h with h|h;·exact .inl h.1
     ·exact .inr ⟨h.1,by omega⟩
    ·exact .inr ⟨by omega,h.2⟩
   cases l with
   |normal=>
    obtain⟨b,L,F',M,O⟩:=q;obtain⟨c2,R,S,U,V,W⟩:=O.sound m (k.trans o) r p;refine⟨μ b,L,b,c2,rfl,R,S,U,V,fun i hi=> ?_⟩;rcases W i hi with h|h
    ·rcases d i h.1 with j|j;·exact .inl ⟨j,h.2⟩
     ·omega
    ·exact .inr h
   |exit id=>exact⟨.exit id,e',H',nx',c',rfl,rfl,m,k.trans o,p,d,by omega,q⟩
   |ret=>exact⟨.ret,e',H',nx',c',rfl,rfl,m,k.trans o,p,d,by omega,q⟩
theorem AWP.region{ops:List bB}{n:Nat}{live:List Nat}(h:avc P nx (fun e' H' nx'=>Q .normal (e'.EY live) H' nx') ops e H (nx+n) []):AWP P T (.region ops n live) e H nx Q:=by
 intro code hc c a hs he O
 cases hc with
 |region id b draw L live r=>
  obtain⟨cert,hm,s⟩:=r;unfold ey at hm;split at hm;case h_2=>simp at hm
  rename_i q E;have d: ∀c2 F H2 g G,RS T nx b.size c H [] c2 F H2 g G->Q .normal (F.EY live) H2 g->QH T c H nx Q .normal G c2.w:=by intro c2 F H2 g G hr R;exact⟨.normal,_,H2,g,c2,rfl,rfl,hr.st,hr.step,hr.er.EY live,fun i hi=>(hr.N i hi).imp (fun h=>h) fun h=>⟨h.1,h.2.1⟩,by have:=hr.nx;omega,R⟩
  obtain⟨I,j⟩:=UN E;have m: ∀(L:List bB) (c1:Cf),c1.N=c.N->St c1 H->ER c1 T e a->Step c H c1 H->RS T nx b.size c H L c1 e H (nx+b.size) a:=fun L c1 J D S U=>⟨D,S,U,fun i hi=>.inl (by rw[J] at hi;exact hi),ac1 _⟩
  cases draw with
  |false=>
   simp only[aeV,if_false,Option.some.injEq] at hm;subst hm;apply wp_region
   have hr:List.range b.size=q.map (·.ix):=by
    rw[I];simp only[aeV,if_false,tg,List.map_map];conv=>lhs;rw[<-afF (List.range b.size)]
    rfl
   rw[hr];exact tb O d q c e H _ a [] (fun o k=>(j o k).1) (by rw[<-hr];exact List.nodup_range) (m _ c rfl hs he (Step.refl c H)) h
  |true=>
   simp only[if_true] at hm;split at hm
   ·rename_i f;simp only[Option.some.injEq] at hm;subst hm;simp only[Xs,ad3,beq_iff_eq,adK] at f;refine wp_region_any (s rfl) ?_;have V:({c.w with drawn:=c.w.drawn+1}:World)=(c.drew (c.w.drawn+1)).w:=rfl;rw[V];have u:=QI f.2
    have v: ∀i,i<b.size->∃o∈q,o.ix=i:=by
     have K:(q.map (·.ix)).Nodup:=(by rw[List.nodup_iff_pairwise_ne,afT];exact u.imp fun {x y} z=>by simp only[HT,ad3,bne_iff_ne] at z;exact z.1.1.1);have A:(q.map (·.ix)) ⊆ List.range b.size:=(by intro i hi;obtain⟨o,k,rfl⟩:=ac9.1 hi;exact aeS.2 (j o k).1.ix);intro i hi;by_cases B:i∈q.map (·.ix);·obtain⟨o,k,M⟩:=ac9.1 B;exact⟨o,k,M⟩
     ·have hlen:=List.Nodup.length_le_of_subset (aeA.2 ⟨B,K⟩) (List.cons_subset.2 ⟨aeS.2 hi,A⟩);simp[f.1.1] at hlen;omega
    refine Lt O d b.size q _ (c.drew (c.w.drawn+1)) e H _ a [] (by simp[f.1.1]) (fun o k=>⟨(j o k).1,(j o k).2,f.1.2 o k⟩) u ?_ ?_ ?_ h
    ·refine⟨by simp,fun i hi=> ?_,?_⟩;·simp[hi];exact v i hi
     ·intro i ro W D;by_cases C:i<b.size;·simp[C] at D
      ·simp[C] at D
    ·refine m _ _ rfl (hs.drew _) ⟨he.1,he.2.1,fun t=>(he.2.2 t).step (Step.drew c H _) hs⟩ (Step.drew c H _)
    ·intro l hl X p hp;simp at hp
   ·simp at hm
end
inductive aX where
 |tm (t:Nat)
 |cell (a n:Nat) (g:Bool)
def Iq(P:Program):ResultVar->Option aX
 | .tmp t=>some (.tm t)
 | .cell a t=>(layout P t).map fun p=>.cell a p.1 p.2
def IS(P:Program):List ResultVar->Option (List aX)
 | []=>some []
 |r::rs=>match Iq P r,IS P rs with
  |some x,some l=>some (x::l)
  |_,_=>none
def V0(H:aA)(e:Env):aX->Option D
 | .tm t=>some (e t)
 | .cell a n g=>match e a with
   | .one (.c d)=>(rI H d n).bind (mkV g)
   |_=>none
def aaA:D->D->Option D
 | .one x,.one y=>some (.tup [x,y])
 |_,_=>none
def Zw:D->D->D->Option D
 | .one x,.one y,.one z=>some (.tup [x,y,z])
 |_,_,_=>none
def nP(H:aA)(e:Env):List aX->Option D
 | []=>some (.tup [])
 | [r]=>V0 H e r
 | [r,s]=>match V0 H e r,V0 H e s with
   |some x,some y=>aaA x y
   |_,_=>none
 | [r,s,t]=>match V0 H e r,V0 H e s,V0 H e t with
   |some x,some y,some z=>Zw x y z
   |_,_,_=>none
 |_=>none
def Env.args:Nat->List D->Env
 |_,[]=>.nil
 |k,d::a=>(Env.args (k+1) a).set k d
section
variable{P:Program}{c:Cf}{H:aA}{T:Nat}{e:Env}{a:Act}
theorem Env.U8: ∀(a:List D) (k t:Nat),Env.args k a t=if k<=t then (a[t-k]?).getD .dead else .dead
 | [],k,t=>by simp[Env.args,Env.nil]
 |d::a,k,t=>by
  simp only[Env.args,Env.set,Env.U8 a];by_cases b:t=k;·subst b;simp
  ·by_cases e:k<=t;·have c:k+1<=t:=(by omega);have f:t-k=(t-(k+1))+1:=(by omega);simp[b,e,c,f]
   ·have c: ¬k+1<=t:=(by omega);simp[b,e,c]
def xk(tmps:Array Value):ResultVar->Sem Value
 | .tmp t=>pure (tmps.getD t undef)
 | .cell a t=>do loadVar t (<-asAddr (tmps.getD a undef))
theorem I7(hs:St c H)(he:ER c T e a){r:ResultVar}{x:aX}{d:D}(f:Iq P r=some x)(h:V0 H e x=some d): ∃v,(xk a.tmps r).run P c.w= .ok v c.w/\iA c d v:=by
 cases r with
 |tmp t=>simp only[Iq,Option.some.injEq] at f;subst f;simp only[V0,Option.some.injEq] at h;subst h;exact⟨_,by simp[xk],he.2.2 t⟩
 |cell p t=>
  simp only[Iq,adC] at f;obtain⟨⟨n,g⟩,hl,rfl⟩:=f;simp only[V0] at h;split at h;·rename_i d1 k;simp only[af3] at h;obtain⟨cs,j,l⟩:=h;have i:=he.2.2 p;rw[k] at i;obtain⟨b,o,hp,_⟩:=R7 hs j i;obtain⟨v,hr,m⟩:=Bp hs hl j l i;refine⟨v,?_,m⟩;rw[hp] at hr;simp only[xk,hp];simpa [Instr.loadAt,Instr.sureAddr,asAddr] using hr
  ·simp at h
theorem Gk(fn:Func)(tmps:Array Value):results fn tmps=(do let vs <-fn.results.mapM (xk tmps);pure (if h:vs.size=1 then vs[0] else .tuple vs)):=by unfold results;congr 1
theorem Bf(hs:St c H)(he:ER c T e a){fn:Func}{rs:List aX}{d:D}(b:IS P fn.results.toList=some rs)(h:nP H e rs=some d): ∃v,(results fn a.tmps).run P c.w= .ok v c.w/\iA c d v:=by
 rw[Gk];generalize hl:fn.results.toList=l at b;have p:fn.results=l.toArray:=by rw[<-hl]
 rw[p]
 match l,b with
 | [],b=>simp only[IS,Option.some.injEq] at b;subst b;simp only[nP,Option.some.injEq] at h;subst h;exact⟨.tuple #[],by simp,⟨[],rfl,rfl,by simp⟩⟩
 | [r],b=>
   simp only[IS] at b;split at b;·rename_i x E o f;simp only[Option.some.injEq] at f b;subst f;subst b;simp only[nP] at h;obtain⟨v,A,B⟩:=I7 hs he o h;exact⟨v,by simp[A],B⟩
   ·simp at b
 | [r,s],b=>
   simp only[IS] at b;split at b
   ·rename_i x E o f;split at f
    ·rename_i y L C j;simp only[Option.some.injEq] at j f b;subst j;subst f;subst b;simp only[nP] at h;split at h
     ·rename_i F G I J;obtain⟨v,A,B⟩:=I7 hs he o I;obtain⟨u,hu,m⟩:=I7 hs he C J;cases F<;>cases G<;>simp only[aaA,Option.some.injEq] at h<;>first|cases h;done|skip
      subst h;refine⟨.tuple #[v,u],by simp[A,hu],⟨[v,u],rfl,rfl,fun i d1 v1 g k=> ?_⟩⟩
      match i with
      |0=>simp at g k;subst g;subst k;exact B
      |1=>simp at g k;subst g;subst k;exact m
      |i+2=>simp at g
     ·simp at h
    ·simp at f
   ·simp at b
 | [r,s,t],b=>
   simp only[IS] at b;split at b
   ·rename_i x E o f;split at f
    ·rename_i y L C j;split at j
     ·rename_i z N M n;simp only[Option.some.injEq] at n j f b;subst n;subst j;subst f;subst b;simp only[nP] at h;split at h
      ·rename_i F G O I J Q;obtain⟨v,A,B⟩:=I7 hs he o I;obtain⟨u,hu,m⟩:=I7 hs he C J;obtain⟨q,R,K⟩:=I7 hs he M Q;cases F<;>cases G<;>cases O<;>simp only[Zw,Option.some.injEq] at h<;>first|cases h;done|skip
       subst h;refine⟨.tuple #[v,u,q],by simp[A,hu,R],⟨[v,u,q],rfl,rfl,fun i d1 v1 g k=> ?_⟩⟩
       match i with
       |0=>simp at g k;subst g;subst k;exact B
       |1=>simp at g k;subst g;subst k;exact m
       |2=>simp at g k;subst g;subst k;exact K
       |i+3=>simp at g
      ·simp at h
     ·simp at j
    ·simp at f
   ·simp at b
 |_::_::_::_::_,b=>
  simp only[IS] at b;split at b
  ·rename_i x E o f;split at f
   ·rename_i y L C j;split at j
    ·rename_i z N M n;split at n;·simp only[Option.some.injEq] at n j f b;subst n;subst j;subst f;subst b;simp[nP] at h
     ·simp at n
    ·simp at j
   ·simp at f
  ·simp at b
structure CvR(nx:Nat)(d:D)(H:aA)(nh:Nat)(d':D)(H':aA)(F:Nat->Prop)(σ:Nat->Nat):Prop where
 le:nx<=nh
 fix: ∀i,i<nx->σ i=i
 d:CvD H F σ nh d' d
 heap:CvH H F σ nh H'
theorem aC.of{f:FuncId}{fn:Func}{code:Code}{ac:AC}{rs:List aX}{cs n:List Cert}{args:List D}{nx:Nat}{K:D->aA->Nat->Prop}
 (o:vX P f=true) (E:P.funcs[f]?=some fn) (G:fn.body=some code) (hc:compile P fn.ntmps code cs=some (ac,n)) (hr:IS P fn.results.toList=some rs) (hl:args.length<=fn.ntmps)
 (h: ∀Q:AQ,(∀ex e' H' nx' d nh g b F σ,ex= .normal\/ex= .ret->nP H' e' rs=some d->CvR nx d H' nh g b F σ->K g b nh->Q ex e' H' nx')->AWP P fn.ntmps ac (Env.args 0 args) H nx Q):aC P f args H nx K:=by
 refine⟨o,fun c vs hs y hlen l=> ?_⟩
 apply calls_of_wp E G
 have p:=R8 _ _ _ _ hc
 have q:ER c fn.ntmps (Env.args 0 args) {tmps:=vs.toArray++Array.replicate (fn.ntmps-vs.toArray.size) undef,defers:=[]}:=by
  refine⟨by simp;omega,rfl,fun t=> ?_⟩;rw[Env.U8];simp only[afU,if_true,Nat.sub_zero]
  cases m:args[t]? with
  |none=>exact trivial
  |some d=>have z:t<vs.length:=(by rw[hlen];exact(adB.1 m).1);have s:(vs.toArray++Array.replicate (fn.ntmps-vs.toArray.size) undef).getD t undef=vs[t]:=(by rw[agT,afQ];simp[z]);rw[s];exact l t d _ m (ac8 z)
 refine wp_mono (h _ (fun ex e' H' nx' d nh g b F σ I J L M=>(⟨I,d,nh,g,b,F,σ,J,L,M⟩:(ex= .normal\/ex= .ret)/\ ∃d nh g b F σ,nP H' e' rs=some d/\CvR nx d H' nh g b F σ/\K g b nh)) code p c _ hs q y) ?_
 rintro ex a w ⟨O,e',H',nx',c',rfl,rfl,u,R,A,S,p5,T,d,nh,g,b,F,σ,U,k,V⟩
 obtain⟨v,s,m⟩:=Bf u A hr U
 obtain⟨I',W,X,Y,Z⟩:=Tq u R y k.le k.fix k.heap
 have j:a.defers=[]/\ ∃v,(results fn a.tmps).run P c'.w= .ok v c'.w/\ ∃B e r b nx',Ending.returned v= .returned B/\e.w=c'.w/\St e b/\Step c H e b/\(∀i,e.N i->c.N i\/(nx<=i/\i<nx'))/\nx<=nx'/\iA e r B/\K r b nx':=by
  refine⟨A.2.1,v,s,v,c'.conv nx nh σ I',g,b,nh,rfl,rfl,Y,Z,?_,k.le,EB u W X k.fix k.d m,V⟩;rintro i (⟨C,x⟩|⟨C,x,_⟩)
  ·rcases S i x with h|h;·exact .inl h
   ·omega
  ·exact .inr ⟨C,x⟩
 rcases T with rfl|rfl
 ·exact j
 ·exact j
def aS(P:Program)(fn:Func)(cs:List Cert):Option (AC×List aX):=
 match fn.body with
 |some b=>match compile P fn.ntmps b cs,IS P fn.results.toList with
  |some (ac,_),some rs=>some (ac,rs)
  |_,_=>none
 |none=>none
theorem aC.enter{f:FuncId}{fn:Func}{ac:AC}{rs:List aX}{cs:List Cert}{args:List D}{nx:Nat}{K:D->aA->Nat->Prop}
 (g:P.funcs[f]?=some fn) (c:vX P f=true) (hc:aS P fn cs=some (ac,rs)) (hl:args.length<=fn.ntmps)
 (h: ∀Q:AQ,(∀ex e' H' nx' d nh e a F σ,ex= .normal\/ex= .ret->nP H' e' rs=some d->CvR nx d H' nh e a F σ->K e a nh->Q ex e' H' nx')->AWP P fn.ntmps ac (Env.args 0 args) H nx Q):aC P f args H nx K:=by
 unfold aS at hc
 split at hc
 ·rename_i b i;split at hc;·rename_i j k l m n;simp only[Option.some.injEq,Prod.mk.injEq] at hc;obtain⟨rfl,rfl⟩:=hc;exact aC.of c g i m n hl h
  ·simp at hc
 ·simp at hc
end
def rn0(τ:Nat->Nat):D1->D1
 | .osl n id off len cap=>.osl n (τ id) off len cap
 | .ptr n id row col=>.ptr n (τ id) row col
 | .omap id=>.omap (τ id)
 |d=>d
def rn1(τ:Nat->Nat):D1->D1
 | .clo f caps=>.clo f (caps.map (rn0 τ))
 |d=>rn0 τ d
def rnV(τ:Nat->Nat):DV->DV
 | .c d=>.c (rn1 τ d)
 | .agg cs=>.agg (cs.map (rn1 τ))
def rnD(τ:Nat->Nat):D->D
 | .one x=>.one (rnV τ x)
 | .tup xs=>.tup (xs.map (rnV τ))
 | .dead=>.dead
def bN.rn(τ:Nat->Nat)(o:bN):bN:=⟨o.n,o.ext,o.rows.map (·.map (rn1 τ))⟩
def aA.upd(H:aA)(id:Nat)(o:Option bN):aA:=fun i=>if i=id then o else H i
theorem aA.fI(H:aA)(id:Nat)(o:bN):H.upd id (some o)=H.set id o:=rfl
theorem aA.wR(H:aA)(id:Nat):H.upd id none=H.del id:=rfl
def tau(a nx:Nat)(τ:Nat->Nat)(i:Nat):Nat:=if i<a then τ i else nx+(i-a)
def back(τ:Nat->Nat)(H0:aA):Nat->aA->aA
 |0,H=>H
 |k+1,H=>(back τ H0 k H).upd (τ k) ((H0 k).map (bN.rn τ))
section
variable{P:Program}{c c1 c2:Cf}{H H0 H1:aA}{τ:Nat -> Nat}
theorem ui(τ:Nat->Nat)(H0 H:aA): ∀(k j:Nat),(∀a b,a<k->b<k->τ a=τ b->a=b)->
 (∃i,i<k/\τ i=j/\back τ H0 k H j=(H0 i).map (bN.rn τ))\/((∀i,i<k->τ i≠j)/\back τ H0 k H j=H j)
 |0,j,_=>.inr ⟨fun i hi=>by omega,rfl⟩
 |k+1,j,c=>by
  by_cases d:τ k=j;·exact .inl ⟨k,by omega,d,by simp[back,aA.upd,d]⟩
  ·have g:back τ H0 (k+1) H j=back τ H0 k H j:=(by simp only[back,aA.upd];rw[if_neg (Ne.symm d)]);rw[g];rcases ui τ H0 H k j (fun a b m g=>c a b (by omega) (by omega)) with⟨i,h,e,l⟩|⟨h,e⟩
   ·exact .inl ⟨i,by omega,e,l⟩
   ·refine .inr ⟨fun i hi=> ?_,e⟩;by_cases f:i=k;·subst f;exact d
    ·exact h i (by omega)
variable{c':Cf}{x:Value}
theorem Hz{c:Cf}(b: ∀i,c.N i->c'.N (τ i))(a: ∀i,c.N i->c'.ρ (τ i)=c.ρ i)(f:c'.I=c.I)(hw:c'.w=c.w){d:D1}(h:cX c d x):cX c' (rn0 τ d) x:=by
 cases d<;>simp only[cX,rn0] at h ⊢ <;>first| (rw[f,hw];exact h)|exact h|skip
 ·refine⟨h.1,h.2.imp (fun h=>h) fun⟨g,e,j⟩=>⟨g,b _ e,by rw[a _ e];exact j⟩⟩
 ·exact⟨b _ h.1,by rw[a _ h.1];exact h.2⟩
 ·exact⟨b _ h.1,by rw[a _ h.1];exact h.2⟩
theorem yt{c:Cf}(e: ∀i,c.N i->c'.N (τ i))(a: ∀i,c.N i->c'.ρ (τ i)=c.ρ i)(g:c'.I=c.I)(hw:c'.w=c.w){d:D1}(h:Rel c d x):Rel c' (rn1 τ d) x:=by
 cases d with
 |clo f caps=>obtain⟨vs,j,hl,k⟩:=h;refine⟨vs,j,by simp[hl],fun i d u b l=> ?_⟩;simp only[adJ,adC] at b;obtain⟨m,b,rfl⟩:=b;exact Hz e a g hw (k i m u b l)
 |_=>simp only[Rel,rn1,rn0] at h ⊢;exact Hz e a g hw h
theorem Tu{c:Cf}(f: ∀i,c.N i->c'.N (τ i))(b: ∀i,c.N i->c'.ρ (τ i)=c.ρ i)(g:c'.I=c.I)(hw:c'.w=c.w){e:List D1}{xs:List Value}(h:y4 c e xs):y4 c' (e.map (rn1 τ)) xs:=by refine⟨by simp[h.1],fun i d u a j=> ?_⟩;simp only[adJ,adC] at a;obtain⟨k,a,rfl⟩:=a;exact yt f b g hw (h.2 i k u a j)
theorem Hu{c:Cf}(b: ∀i,c.N i->c'.N (τ i))(a: ∀i,c.N i->c'.ρ (τ i)=c.ρ i)(e:c'.I=c.I)(hw:c'.w=c.w){d:DV}(h:mH c d x):mH c' (rnV τ d) x:=by
 cases d with
 |c d=>exact yt b a e hw h
 |agg cs=>obtain⟨vs,f,hl⟩:=h;exact⟨vs,f,Tu b a e hw hl⟩
theorem Wb{c:Cf}(e: ∀i,c.N i->c'.N (τ i))(a: ∀i,c.N i->c'.ρ (τ i)=c.ρ i)(f:c'.I=c.I)(hw:c'.w=c.w){d:D}(h:iA c d x):iA c' (rnD τ d) x:=by
 cases d with
 |one d=>exact Hu e a f hw h
 |dead=>trivial
 |tup m=>obtain⟨vs,g,hl,j⟩:=h;refine⟨vs,g,by simp[hl],fun i d u b k=> ?_⟩;simp only[adJ,adC] at b;obtain⟨l,b,rfl⟩:=b;exact Hu e a f hw (j i l u b k)
theorem aC.lift{f:FuncId}{args0 args:List D}{p nx:Nat}{K0 K:D->aA->Nat->Prop}(h:aC P f args0 H0 p K0)(τ:Nat->Nat)(hlen:args.length=args0.length)
 (aa: ∀(i:Nat) (d0 d:D),args0[i]?=some d0->args[i]?=some d->CvD H (fun _=>False) τ p d0 d) (hH:CvH H (fun _=>False) τ p H0) (hτ: ∀i,i<p->τ i<nx) (bb: ∀i j,i<p->j<p->τ i=τ j->i=j)
 (hK: ∀r H' n',p<=n'->K0 r H' n'->K (rnD (tau p nx τ) r) (back (tau p nx τ) H' n' H) (nx+(n'-p))):aC P f args H nx K:=by
 refine⟨h.1,fun c vs hs hN hl hr=> ?_⟩
 have bk:Step {c with N:=fun _=>False} H c H:={
  ρ:=fun id h=>h.elim
  N:=fun id h=>h.elim
  I:=fun b h=>h
  I':=fun b h=>.inl h
  size:=ac1 _
  os:=rfl
  tape:=rfl
  output:=rfl
  frame:=fun _ _ _=>rfl
  own:=fun b h=>.inl h}
 have bp:=(Hb (nx:=0) hs bk (fun _ h=>h.elim) (afU p) (fun i hi=>by omega) hH).1
 have cc:c.frI H (fun _=>False)=c.I:=by funext b;simp only[Cf.frI,false_and,exists_false,or_false]
 rw[cc] at bp
 obtain⟨c1,G⟩: ∃c1,c1=c.conv 0 p τ c.I:=⟨_,rfl⟩
 rw[<-G] at bp
 have C:c1.w=c.w:=by rw[G];rfl
 have e2:c1.I=c.I:=by rw[G];rfl
 have e3: ∀i,c1.ρ i=c.ρ (τ i):=fun i=>by rw[G];rfl
 have e4: ∀i,c1.N i->i<p/\c.N (τ i):=fun i hi=>by rw[G] at hi;exact hi.elim (fun h=>absurd h.1 (adV i)) fun h=>⟨h.2.1,h.2.2⟩
 have z: ∀b,B0 c1 H0 b->B0 c H b:=by rintro b ⟨id,o,k1,k2,rfl⟩;obtain⟨g,_,o',e,q,h4,_⟩:=hH.obj id o k1;exact⟨τ id,o',e,by omega,(congrArg Prod.fst (e3 id)).symm⟩
 have Q:=h.2 c1 vs bp (fun i hi=>(e4 i hi).1) (by rw[hl,hlen]) (fun i d0 v g e=>by
  have hi:i<args.length:=by rw[hlen];exact(adB.1 g).1
  have:=EB (nx:=0) hs (I':=c.I) (fun b h=>h) (fun id o h=>h.elim) (fun i hi=>by omega) (aa i d0 _ g (ac8 hi)) (hr i _ v (ac8 hi) e)
  rw[G];exact this)
 rw[C] at Q
 apply Q.mono
 rintro x w' ⟨v,c2,r,H2,J,rfl,rfl,A,L,p3,p4,p5,p6⟩
 obtain⟨t,ht⟩: ∃t,t=tau p nx τ:=⟨_,rfl⟩
 have B: ∀i,i<p->t i=τ i:=fun i hi=>by rw[ht];simp only[tau];rw[if_pos hi]
 have M: ∀i,p<=i->t i=nx+(i-p):=fun i hi=>by rw[ht];simp only[tau];rw[if_neg (by omega)]
 have cd: ∀i,c2.N i->i<J:=fun i hi=>by
  rcases p3 i hi with h|h;·have:=(e4 i h).1;omega
  ·exact h.2
 have ab: ∀a b,a<J->b<J->t a=t b->a=b:=by
  intro a b _ _ R;by_cases ha:a<p<;>by_cases E:b<p;·rw[B a ha,B b E] at R;exact bb a b ha E R
  ·rw[B a ha,M b (by omega)] at R;have:=hτ a ha;omega
  ·rw[M a (by omega),B b E] at R;have:=hτ b E;omega
  ·rw[M a (by omega),M b (by omega)] at R;omega
 obtain⟨c3,S⟩: ∃c3:Cf,c3= {ρ:=fun j=>if j<nx then c.ρ j else c2.ρ (p+(j-nx)),N:=fun j=>c.N j\/(nx<=j/\c2.N (p+(j-nx))),I:=c2.I,w:=c2.w}:=⟨_,rfl⟩
 have O:c3.w=c2.w:=by rw[S]
 have q2:c3.I=c2.I:=by rw[S]
 have T: ∀j,j<nx->c3.ρ j=c.ρ j:=fun j U=>by rw[S];simp only;rw[if_pos U]
 have q4: ∀j,c3.N j↔c.N j\/(nx<=j/\c2.N (p+(j-nx))):=fun j=>by rw[S]
 have q5: ∀i,c2.N i->c3.N (t i):=by
  intro i hi;rw[q4];rcases p3 i hi with h|h;·rw[B i (e4 i h).1];exact .inl (e4 i h).2
  ·rw[M i h.1];right;refine⟨by omega,?_⟩;have:p+(nx+(i-p)-nx)=i:=(by omega);rw[this];exact hi
 have Y: ∀i,c2.N i->c3.ρ (t i)=c2.ρ i:=by
  intro i hi;rcases p3 i hi with h|h;·rw[B i (e4 i h).1,T _ (hτ i (e4 i h).1),L.ρ i h,e3]
  ·rw[M i h.1,S];simp only;rw[if_neg (by omega)];congr 1;omega
 have F: ∀j o,H j=some o->0<o.ext->(c.ρ j).1<c.w.heap.size:=by intro j o m he;exact(hs.blk j o m he).lt
 have hB: ∀j o,back t H2 J H j=some o->(∃i n,i<J/\t i=j/\H2 i=some n/\o=n.rn t)\/((∀i,i<J->t i≠j)/\H j=some o):=by
  intro j o m;rcases ui t H2 H J j ab with⟨i,g,e,q⟩|⟨g,e⟩
  ·rw[q] at m;simp only[adC] at m;obtain⟨n,h4,rfl⟩:=m;exact .inl ⟨i,n,g,e,h4,rfl⟩
  ·rw[e] at m;exact .inr ⟨g,m⟩
 have s: ∀j o,H j=some o->j<nx:=fun j o m=>hN j (hs.named j o m)
 have y: ∀j o,(∀i,i<J->t i≠j)->H j=some o->0<o.ext->¬B0 c1 H0 (c.ρ j).1:=by
  rintro j o U m he ⟨i,n,k1,k2,k3⟩;obtain⟨g,_,o',e,q,h4,_⟩:=hH.obj i n k1;have Z:τ i≠j:=by rw[<-B i g];exact U i (by omega)
  rw[e3] at k3;exact hs.sep (τ i) j o' o e m (by omega) he Z k3
 have V:Step c H c3 (back t H2 J H):={
  ρ:=fun j U=>T j (hN j U)
  N:=fun j U=>(q4 j).2 (.inl U)
  I:=fun b E=>by rw[q2];exact L.I b (by rw[e2];exact E)
  I':=fun b E=>by
   rw[q2] at E;rcases L.I' b E with h|h|h;·left;rw[<-e2];exact h
   ·exact .inr (.inl (z b h))
   ·right;right;rw[<-C];exact h
  size:=by rw[O,<-C];exact L.size
  os:=by rw[O,<-C];exact L.os
  tape:=by rw[O,<-C];exact L.tape
  output:=by rw[O,<-C];exact L.output
  frame:=fun b E m=>by rw[O,<-C];exact L.frame b (by rw[C];exact E) fun h=>m (z b h)
  own:=by
   rintro b ⟨j,o,k1,k2,rfl⟩;rcases hB j o k1 with⟨i,n,g,rfl,q,rfl⟩|⟨g,e⟩
   ·rw[Y i (A.named i n q)];rcases L.own _ ⟨i,n,q,k2,rfl⟩ with h|h;·exact .inl (z _ h)
    ·right;rw[<-C];exact h
   ·left;exact⟨j,o,e,k2,by rw[T j (s j o e)]⟩}
 have ad: ∀j o,(∀i,i<J->t i≠j)->H j=some o->0<o.ext->c3.w.heap[(c3.ρ j).1]?=c.w.heap[(c.ρ j).1]?:=by intro j o U m he;rw[T j (s j o m),O,<-C];exact L.frame _ (by rw[C];exact F j o m he) (y j o U m he)
 have ai: ∀d x,Rel c2 d x->Rel c3 (rn1 t d) x:=fun d x h=>yt q5 Y q2 O h
 refine⟨v,c3,rnD t r,back t H2 J H,nx+(J-p),rfl,O,?_,V,?_,by omega,Wb q5 Y q2 O p5,by rw[ht];exact hK r H2 J p4 p6⟩
 ·refine {named:= ?_,wf:= ?_,blk:= ?_,cells:= ?_,sep:= ?_,imm:= ?_,old:= ?_}
  ·intro j o m;rcases hB j o m with⟨i,n,g,rfl,q,rfl⟩|⟨g,e⟩
   ·exact q5 i (A.named i n q)
   ·exact(q4 j).2 (.inl (hs.named j o e))
  ·intro j o m;rcases hB j o m with⟨i,n,g,rfl,q,rfl⟩|⟨g,e⟩
   ·obtain⟨k1,k2⟩:=A.wf i n q;refine⟨by simpa [bN.rn] using k1,fun i r hr=> ?_⟩;simp only[bN.rn,adJ,adC] at hr;obtain⟨r0,hr,rfl⟩:=hr;simpa [bN.rn] using k2 i r0 hr
   ·exact hs.wf j o e
  ·intro j o m he;rcases hB j o m with⟨i,n,g,rfl,q,rfl⟩|⟨g,e⟩
   ·rw[Y i (A.named i n q),O];exact(A.blk i n q he).Yi rfl rfl fun _=>by simp[bN.rn]
   ·have:=hs.blk j o e he;rw[<-ad j o g e he,<-T j (s j o e)] at this;exact this
  ·intro j o k l r d m hr hd;rcases hB j o m with⟨i,n,g,rfl,q,rfl⟩|⟨g,e⟩
   ·simp only[bN.rn,adJ,adC] at hr;obtain⟨r0,hr,rfl⟩:=hr;simp only[adJ,adC] at hd;obtain⟨d0,hd,rfl⟩:=hd;obtain⟨u,h5,h6⟩:=A.cells i n k l r0 d0 q hr hd;refine⟨u,?_,ai d0 u h6⟩;rw[Y i (A.named i n q),O];exact h5
   ·obtain⟨u,h5,h6⟩:=hs.cells j o k l r d e hr hd;have br:0<o.ext:=by have:=(hs.wf j o e).1;have hk:k<o.rows.length:=(adB.1 hr).1;omega
    refine⟨u,?_,h6.step V hs⟩;rw[<-h5];have:=ad j o g e br;rw[T j (s j o e)] at this ⊢;exact World.cell?_of_block (w:=c.w) this
  ·intro j j' o o' m cf he W Z;rcases hB j o m with⟨i,n,g,rfl,q,rfl⟩|⟨g,e⟩<;>rcases hB j' o' cf with⟨i',aj,ca,rfl,ao,rfl⟩|⟨ca,X⟩
   ·rw[Y i (A.named i n q),Y i' (A.named i' aj ao)];exact A.sep i i' n aj q ao he W fun h=>Z (congrArg t h)
   ·rw[Y i (A.named i n q),T j' (s j' o' X)];intro heq;rcases L.own _ ⟨i,n,q,he,heq⟩ with h|h;·exact y j' o' ca X W h
    ·have:=F j' o' X W;rw[C] at h;omega
   ·rw[Y i' (A.named i' aj ao),T j (s j o e)];intro heq;rcases L.own _ ⟨i',aj,ao,W,heq.symm⟩ with h|h;·exact y j o g e he h
    ·have:=F j o e he;rw[C] at h;omega
   ·rw[T j (s j o e),T j' (s j' o' X)];exact hs.sep j j' o o' e X he W Z
  ·intro j o m he;rw[q2];rcases hB j o m with⟨i,n,g,rfl,q,rfl⟩|⟨g,e⟩
   ·rw[Y i (A.named i n q)];exact A.imm i n q he
   ·rw[T j (s j o e)];intro hI;rcases L.I' _ hI with h|h|h;·rw[e2] at h;exact hs.imm j o e he h
    ·exact y j o g e he h
    ·have:=F j o e he;rw[C] at h;omega
  ·intro b E;rw[q2] at E;rw[O];exact A.old b E
 ·intro j U;rcases(q4 j).1 U with h|⟨g,e⟩
  ·exact .inl h
  ·right;have:=cd _ e;exact⟨g,by omega⟩
def D1.plain:D1->Bool
 | .v _=>true
 |_=>false
def D.plain:D->Bool
 | .one (.c d)=>d.plain
 | .one (.agg a)=>a.all D1.plain
 | .tup xs=>xs.all fun x=>x.cells.all D1.plain
 | .dead=>false
theorem Tc{c:Cf}{d:D1}(h:d.plain=true)(hr:Rel c d x):Rel c' d x:=by
 cases d<;>simp only[D1.plain] at h<;>first|cases h;done|skip
 have:=FT (c:=c) hr;subst this;exact QY hr.tY
theorem Yj{c:Cf}{a:List D1}(h:a.all D1.plain=true){xs:List Value}(hr:y4 c a xs):y4 c' a xs:=⟨hr.1,fun i d u b e=>Tc (adK.1 h d (adI b)) (hr.2 i d u b e)⟩
theorem Zs{c:Cf}{d:D}(h:d.plain=true)(hr:iA c d x):iA c' d x:=by
 have b: ∀(d:DV) (x:Value),d.cells.all D1.plain=true->mH c d x->mH c' d x:=by
  intro d x h hr
  cases d with
  |c d=>exact Tc (by simpa [DV.cells] using h) hr
  |agg f=>obtain⟨vs,a,hl⟩:=hr;exact⟨vs,a,Yj h hl⟩
 cases d with
 |one d=>exact b d x (by cases d<;>simpa [D.plain,DV.cells] using h) hr
 |dead=>trivial
 |tup f=>obtain⟨vs,a,hl,g⟩:=hr;refine⟨vs,a,hl,fun i d u e j=>b d u ?_ (g i d u e j)⟩;simp only[D.plain,adK] at h;exact adK.2 (h d (adI e))
theorem aC.pure{f:FuncId}{args0 args:List D}{nx:Nat}{K:D->aA->Nat->Prop}{R:D->Prop}(h:aC P f args0 .nil 0 fun r _ _=>r.plain=true/\R r)(hlen:args.length=args0.length)
 (y: ∀(i:Nat) (J d:D),args0[i]?=some J->args[i]?=some d->CvD H (fun _=>True) id 0 J d) (U: ∀r,R r->K r H nx):aC P f args H nx K:=by
 refine⟨h.1,fun c vs hs hN hl hr=> ?_⟩
 have A:Step {c with N:=fun _=>False} H c H:={
  ρ:=fun id h=>h.elim
  N:=fun id h=>h.elim
  I:=fun b h=>h
  I':=fun b h=>.inl h
  size:=ac1 _
  os:=rfl
  tape:=rfl
  output:=rfl
  frame:=fun _ _ _=>rfl
  own:=fun b h=>.inl h}
 have B:=(Hb (nx:=0) (nh:=0) (σ:=id) (F:=fun _=>True) (H':=.nil) hs A (fun _ h=>h.elim) (ac1 0) (fun i hi=>rfl) ⟨fun id o h=>(by cases h),fun i j o o' h=>(by cases h)⟩).1
 obtain⟨c1,q⟩: ∃c1,c1=c.conv 0 0 id (c.frI H fun _=>True):=⟨_,rfl⟩
 rw[<-q] at B
 have s:c1.w=c.w:=by rw[q];rfl
 have g:=h.2 c1 vs B (fun i hi=>by rw[q] at hi;rcases hi with⟨h,_⟩|⟨_,C,_⟩<;>omega) (by rw[hl,hlen]) (fun i J v C E=>by
  have hi:i<args.length:=by rw[hlen];exact(adB.1 C).1
  have:=EB (nx:=0) hs (I':=c.frI H fun _=>True) (fun b h=>.inl h) (fun id o C E V=>.inr ⟨id,o,C,E,V,rfl⟩) (fun i hi=>rfl) (y i J _ C (ac8 hi)) (hr i _ v (ac8 hi) E)
  rw[q];exact this)
 rw[s] at g
 apply g.mono
 rintro x w' ⟨v,c2,r,H2,n2,rfl,rfl,p1,z,p3,p4,W,X,Y⟩
 have L: ∀b,¬B0 c1 .nil b:=by rintro b ⟨id,o,h,_⟩;cases h
 have m: ∀b,b<c.w.heap.size->c2.w.heap[b]?=c.w.heap[b]?:=fun b n=>by rw[<-s];exact z.frame b (by rw[s];exact n) (L b)
 obtain⟨c3,a⟩: ∃c3:Cf,c3= {c with w:=c2.w}:=⟨_,rfl⟩
 have p:Step c H c3 H:={
  ρ:=fun j S=>by rw[a]
  N:=fun j S=>by rw[a];exact S
  I:=fun b n=>by rw[a];exact n
  I':=fun b n=>by rw[a] at n;exact .inl n
  size:=by rw[a,<-s];exact z.size
  os:=by rw[a,<-s];exact z.os
  tape:=by rw[a,<-s];exact z.tape
  output:=by rw[a,<-s];exact z.output
  frame:=fun b n e=>by rw[a];exact m b n
  own:=by rintro b ⟨j,o,Z,k2,T⟩;exact .inl ⟨j,o,Z,k2,by rw[a] at T;exact T⟩}
 have t: ∀j o,H j=some o->0<o.ext->(c.ρ j).1<c.w.heap.size:=by intro j o e he;exact(hs.blk j o e he).lt
 refine⟨v,c3,r,H,nx,rfl,by rw[a],?_,p,fun i hi=>by rw[a] at hi;exact .inl hi,ac1 _,Zs X W,U r Y⟩
 refine {named:= ?_,wf:=hs.wf,blk:= ?_,cells:= ?_,sep:= ?_,imm:= ?_,old:= ?_}
 ·intro j o e;rw[a];exact hs.named j o e
 ·intro j o e he;have:=hs.blk j o e he;rw[<-m _ (t j o e he)] at this;rw[a];exact this
 ·intro j o k l r d e hr hd;obtain⟨u,h5,h6⟩:=hs.cells j o k l r d e hr hd;have G:0<o.ext:=by have:=(hs.wf j o e).1;have hk:k<o.rows.length:=(adB.1 hr).1;omega
  refine⟨u,?_,h6.step p hs⟩;rw[<-h5,a];exact World.cell?_of_block (w:=c.w) (m _ (t j o e G))
 ·intro j j' o o' e M he O Q;rw[a];exact hs.sep j j' o o' e M he O Q
 ·intro j o e he;rw[a];exact hs.imm j o e he
 ·intro b n;rw[a] at n ⊢;have:=hs.old b n;have E:=z.size;rw[s] at E;simp only;omega
end
def wv(P:Program)(b:Nat)(live:List Nat)(K:Env->aA->Nat->Prop)(L:List bB)(e:Env)(H:aA)(nx:Nat)(S:fE):Prop:=avc P b (fun e' H' nx'=>K (e'.EY live) H' nx') L e H nx S
def wvQ(P:Program)(b:Nat)(live:List Nat)(K:Env->aA->Nat->Prop)(L:List bB)(dst:Option Nat)(e:Env)(H:aA)(nx:Nat)(S:fE):Option D->Prop
 |some d=>wv P b live K L (e.put dst d) H nx S
 |none=>False
def wvL(P:Program)(b:Nat)(live:List Nat)(K:Env->aA->Nat->Prop)(L:List bB)(dst:Option Nat)(e:Env)(H:aA)(nx:Nat)(S:fE)(p:Nat)(g:D->aA->Prop):Option D->Prop
 |some d=>wv P b live K L (e.put dst d) H nx ((p,g d)::S)
 |none=>False
def wvA(P:Program)(b:Nat)(live:List Nat)(K:Env->aA->Nat->Prop)(L:List bB)(dst:Option Nat)(id:Nat)(e:Env)(H:aA)(nx:Nat)(S:fE):Option (D×bN)->Prop
 |some (d,a)=>wv P b live K L (e.put dst d) (H.set id a) nx S
 |none=>False
def wvS(P:Program)(b:Nat)(live:List Nat)(K:Env->aA->Nat->Prop)(L:List bB)(dst:Option Nat)(m st:List Nat)(e:Env)(H:aA)(nx:Nat)(S:fE):Option (Nat×bN)->Prop
 |some (i,a)=>pC S st (c8 b m H ((msk b m H).set i a))/\wv P b live K L (e.put dst .dead) (c8 b m H ((msk b m H).set i a)) nx S
 |none=>False
def wvP(P:Program)(b:Nat)(live:List Nat)(K:Env->aA->Nat->Prop)(L:List bB)(dst:Option Nat)(id:Nat)(m st:List Nat)(e:Env)(H:aA)(nx:Nat)(S:fE)(a:Nat):Option (Option Nat×Nat×Nat×List (List D1))->Prop
 |some (dl,n,k,rows)=>k<=2147483647/\ ∀cap,k<=cap->a<=cap->pC S st (c8 b m H ((lq (msk b m H) dl).set id ⟨n,cap,rows⟩))/\wv P b live K L (e.put dst (.one (.c (.osl n id 0 k cap)))) (c8 b m H ((lq (msk b m H) dl).set id ⟨n,cap,rows⟩)) nx S
 |none=>False
def JG(P:Program)(b:Nat)(live:List Nat)(K:Env->aA->Nat->Prop)(L:List bB)(dst:Option Nat)(m st:List Nat)(e:Env)(H:aA)(S:fE)(r:D)(H':aA)(nx:Nat):Prop:=pC S st (c8 b m H H')/\wv P b live K L (e.put dst r) (c8 b m H H') nx S
def Fi(c x y:D):Option D:=
 match c with
 | .one (.c (.v (.bool t)))=>some (An t x y)
 |_=>none
def Yz:D->Option D
 | .one (.c (.ptr n id row col))=>some (.one (.c (.ptr n id row col)))
 | .one (.c (.dQ cs))=>some (.one (.c (.dQ cs)))
 |_=>none
def Qa(H:aA)(n:Nat)(g:Bool):D->Option D
 | .one (.c d)=>(rI H d n).bind (mkV g)
 |_=>none
def Zm(k:Nat):D->Option D
 | .one (.c (.ptr n id row col))=>some (.one (.c (.ptr n id row (col+k))))
 | .one (.c (.dQ cs))=>some (.one (.c (.dQ (cs.drop k))))
 |_=>none
def Ws(n:Nat)(rows:List (List D1))(k:Int):Option D:=
 if 0<=k then
  match rows[k.toNat]? with
  |some r=>if r.length=n then some (.one (.c (.dQ r))) else none
  |none=>none
 else none
def aaF(n:Nat):D->D->Option D
 | .one (.c (.osl m id off len _)),.one (.c (.v (.int _ k)))=>if m=n/\0<=k/\k<len then some (.one (.c (.ptr n id (off+k.toNat) 0))) else none
 | .one (.c (.isl rows)),.one (.c (.v (.int _ k)))=>Ws n rows k
 |_,_=>none
def Si(n len:Nat):D->D->Option D
 | .one (.c (.ptr m id row col)),.one (.c (.v (.int _ k)))=>if 0<=k/\k<len then some (.one (.c (.ptr m id row (col+k.toNat*n)))) else none
 |_,_=>none
def Wx(op:BinOp):D->D->Option D
 | .one (.c (.v a)),.one (.c (.v b))=>(gg op a b).map fun v=>.one (.c (.v v))
 |_,_=>none
def acG(neg:Bool):D->D->Option D
 | .one (.c (.v (.bool a))),.one (.c (.v (.bool b)))=>some (.one (.c (.v (.bool (if neg then a != b else a==b)))))
 |_,_=>none
def unD:UnOp->D->Option D
 | .not,.one (.c (.v (.bool b)))=>some (.one (.c (.v (.bool !b))))
 | .neg,.one (.c (.v (.int k n)))=>some (.one (.c (.v (.int k (k.wrap (0-n))))))
 |_,_=>none
def Rt(k:IntKind):D->Option D
 | .one (.c (.v (.int _ n)))=>some (.one (.c (.v (.int k (k.wrap n)))))
 |_=>none
def Ym:Bool->D->Option D
 |true,.one (.c (.v (.string s)))=>some (.one (.c (.v (.int .i64 s.size))))
 |false,.one (.c (.isl rows))=>some (.one (.c (.v (.int .i64 rows.length))))
 |false,.one (.c (.osl _ _ _ len _))=>some (.one (.c (.v (.int .i64 len))))
 |_,_=>none
def aa1:D->Option D
 | .one (.c (.osl _ _ _ _ cap))=>some (.one (.c (.v (.int .i64 cap))))
 |_=>none
def Zn(i:Nat):D->Option D
 | .tup xs=>(xs[i]?).map .one
 |_=>none
def ME(d:Nat):Option D->Option Nat
 |none=>some d
 |some (.one (.c (.v (.int _ k))))=>if 0<=k then some k.toNat else none
 |_=>none
def zA(n:Nat)(x:D)(lo hi mx:Option D):Option D:=
 match x with
 | .one (.c (.isl rows))=>
   match mx,ME 0 lo,ME rows.length hi with
   |none,some l,some h=>if l<=h/\h<=rows.length/\(∀r∈rows,r.length=n) then some (.one (.c (.isl ((rows.drop l).take (h-l))))) else none
   |_,_,_=>none
 | .one (.c (.osl m id off len cap))=>
   match ME 0 lo,ME len hi,ME cap mx with
   |some l,some h,some a=>(Bt n l h a (.osl m id off len cap)).map fun d=>.one (.c d)
   |_,_,_=>none
 |_=>none
def ab2:D->Option D
 | .one (.c (.isl _))=>some (.one (.c .nil))
 | .one (.c (.osl _ _ _ _ _))=>some (.one (.c .nil))
 |_=>none
def aaI(d:Bool):D->D->Option D
 | .one (.c (.v (.int k a))),.one (.c (.v (.int _ b)))=>some (.one (.c (.v (.int k (if d then (if b<a then b else a) else (if a<b then b else a))))))
 |_,_=>none
def Dk(off n:Nat)(g:Bool):D->Option D
 | .one (.agg cs)=>if off+n<=cs.length then mkV g ((cs.drop off).take n) else none
 |_=>none
def Iy:Option (List D1)->Option D
 |some cs=>some (.one (.agg cs))
 |none=>none
def Rb(cs:List D1)(off n:Nat)(e:Env)(a:List (Nat×Nat×aZ)):D->Option (List D1)
 | .one d=>if d.cells.length=n/\off+n<=cs.length then y9 e (kD cs off d.cells) a else none
 |_=>none
def ldR(r:Option (List D1))(col k:Nat):Option (List D1):=
 match r with
 |some r=>if col+k<=r.length then some ((r.drop col).take k) else none
 |none=>none
def ldO(o:Option bN)(n row col k:Nat):Option (List D1):=
 match o with
 |some o=>if o.n=n then ldR o.rows[row]? col k else none
 |none=>none
def stR(id:Nat)(o:bN)(r:Option (List D1))(row col:Nat)(a:List D1):Option (Nat×bN):=
 match r with
 |some r=>if col+a.length<=r.length then some (id,⟨o.n,o.ext,o.rows.set row (kD r col a)⟩) else none
 |none=>none
def stO(id:Nat)(o:Option bN)(n row col:Nat)(a:List D1):Option (Nat×bN):=
 match o with
 |some o=>if o.n=n then stR id o o.rows[row]? row col a else none
 |none=>none
variable{row col:Nat}
theorem Ax{H:aA}{n id k:Nat}:rI H (.ptr n id row col) k=ldO (H id) n row col k:=by unfold rI ldO ldR;rfl
theorem vn{H:aA}{cs:List D1}{k:Nat}:rI H (.dQ cs) k=if k<=cs.length then some (cs.take k) else none:=rfl
theorem zh{H:aA}{n id:Nat}{a:List D1}:YS H (.ptr n id row col) a=stO id (H id) n row col a:=by unfold YS stO stR;rfl
theorem Of{α:Type}[Inhabited α]{n:Nat}{enc:α->List D1}{l:List α}{k:Int}:
 Ws n (l.map enc) k=if 0<=k/\k<l.length/\(enc (l.getD k.toNat default)).length=n then some (.one (.c (.dQ (enc (l.getD k.toNat default))))) else none:=by
 unfold Ws
 by_cases a:0<=k
 ·by_cases d:k<l.length;·have b:k.toNat<l.length:=(by omega);simp[a,d,b]
  ·have b: ¬k.toNat<l.length:=(by omega);simp[a,d,b]
 ·simp[a]
theorem Vd{α:Type}[Inhabited α]{enc:α->List D1}{l:List α}{i k:Nat}:
 ldR ((l.map enc)[i]?) col k=if i<l.length/\col+k<=(enc (l.getD i default)).length then some (((enc (l.getD i default)).drop col).take k) else none:=by
 by_cases h:i<l.length
 ·simp[ldR,h]
 ·simp[ldR,h]
theorem Vl{α:Type}[Inhabited α]{enc:α->List D1}{l:List α}{id:Nat}{o:bN}{i:Nat}{a:List D1}:
 stR id o ((l.map enc)[i]?) row col a=if i<l.length/\col+a.length<=(enc (l.getD i default)).length then some (id,⟨o.n,o.ext,o.rows.set row (kD (enc (l.getD i default)) col a)⟩) else none:=by
 by_cases h:i<l.length
 ·simp[stR,h]
 ·simp[stR,h]
theorem Ow{α β:Type}{c:Prop}[Decidable c]{x:Option α}{f:α->Option β}:(if c then x else none).bind f=if c then x.bind f else none:=by split<;>rfl
section
variable{P:Program}{b:Nat}{live:List Nat}{K:Env -> aA -> Nat -> Prop}{L:List bB}{dst:Option Nat}{e:Env}{H:aA}{nx:Nat}{S:fE}
theorem AWP.reg{T:Nat}{ops:List bB}{n:Nat}{Q:AQ}(h:wv P nx live (Q .normal) ops e H (nx+n) []):AWP P T (.region ops n live) e H nx Q:=AWP.region h
theorem Yq:wv P b live K [] e H nx S=K (e.EY live) H nx:=rfl
variable{ix:Nat}{m s:List Nat}
theorem acJ{op:AOp}(a: ∃r,op.kind= .q r):wv P b live K (⟨ix,dst,op,none,m,s,false⟩::L) e H nx S=wvQ P b live K L dst e H nx S (bL (msk b m H) e op):=by
 obtain⟨r,a⟩:=a;unfold wv;simp only[avc,pP,DB,aop,a,entry,aeV,if_false,List.nil_append]
 cases h:bL (msk b m H) e op with
 |none=>simp[wvQ]
 |some d=>simp[wvQ,wv]
theorem acO{op:AOp}(a: ∃r,op.kind= .q r):wv P b live K (⟨ix,dst,op,none,m,s,true⟩::L) e H nx S=wvL P b live K L dst e H nx S ix (fun d H'=>bL (msk b m H') e op=some d) (bL (msk b m H) e op):=by
 obtain⟨r,a⟩:=a;unfold wv;simp only[avc,pP,DB,aop,a,entry,if_true,List.singleton_append]
 cases h:bL (msk b m H) e op with
 |none=>simp[wvL]
 |some d=>simp[wvL,wv]
variable{k:Bool}
theorem Sn{op:AOp}(c:op.kind= .a):wv P b live K (⟨ix,dst,op,none,m,s,k⟩::L) e H nx S=wvA P b live K L dst (b+ix) e H nx S (pD (b+ix) e op):=by
 unfold wv;simp only[avc,pP,DB,aop,c]
 cases h:pD (b+ix) e op with
 |none=>simp[wvA]
 |some d=>obtain⟨d,f⟩:=d;simp only[wvA,wv,Option.some.injEq,Prod.mk.injEq,eq_iff_iff];exact⟨by rintro⟨_,_,⟨rfl,rfl⟩,h⟩;exact h,fun h=>⟨_,_,⟨rfl,rfl⟩,h⟩⟩
variable{n:Nat}{x:aZ}
theorem Su{g:Bool}{y:aZ}:wv P b live K (⟨ix,dst,.store n g x y,none,m,s,k⟩::L) e H nx S=wvS P b live K L dst m s e H nx S (TN (msk b m H) e (.store n g x y)):=by
 unfold wv;simp only[avc,pP,DB,aop,AOp.kind,PT]
 cases h:TN (msk b m H) e (.store n g x y) with
 |none=>simp[wvS]
 |some d=>obtain⟨i,a⟩:=d;simp only[wvS,wv,Option.some.injEq,Prod.mk.injEq,eq_iff_iff];exact⟨by rintro⟨_,_,⟨rfl,rfl⟩,h⟩;exact h,fun h=>⟨_,_,⟨rfl,rfl⟩,h⟩⟩
theorem Mc{y:aZ}:wv P b live K (⟨ix,dst,.append n x y,none,m,s,k⟩::L) e H nx S=wvP P b live K L dst (b+ix) m s e H nx S (Ox (x.ev e)) (Q0 (msk b m H) e (.append n x y)):=by
 unfold wv;simp only[avc,pP,DB,aop,AOp.kind,PT]
 cases h:Q0 (msk b m H) e (.append n x y) with
 |none=>simp[wvP]
 |some d=>obtain⟨dl,n',k',rows⟩:=d;simp only[wvP,wv,Option.some.injEq,Prod.mk.injEq,eq_iff_iff];exact⟨by rintro⟨_,_,_,_,⟨rfl,rfl,rfl,rfl⟩,h⟩;exact h,fun h=>⟨_,_,_,_,⟨rfl,rfl,rfl,rfl⟩,h⟩⟩
theorem Uy{f:FuncId}{xs:List aZ}:wv P b live K (⟨ix,dst,.call f xs,none,m,s,k⟩::L) e H nx S=aC P f (xs.map (·.ev e)) (msk b m H) nx (JG P b live K L dst m s e H S):=by unfold wv;simp only[avc,pP,DB,aop,AOp.kind,PT];rfl
theorem Sq{t:Nat}{w:Bool}{op:AOp}{x:Bool}(h:e t= .one (.c (.v (.bool x)))):wv P b live K (⟨ix,dst,op,some (t,w),m,s,k⟩::L) e H nx S=if x=w then wv P b live K (⟨ix,dst,op,none,m,s,k⟩::L) e H nx S else wv P b live K L (e.put dst (.tup [])) H nx S:=by
 unfold wv;simp only[avc,pP,DB,h];by_cases a:x=w;·subst a;simp;exact aeQ
 ·have:(x==w)=false:=by simpa using a
  simp[a,this]
theorem Te{d:D}:wvQ P b live K L dst e H nx S (some d)=wv P b live K L (e.put dst d) H nx S:=rfl
theorem Sj:wvQ P b live K L dst e H nx S none=False:=rfl
theorem Wm{c:Prop}[Decidable c]{x:Option D}:wvQ P b live K L dst e H nx S (if c then x else none)=(c/\wvQ P b live K L dst e H nx S x):=by split<;>rename_i h<;>simp[h,wvQ]
theorem Ok{c:Prop}[Decidable c]{x:Option D}:wvQ P b live K L dst e H nx S (if c then none else x)=(¬c/\wvQ P b live K L dst e H nx S x):=by split<;>rename_i h<;>simp[h,wvQ]
theorem Og{d:D}{p:Nat}{g:D->aA->Prop}:wvL P b live K L dst e H nx S p g (some d)=wv P b live K L (e.put dst d) H nx ((p,g d)::S):=rfl
theorem Pu{id:Nat}{d:D}{a:bN}:wvA P b live K L dst id e H nx S (some (d,a))=wv P b live K L (e.put dst d) (H.set id a) nx S:=rfl
theorem Vh{id:Nat}{c:Prop}[Decidable c]{x:Option (D×bN)}:wvA P b live K L dst id e H nx S (if c then x else none)=(c/\wvA P b live K L dst id e H nx S x):=by split<;>rename_i h<;>simp[h,wvA]
variable{st:List Nat}
theorem Oc{i:Nat}{a:bN}:wvS P b live K L dst m st e H nx S (some (i,a))=(pC S st (c8 b m H ((msk b m H).set i a))/\wv P b live K L (e.put dst .dead) (c8 b m H ((msk b m H).set i a)) nx S):=rfl
theorem Xg{c:Prop}[Decidable c]{x:Option (Nat×bN)}:wvS P b live K L dst m st e H nx S (if c then x else none)=(c/\wvS P b live K L dst m st e H nx S x):=by split<;>rename_i h<;>simp[h,wvS]
theorem Nz{id:Nat}{dl:Option Nat}{k a:Nat}{rows:List (List D1)}:wvP P b live K L dst id m st e H nx S a (some (dl,n,k,rows))=
 (k<=2147483647/\ ∀cap,k<=cap->a<=cap->pC S st (c8 b m H ((lq (msk b m H) dl).set id ⟨n,cap,rows⟩))/\wv P b live K L (e.put dst (.one (.c (.osl n id 0 k cap)))) (c8 b m H ((lq (msk b m H) dl).set id ⟨n,cap,rows⟩)) nx S):=rfl
theorem Tl{r:D}{H':aA}:JG P b live K L dst m st e H S r H' nx=(pC S st (c8 b m H H')/\wv P b live K L (e.put dst r) (c8 b m H H') nx S):=rfl
theorem Ua:msk b [] H=H:=by funext i;simp[msk]
theorem Jb{H':aA}:c8 b [] H H'=H':=by funext i;simp[c8]
theorem Ca{S:fE}{H:aA}:pC S [] H=True:=by simp[pC]
theorem Eb:bL H e (.move x)=some (x.ev e):=rfl
theorem Eg{c y:aZ}:bL H e (.pick c x y)=Fi (c.ev e) (x.ev e) (y.ev e):=by unfold bL Fi;rfl
theorem xo:bL H e (.zO x)=Yz (x.ev e):=by unfold bL Yz;rfl
theorem Dm{g:Bool}:bL H e (.load n g x)=Qa H n g (x.ev e):=by unfold bL Qa;rfl
theorem Jf{k:Nat}:bL H e (.fld k x)=Zm k (x.ev e):=by unfold bL Zm;rfl
theorem Ng{i:aZ}:bL H e (.idx n x i)=aaF n (x.ev e) (i.ev e):=by unfold bL aaF Ws;rfl
theorem Ch{l:Nat}{i:aZ}:bL H e (.se n l x i)=Si n l (x.ev e) (i.ev e):=by unfold bL Si;rfl
theorem Je{op:BinOp}{y:aZ}:bL H e (.bin op x y)=Wx op (x.ev e) (y.ev e):=by unfold bL Wx;rfl
theorem Qs{op:UnOp}:bL H e (.un op x)=unD op (x.ev e):=by unfold bL unD;rfl
theorem Cq{k:IntKind}:bL H e (.conv k x)=Rt k (x.ev e):=by unfold bL Rt;rfl
theorem Nl{s:Bool}:bL H e (.len s x)=Ym s (x.ev e):=by unfold bL Ym;rfl
theorem Mf:bL H e (.cap x)=aa1 (x.ev e):=by unfold bL aa1;rfl
theorem Ks{i:Nat}:bL H e (.ext x i)=Zn i (x.ev e):=by unfold bL Zn;rfl
theorem Ue{d:Nat}{x:Option aZ}:PN e d x=ME d (x.map (·.ev e)):=by
 cases x with
 |none=>rfl
 |some x=>simp only[PN,ME,Option.map];cases x.ev e with
  |one x=>cases x with
   |c x=>cases x with
    |v x=>cases x<;>rfl
    |_=>rfl
   |agg _=>rfl
  |_=>rfl
theorem Kh{lo hi mx:Option aZ}:bL H e (.slc n x lo hi mx)=zA n (x.ev e) (lo.map (·.ev e)) (hi.map (·.ev e)) (mx.map (·.ev e)):=by
 simp only[bL,zA,Ue]
 cases x.ev e with
 |one x=>cases x with
  |c x=>cases x with
   |isl rows=>
    cases mx with
    |none=>
     simp only[Option.map_none]
     cases ME 0 (lo.map (·.ev e)) with
     |none=>rfl
     |some l=>cases ME rows.length (hi.map (·.ev e))<;>rfl
    |some m=>rfl
   |_=>rfl
  |agg _=>rfl
 |_=>rfl
theorem Nq{g:Bool}{y:aZ}:bL H e (.mmx g x y)=aaI g (x.ev e) (y.ev e):=by unfold bL aaI;rfl
theorem At{o:Nat}{g:Bool}:bL H e (.field o n g x)=Dk o n g (x.ev e):=by unfold bL Dk;rfl
theorem Bm{z:List D1}{a:List (Nat×Nat×aZ)}:bL H e (.build z a)=Iy (y9 e z a):=by simp only[bL];cases y9 e z a<;>rfl
theorem Jn{cs:List D1}:y9 e cs []=some cs:=rfl
theorem Cp{cs:List D1}{off:Nat}{a:List (Nat×Nat×aZ)}:y9 e cs ((off,n,x)::a)=Rb cs off n e a (x.ev e):=by unfold y9 Rb;rfl
end
def wvG(P:Program)(b:Nat)(live:List Nat)(K:Env->aA->Nat->Prop)(o:bB)(L:List bB)(w:Bool)(e:Env)(H:aA)(nx:Nat)(S:fE):D->Prop
 | .one (.c (.v (.bool x)))=>if x=w then wv P b live K (o::L) e H nx S else wv P b live K L (e.put o.dst (.tup [])) H nx S
 | .tup []=>wv P b live K L (e.put o.dst (.tup [])) H nx S
 |_=>False
def Bc:Option Value->Option D
 |some v=>some (.one (.c (.v v)))
 |none=>none
section
variable{P:Program}{T:Nat}{b:Nat}{live:List Nat}{K:Env -> aA -> Nat -> Prop}{L:List bB}{dst:Option Nat}{e:Env}{H:aA}{nx:Nat}{S:fE}{Q:AQ}{x y z:AC}
theorem acT{ix t:Nat}{w:Bool}{op:AOp}{m s:List Nat}{k:Bool}:wv P b live K (⟨ix,dst,op,some (t,w),m,s,k⟩::L) e H nx S=wvG P b live K ⟨ix,dst,op,none,m,s,k⟩ L w e H nx S (e t):=by
 generalize he:e t=d;by_cases a: ∃x,d= .one (.c (.v (.bool x)));·obtain⟨x,rfl⟩:=a;rw[Sq he];rfl
 ·by_cases hu:d= .tup [];·subst hu;unfold wv;simp only[avc,pP,DB,he,wvG];rfl
  ·have f:DB (some (t,w)) e=none:=by
    unfold DB;simp only[he]
    split
    ·exact absurd ⟨_,rfl⟩ a
    ·exact absurd rfl hu
    ·rfl
   have g:wvG P b live K ⟨ix,dst,op,none,m,s,k⟩ L w e H nx S d=False:=by
    unfold wvG;split;·exact absurd ⟨_,rfl⟩ a
    ·exact absurd rfl hu
    ·rfl
   rw[g]
   unfold wv
   simp only[avc,pP,f]
def aK(P:Program)(T:Nat):List AC->Env->aA->Nat->AQ->Prop
 | [],e,H,nx,Q=>Q .normal e H nx
 |x::xs,e,H,nx,Q=>AWP P T x e H nx (AQ.then (fun e' H' nx'=>aK P T xs e' H' nx' Q) Q)
variable{zs:List AC}
theorem aK.run(h:aK P T [x] e H nx Q):AWP P T x e H nx Q:=AWP.mono h fun ex e' H' nx' _ a=>by cases ex<;>exact a
theorem aK.nil(h:Q .normal e H nx):aK P T [] e H nx Q:=h
theorem aK.skip(h:aK P T zs e H nx Q):aK P T (.skip::zs) e H nx Q:=AWP.skip h
theorem aK.ret(h:Q .ret e H nx):aK P T (.ret::zs) e H nx Q:=AWP.ret h
theorem aK.exit{id:Nat}(h:Q (.exit id) e H nx):aK P T (.exit id::zs) e H nx Q:=AWP.exit h
theorem aK.seq(h:aK P T (x::y::zs) e H nx Q):aK P T (.seq x y::zs) e H nx Q:=by
 refine AWP.seq fun K b=>AWP.mono h fun ex e' H' nx' _ a=> ?_
 cases ex with
 |normal=>exact b _ _ _ a
 |exit i=>exact a
 |ret=>exact a
theorem aK.reg{ops:List bB}{n:Nat}(h: ∀K:Env->aA->Nat->Prop,(∀e' H' nx',aK P T zs e' H' nx' Q->K e' H' nx')->wv P nx live K ops e H (nx+n) []):aK P T (.region ops n live::zs) e H nx Q:=AWP.region (h _ fun _ _ _ h=>h)
theorem aK.cond{c:aZ}{t:Bool}(hc:c.ev e= .one (.c (.v (.bool t))))(a:t=true->aK P T (x::zs) e H nx Q)(b:t=false->aK P T (y::zs) e H nx Q):aK P T (.cond c x y::zs) e H nx Q:=AWP.cond t hc a b
theorem aK.block{id:Nat}(h: ∀K:Env->aA->Nat->Prop,(∀e' H' nx',aK P T zs e' H' nx' Q->K e' H' nx')->aK P T [x] e H nx (AQ.blk id K Q)):aK P T (.block id x::zs) e H nx Q:=by
 refine AWP.block fun K b=>AWP.mono (h K fun e' H' nx' h=>b e' H' nx' h).run fun ex e' H' nx' _ a=> ?_
 cases ex with
 |normal=>exact a
 |exit i=>
  simp only[AQ.blk] at a ⊢;split;·rename_i hi;rw[if_pos hi] at a;exact a
  ·rename_i hi;rw[if_neg hi] at a;exact a
 |ret=>exact a
theorem aK.cut(R:Env->aA->Nat->Prop)(b:aK P T [x] e H nx (AQ.then R Q))(c: ∀e' H' nx',nx<=nx'->R e' H' nx'->aK P T zs e' H' nx' Q):aK P T (x::zs) e H nx Q:=
 AWP.mono b.run fun ex e' H' nx' hle a=>by
  cases ex with
  |normal=>exact c e' H' nx' hle a
  |exit i=>exact a
  |ret=>exact a
theorem aK.conv{nh:Nat}{e':Env}{H':aA}{F:Nat->Prop}{σ:Nat->Nat}(a:Cv nx e H nh e' H' F σ)(h:aK P T (x::zs) e' H' nh Q):aK P T (x::zs) e H nx Q:=AWP.conv (ac1 nx) (.inl rfl) a h
theorem aK.oB(n:Nat)(h:aK P T (x::zs) e (H.set nx ⟨n,0,[]⟩) (nx+1) Q):aK P T (x::zs) e H nx Q:=AWP.oB n h
theorem aK.loop{α:Type}(E:α->Env)(G:α->aA)(nh:Nat)(μ:α->Nat)(a:α)(d: ∃F σ,Cv nx e H nh (E a) (G a) F σ)
 (h: ∀u,∀K:Env->aA->Nat->Prop,(∀e' H' nx' b,nh<=nx'->μ b<μ u->(∃F σ,Cv nx e' H' nh (E b) (G b) F σ)->K e' H' nx')->aK P T [x] (E u) (G u) nh (AQ.then K Q)):aK P T (.loop x::zs) e H nx Q:=
 AWP.loop E G nh μ a d fun u K f=>AWP.mono (h u K f).run fun ex e' H' nx' _ c=>by
  cases ex with
  |normal=>exact c
  |exit i=>exact c
  |ret=>exact c
theorem aC.body{f:FuncId}{fn:Func}{ac:AC}{rs:List aX}{cs:List Cert}{args:List D}{c:D->aA->Nat->Prop}
 (g:P.funcs[f]?=some fn) (b:vX P f=true) (hc:aS P fn cs=some (ac,rs)) (hl:args.length<=fn.ntmps)
 (h: ∀Q:AQ,(∀ex e' H' nx' d nh e a F σ,ex= .normal\/ex= .ret->nP H' e' rs=some d->CvR nx d H' nh e a F σ->c e a nh->Q ex e' H' nx')->aK P fn.ntmps [ac] (Env.args 0 args) H nx Q):aC P f args H nx c:=
 aC.enter g b hc hl fun Q i=>(h Q i).run
theorem aA.set_set{H:aA}{i:Nat}{x y:bN}:(H.set i x).set i y=H.set i y:=by funext j;simp only[aA.set];split<;>rfl
theorem Fx{v:Value}:Bc (some v)=some (.one (.c (.v v))):=rfl
theorem Ct:Bc none=none:=rfl
theorem Jk{c:Prop}[Decidable c]{x:Option Value}:Bc (if c then none else x)=if c then none else Bc x:=by split<;>rfl
theorem Xb{op:BinOp}{u v:Value}:Wx op (.one (.c (.v u))) (.one (.c (.v v)))=Bc (gg op u v):=by simp only[Wx];cases gg op u v<;>rfl
end
attribute [go_sem] Yq acJ acO Sn Su Mc Uy Te Sj Wm Ok Og Pu Vh Oc Xg Nz Ua Jb Ca Eb Eg xo Dm Jf Ng Ch Je Qs Cq Nl Mf Ks Kh Nq At Bm Jn Cp AOp.kind exists_eq' Kind.q.injEq Env.EY Env.put Env.args Env.set aZ.ev AQ.then AQ.blk ofV reduceIte Nat.reduceEqDiff Nat.reduceAdd Yz Qa Zm aaF Si Xb acG unD Rt Ym aa1 Zn ab2 aaI Dk Iy Rb Ax vn ldO Vd zh stO Vl Of Ow ac9 forall_exists_index and_imp forall_apply_eq_imp_iff₂ implies_true aA.set_set aA.set aA.nil aA.del mkV Option.bind_some Option.bind_none Option.map_some Option.map_none List.getElem?_cons_zero List.getElem?_cons_succ List.length_cons List.length_nil List.take_succ_cons List.take_zero List.drop_succ_cons ad6 List.take_nil List.drop_nil List.nil_append List.cons_append adR adG adQ List.set_cons_zero List.set_cons_succ adE Nat.reduceLeDiff aeR Nat.add_zero ac1 true_and and_true Fx Ct Jk gg pD TN kD Q0 UM lq DV.cells Fi An chunk List.replicate_succ List.replicate_zero List.flatten_cons List.flatten_nil aeV beq_self_eq_true
theorem oo{P:Program}{b:Nat}{live:List Nat}{K:Env->aA->Nat->Prop}{L:List bB}{dst:Option Nat}{e:Env}{H:aA}{nx:Nat}{S:fE}{ix:Nat}{k:XK}{xs:List aZ}{m s:List Nat}{a:Bool}(c:k.kind= .l):
 wv P b live K (⟨ix,dst,.xop k xs,none,m,s,a⟩::L) e H nx S=xl P (b+ix) (msk b m H) nx (JG P b live K L dst m s e H S) k (xs.map (·.ev e)):=by
 unfold wv
 simp only[avc,pP,DB,aop,AOp.kind,c,PT]
 rfl
def xlC(H:aA)(nx:Nat)(R:D->aA->Nat->Prop):Option (Nat×bN×Nat)->Prop
 |some (i,a,k)=>R (.one (.c (.v (.int .i64 k)))) (H.set i a) nx
 |none=>False
def xlZ(H:aA)(nx:Nat)(R:D->aA->Nat->Prop):Option (Nat×bN)->Prop
 |some (i,a)=>R (.tup []) (H.set i a) nx
 |none=>False
def xlA(n id:Nat)(H:aA)(nx:Nat)(R:D->aA->Nat->Prop):Option (Nat×List (List D1))->Prop
 |some (a,rows)=>∀cap,a<=cap->R (.one (.c (.osl n id 0 a cap))) (H.set id ⟨n,cap,rows⟩) nx
 |none=>False
section
variable{P:Program}{id:Nat}{H:aA}{nx:Nat}{R:D -> aA -> Nat -> Prop}
theorem Zr{neg:Bool}{rows:List (List D1)}:xl P id H nx R (.uX neg) [.one (.c (.isl rows))]=if rows.length=0 then ∀b,R (bD b) H nx else R (bD neg) H nx:=rfl
variable{n:Nat}
theorem aa6{neg:Bool}{i off len cap:Nat}:xl P id H nx R (.uX neg) [.one (.c (.osl n i off len cap))]=if cap=0 then ∀b,R (bD b) H nx else R (bD neg) H nx:=rfl
theorem Vo{d s:D}:xl P id H nx R (.copy n) [d,s]=xlC H nx R (uy H n d s):=by simp only[xl];cases uy H n d s<;>rfl
theorem Rr{z:List D1}{d:D}:xl P id H nx R (.clear n z) [d]=xlZ H nx R (WM H n z d):=by simp only[xl];cases WM H n z d<;>rfl
theorem Wa{z:List D1}{d k:D}:xl P id H nx R (.gn n z) [d,k]=xlA n id H nx R (sw H n z d k):=by simp only[xl];cases sw H n z d k<;>rfl
theorem Zb{f:FuncId}{a:List D}:xl P id H nx R (.bq f) a=Vf P f a H nx R:=rfl
theorem Sw{i k:Nat}{a:bN}:xlC H nx R (some (i,a,k))=R (.one (.c (.v (.int .i64 k)))) (H.set i a) nx:=rfl
theorem Uk{c:Prop}[Decidable c]{x:Option (Nat×bN×Nat)}:xlC H nx R (if c then x else none)=(c/\xlC H nx R x):=by split<;>rename_i h<;>simp[h,xlC]
theorem Ob{i:Nat}{a:bN}:xlZ H nx R (some (i,a))=R (.tup []) (H.set i a) nx:=rfl
theorem Uw{c:Prop}[Decidable c]{x:Option (Nat×bN)}:xlZ H nx R (if c then x else none)=(c/\xlZ H nx R x):=by split<;>rename_i h<;>simp[h,xlZ]
theorem Nw{a:Nat}{rows:List (List D1)}:xlA n id H nx R (some (a,rows))= ∀cap,a<=cap->R (.one (.c (.osl n id 0 a cap))) (H.set id ⟨n,cap,rows⟩) nx:=rfl
theorem Wi{c:Prop}[Decidable c]{x:Option (Nat×List (List D1))}:xlA n id H nx R (if c then x else none)=(c/\xlA n id H nx R x):=by split<;>rename_i h<;>simp[h,xlA]
end
attribute [go_sem] oo XK.kind Zr aa6 Vo Rr Wa Zb Sw Uk Ob Uw Nw Wi Tl uy WM sw Vc sy PA xq bD true_or
theorem Ra{r:List D1}{k:Nat}:ldR (some r) col k=if col+k<=r.length then some ((r.drop col).take k) else none:=rfl
theorem Sa{id:Nat}{o:bN}{r:List D1}{a:List D1}:stR id o (some r) row col a=if col+a.length<=r.length then some (id,⟨o.n,o.ext,o.rows.set row (kD r col a)⟩) else none:=rfl
attribute [go_sem] Ra Sa Int.toNat_natCast
def noF:Nat->Prop:=fun _=>False
section
variable{H G:aA}{F:Nat -> Prop}{σ:Nat -> Nat}{nx nh:Nat}{e e':Env}
theorem bE{d:D1}(h:d.eW=true):Cv1 H F σ nh d d:=.frz (.same d h)
theorem Uv{n id a off len cap:Nat}(h:a<nh)(hs:σ a=id):Cv1 H F σ nh (.osl n a off len cap) (.osl n id off len cap):=by subst hs;exact .osl n a off len cap h
theorem xt{n id a row col:Nat}(h:a<nh)(hs:σ a=id):Cv1 H F σ nh (.ptr n a row col) (.ptr n id row col):=by subst hs;exact .ptr n a row col h
theorem zm{id a:Nat}(h:a<nh)(hs:σ a=id):Cv1 H F σ nh (.omap a) (.omap id):=by subst hs;exact .omap a h
theorem Uo{n id b off a n':Nat}:Cv1 H F σ nh (.osl n id off 0 0) (.osl n' b a 0 0):=.GO n id b off a n'
theorem cG:CvL H F σ nh [] []:=⟨rfl,fun i x y h=>by simp at h⟩
theorem aH{x y:D1}{xs ys:List D1}(f:Cv1 H F σ nh x y)(e:CvL H F σ nh xs ys):CvL H F σ nh (x::xs) (y::ys):=by
 refine⟨by simp[e.1],fun i a b c d=> ?_⟩
 match i with
 |0=>simp at c d;subst c;subst d;exact f
 |i+1=>exact e.2 i a b (by simpa using c) (by simpa using d)
theorem xV{xs:List D1}(h: ∀x∈xs,x.eW=true):CvL H F σ nh xs xs:=by refine⟨rfl,fun i a b c d=> ?_⟩;rw[c] at d;cases d;exact bE (h a (adI c))
theorem cP{o:bN}(h: ∀r∈o.rows,∀x∈r,x.eW=true):CvO H F σ nh o o:=⟨rfl,rfl,ac1 _,fun _ h=>h,fun i r hr=>⟨r,hr,xV (h r (adI hr))⟩⟩
theorem aW{n m:Nat}{r r':List D1}(h:CvL H F σ nh r' r):CvO H F σ nh ⟨n,m,[r']⟩ ⟨n,m,[r]⟩:=by
 refine⟨rfl,rfl,ac1 _,fun _ h=>(by cases h),fun i a b=> ?_⟩
 match i with
 |0=>simp at b;subst b;exact⟨r,rfl,h⟩
 |i+1=>simp at b
theorem YW:CvH H F σ nh .nil:=⟨fun id o h=>(by cases h),fun i j o o' h=>(by cases h)⟩
theorem Uf{t:Nat}{d:D}(h:CvE H F σ nh e' e)(a:CvD H F σ nh d (e t)):CvE H F σ nh (e'.set t d) e:=by
 intro u;simp only[Env.set];split;·rename_i hu;subst hu;exact a
 ·exact h u
theorem sn{x y:D1}(h:Cv1 H F σ nh x y):CvD H F σ nh (.one (.c x)) (.one (.c y)):=h
theorem oH{xs ys:List D1}(h:CvL H F σ nh xs ys):CvD H F σ nh (.one (.agg xs)) (.one (.agg ys)):=h
theorem ua{d:D}(h:CvD H noF id nx d d):CvR nx d H nx d .nil noF id:=⟨ac1 _,fun _ _=>rfl,h,YW⟩
theorem Mk{d:D}(h:d.plain=true):CvD H F σ nh d d:=by
 have e: ∀x:DV,x.cells.all D1.plain=true->CvV H F σ nh x x:=by
  intro x k;have f: ∀y∈x.cells,y.eW=true:=fun y l=>by have:=adK.1 k y l;cases y<;>simp_all [D1.plain,D1.eW]
  cases x with
  |c y=>exact bE (f y (by simp[DV.cells]))
  |agg ys=>exact xV f
 cases d with
 |one x=>exact e x (by cases x<;>simpa [D.plain,DV.cells] using h)
 |tup xs=>refine⟨rfl,fun i a b g j=> ?_⟩;rw[g] at j;cases j;simp only[D.plain,adK] at h;exact e a (adK.2 (h a (adI g)))
 |dead=>trivial
theorem aQ{Q:AQ}{rs:List aX}{R:D->Prop}(e: ∀ex b H2 a d nh d2 f F σ,ex=AEx.normal\/ex=AEx.ret->nP H2 b rs=some d->CvR nx d H2 nh d2 f F σ->(d2.plain=true/\R d2)->Q ex b H2 a)
 {b:Env} {H2:aA} {a:Nat} (d:D) (g:nP H2 b rs=some d) (c:d.plain=true) (h:R d):Q .ret b H2 a:=
 e _ _ _ _ d nx d .nil noF id (.inr rfl) g (ua (Mk c)) ⟨c,h⟩
end
end Go.AM
