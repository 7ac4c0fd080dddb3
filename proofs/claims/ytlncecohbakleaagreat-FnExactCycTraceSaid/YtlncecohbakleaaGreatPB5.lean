/- Texts laid together by a program: rules, contracts and the walk that leads to the law. -/
import Derived.Test.YtlncecohbakleaaGreatPB3
set_option linter.unusedVariables false
set_option linter.unusedSimpArgs false
set_option linter.unusedSectionVars false
set_option maxRecDepth 100000
set_option maxHeartbeats 8000000
namespace Go.AM
open Go.RowKit
def D1.free:D1->Bool
 | .v _| .osl .. | .ptr .. | .dead=>true
 | .isl rows=>rows.isEmpty
 |_=>false
def D.free:D->Bool
 | .one x=>x.cells.all D1.free
 | .tup xs=>xs.all fun x=>x.cells.all D1.free
 | .dead=>true
def aiS(H:aA):Prop:=∀i o,H i=some o->∀r∈o.rows,∀d∈r,d.free=true
section
variable{P:Program}{H:aA}
theorem Zc{c2 g:Cf}{t:Nat->Nat}(j: ∀i,c2.N i->g.N (t i))(c: ∀i,c2.N i->g.ρ (t i)=c2.ρ i){d:D1}(k:d.free=true){x:Value}(h:Rel c2 d x):Rel g (rn1 t d) x:=by
 cases d<;>simp only[D1.free,alW] at k
 case v y=>
  simp only[Rel,cG] at h;simp only[rn1,rn0,Rel,cG]
  cases h with
  |v _ h=>exact .v _ h
 case isl rows=>
  have hr:rows=[]:=List.isEmpty_iff.1 k;subst hr;simp only[Rel,cG] at h;simp only[rn1,rn0,Rel,cG]
  cases h with
  |isl _ a cap n b o f r e s hc hr=>exact .isl [] a cap 0 0 0 (fun _ _=>undef) (by simp) e (by simp) (by simp) (by simp)
 case osl n id off len cap=>simp only[Rel,cG] at h;simp only[rn1,rn0,Rel,cG];exact⟨h.1,h.2.imp (fun h=>h) fun⟨m,l,p⟩=>⟨m,j _ l,by rw[c _ l];exact p⟩⟩
 case ptr n id row q=>simp only[Rel,cG] at h;simp only[rn1,rn0,Rel,cG];exact⟨j _ h.1,by rw[c _ h.1];exact h.2⟩
 case dead=>simp only[Rel,cG] at h;simp only[rn1,rn0,Rel,cG];exact h
theorem aeZ{c2 e:Cf}{t:Nat->Nat}(f: ∀i,c2.N i->e.N (t i))(a: ∀i,c2.N i->e.ρ (t i)=c2.ρ i){d:DV}(g:d.cells.all D1.free=true){x:Value}(h:mR c2 d x):mR e (rnV t d) x:=by
 cases d with
 |c d=>exact Zc f a (by simpa [DV.cells] using g) h
 |agg n=>obtain⟨vs,k,hl,l⟩:=h;refine⟨vs,k,by simp[hl],fun i d u b m=> ?_⟩;simp only[akN,akH] at b;obtain⟨j,b,rfl⟩:=b;exact Zc f a (akR.1 g j (akF b)) (l i j u b m)
theorem aiO{c2 c:Cf}{t:Nat->Nat}(e: ∀i,c2.N i->c.N (t i))(a: ∀i,c2.N i->c.ρ (t i)=c2.ρ i){d:D}(f:d.free=true){x:Value}(h:fW c2 d x):fW c (rnD t d) x:=by
 cases d with
 |one d=>exact aeZ e a f h
 |dead=>trivial
 |tup m=>obtain⟨vs,j,hl,k⟩:=h;refine⟨vs,j,by simp[hl],fun i d u b l=> ?_⟩;simp only[akN,akH] at b;obtain⟨g,b,rfl⟩:=b;exact aeZ e a (akR.1 f g (akF b)) (k i g u b l)
theorem aC.forget{f:FuncId}{args:List D}{K:an4}(h:aC P f args .nil 0 fun r H' _=>∃a,CvD H' (fun _=>True) id 0 a r/\K a .nil 0):aC P f args .nil 0 K:=by refine⟨h.1,fun c vs hs d hl hr=> ?_⟩;refine(h.2 c vs hs d hl hr).mono ?_;rintro x u ⟨v,c2,r,H2,w,rfl,rfl,e,m,y,z,n,a,p,q⟩;obtain⟨s,t⟩:=wj (nx:=0) (nh:=0) (σ:=id) (F:=fun _=>True) (H':=.nil) e m d (akA 0) (fun i hi=>rfl) ⟨fun id o h=>(by cases h),fun i j o o' h=>(by cases h)⟩;refine⟨v,c2.conv 0 0 id (c2.frI H2 fun _=>True),a,.nil,0,rfl,rfl,s,t,fun i hi=> ?_,akA _,DL e (fun b h=>.inl h) (fun id o g k l=>.inr ⟨id,o,g,k,l,rfl⟩) (fun _ _=>rfl) p n,q⟩;rcases hi with⟨_,hi⟩|⟨g,k,l⟩<;>omega
theorem aC.aj9{f:FuncId}{args0 args:List D}{nx:Nat}{K:an4}{R:an4}(h:aC P f args0 .nil 0 fun r H' n'=>(r.free=true/\aiS H')/\R r H' n')(hlen:args.length=args0.length)
 (Z: ∀(i:Nat) (d0 d:D),args0[i]?=some d0->args[i]?=some d->CvD H (fun _=>True) id 0 d0 d) (hK: ∀r H' n',R r H' n'->K (rnD (fun i=>nx+i) r) (back (fun i=>nx+i) H' n' H) (nx+n')):aC P f args H nx K:=by
 refine⟨h.1,fun c vs hs hN hl hr=> ?_⟩
 have aa:Step {c with N:=fun _=>False} H c H:={
  ρ:=fun id h=>h.elim
  N:=fun id h=>h.elim
  I:=fun b h=>h
  I':=fun b h=>.inl h
  size:=akA _
  os:=rfl
  tape:=rfl
  output:=rfl
  frame:=fun _ _ _=>rfl
  own:=fun b h=>.inl h}
 have ad:=(wj (nx:=0) (nh:=0) (σ:=id) (F:=fun _=>True) (H':=.nil) hs aa (fun _ h=>h.elim) (akA 0) (fun i hi=>rfl) ⟨fun id o h=>(by cases h),fun i j o o' h=>(by cases h)⟩).1
 obtain⟨c1,B⟩: ∃c1,c1=c.conv 0 0 id (c.frI H fun _=>True):=⟨_,rfl⟩
 rw[<-B] at ad
 have Q:c1.w=c.w:=by rw[B];rfl
 have e2: ∀b,c.I b->c1.I b:=fun b z=>by rw[B];exact .inl z
 have e4: ∀i,¬c1.N i:=fun i hi=>by rw[B] at hi;rcases hi with⟨h,_⟩|⟨_,p,_⟩<;>omega
 have C:=h.2 c1 vs ad (fun i hi=>(e4 i hi).elim) (by rw[hl,hlen]) (fun i d0 v p e=>by
  have hi:i<args.length:=by rw[hlen];exact(akE.1 p).1
  have:=DL (nx:=0) hs (I':=c.frI H fun _=>True) (fun b h=>.inl h) (fun id o p e m=>.inr ⟨id,o,p,e,m,rfl⟩) (fun i hi=>rfl) (Z i d0 _ p (akD hi)) (hr i _ v (akD hi) e)
  rw[B];exact this)
 rw[Q] at C
 apply C.mono
 rintro x w' ⟨v,c2,r,H2,Y,rfl,rfl,A,p2,p3,p4,p5,⟨p6,p7⟩,p8⟩
 have ao: ∀b,¬AT c1 .nil b:=by rintro b ⟨id,o,h,_⟩;cases h
 have E: ∀b,b<c.w.heap.size->c2.w.heap[b]?=c.w.heap[b]?:=fun b z=>by rw[<-Q];exact p2.frame b (by rw[Q];exact z) (ao b)
 have s: ∀i o,H2 i=some o->0<o.ext->c.w.heap.size<=(c2.ρ i).1:=fun i o p e=>by
  rcases p2.own _ ⟨i,o,p,e,rfl⟩ with h|h;·exact(ao _ h).elim
  ·rw[<-Q];exact h
 obtain⟨t,ht⟩: ∃t:Nat->Nat,t=fun i=>nx+i:=⟨_,rfl⟩
 have S: ∀i,t i=nx+i:=fun i=>by rw[ht]
 have br: ∀i,c2.N i->i<Y:=fun i hi=>(p3 i hi).elim (fun h=>(e4 i h).elim) fun h=>h.2
 obtain⟨M,G⟩: ∃M:Cf,M= {ρ:=fun j=>if j<nx then c.ρ j else c2.ρ (j-nx),N:=fun j=>c.N j\/(nx<=j/\c2.N (j-nx)),I:=c.I,w:=c2.w}:=⟨_,rfl⟩
 have J:M.w=c2.w:=by rw[G]
 have q2:M.I=c.I:=by rw[G]
 have T: ∀j,j<nx->M.ρ j=c.ρ j:=fun j hj=>by rw[G];simp only;rw[if_pos hj]
 have q4: ∀j,M.N j↔c.N j\/(nx<=j/\c2.N (j-nx)):=fun j=>by rw[G]
 have q5: ∀i,c2.N i->M.N (t i):=fun i hi=>by rw[q4,S];exact .inr ⟨by omega,by rw[anV];exact hi⟩
 have O: ∀i,c2.N i->M.ρ (t i)=c2.ρ i:=fun i hi=>by rw[G,S];simp only;rw[if_neg (by omega),anV]
 have y: ∀j o,H j=some o->0<o.ext->(c.ρ j).1<c.w.heap.size:=fun j o n he=>(hs.blk j o n he).lt
 have q: ∀j o,H j=some o->j<nx:=fun j o n=>hN j (hs.named j o n)
 have hB: ∀j o,back t H2 Y H j=some o->(∃i g,i<Y/\t i=j/\H2 i=some g/\o=g.rn t)\/H j=some o:=by
  intro j o n;rcases MZ t H2 H Y j (fun a b _ _ ca=>by rw[S,S] at ca;omega) with⟨i,p,e,m⟩|⟨p,e⟩
  ·rw[m] at n;simp only[akH] at n;obtain⟨g,h4,rfl⟩:=n;exact .inl ⟨i,g,p,e,h4,rfl⟩
  ·rw[e] at n;exact .inr n
 have L:Step c H M (back t H2 Y H):={
  ρ:=fun j hj=>T j (hN j hj)
  N:=fun j hj=>(q4 j).2 (.inl hj)
  I:=fun b z=>by rw[q2];exact z
  I':=fun b z=>by rw[q2] at z;exact .inl z
  size:=by rw[J,<-Q];exact p2.size
  os:=by rw[J,<-Q];exact p2.os
  tape:=by rw[J,<-Q];exact p2.tape
  output:=by rw[J,<-Q];exact p2.output
  frame:=fun b z _=>by rw[J];exact E b z
  own:=by
   rintro b ⟨j,o,k1,k2,rfl⟩;rcases hB j o k1 with⟨i,g,p,rfl,m,rfl⟩|e;·rw[O i (A.named i g m)];exact .inr (s i g m k2)
   ·exact .inl ⟨j,o,e,k2,by rw[T j (q j o e)]⟩}
 refine⟨v,M,rnD t r,back t H2 Y H,nx+Y,rfl,J,?_,L,?_,by omega,aiO q5 O p6 p5,by rw[ht];exact hK r H2 Y p8⟩
 ·refine {named:= ?_,wf:= ?_,blk:= ?_,cells:= ?_,sep:= ?_,imm:= ?_,old:= ?_}
  ·intro j o n;rcases hB j o n with⟨i,g,p,rfl,m,rfl⟩|e;·exact q5 i (A.named i g m)
   ·exact(q4 j).2 (.inl (hs.named j o e))
  ·intro j o n;rcases hB j o n with⟨i,g,p,rfl,m,rfl⟩|e;·obtain⟨k1,k2⟩:=A.wf i g m;refine⟨by simpa [bQ.rn] using k1,fun i r hr=> ?_⟩;simp only[bQ.rn,akN,akH] at hr;obtain⟨r0,hr,rfl⟩:=hr;simpa [bQ.rn] using k2 i r0 hr
   ·exact hs.wf j o e
  ·intro j o n he;rcases hB j o n with⟨i,g,p,rfl,m,rfl⟩|e;·rw[O i (A.named i g m),J];exact(A.blk i g m he).ab8 rfl rfl fun _=>by simp[bQ.rn]
   ·have:=hs.blk j o e he;rw[<-E _ (y j o e he),<-T j (q j o e),<-J] at this;exact this
  ·intro j o k l r d n hr hd;rcases hB j o n with⟨i,g,p,rfl,m,rfl⟩|e;·simp only[bQ.rn,akN,akH] at hr;obtain⟨r0,hr,rfl⟩:=hr;simp only[akN,akH] at hd;obtain⟨d0,hd,rfl⟩:=hd;obtain⟨u,h5,h6⟩:=A.cells i g k l r0 d0 m hr hd;refine⟨u,?_,Zc q5 O (p7 i g m r0 (akF hr) d0 (akF hd)) h6⟩;rw[O i (A.named i g m),J];exact h5
   ·obtain⟨u,h5,h6⟩:=hs.cells j o k l r d e hr hd;have ab:0<o.ext:=by have:=(hs.wf j o e).1;have hk:k<o.rows.length:=(akE.1 hr).1;omega
    refine⟨u,?_,h6.step L hs⟩;rw[<-h5,T j (q j o e),J];exact World.cell?_of_block (w:=c.w) (E _ (y j o e ab))
  ·intro j j' o o' n cc he U az;rcases hB j o n with⟨i,g,p,rfl,m,rfl⟩|e<;>rcases hB j' o' cc with⟨i',V,cd,rfl,W,rfl⟩|X;·rw[O i (A.named i g m),O i' (A.named i' V W)];exact A.sep i i' g V m W he U fun h=>az (congrArg t h)
   ·rw[O i (A.named i g m),T j' (q j' o' X)];have a1:=s i g m he;have a2:=y j' o' X U;omega
   ·rw[O i' (A.named i' V W),T j (q j o e)];have a1:=s i' V W U;have a2:=y j o e he;omega
   ·rw[T j (q j o e),T j' (q j' o' X)];exact hs.sep j j' o o' e X he U az
  ·intro j o n he;rw[q2];rcases hB j o n with⟨i,g,p,rfl,m,rfl⟩|e;·rw[O i (A.named i g m)];intro hI;have a1:=s i g m he;have a2:=hs.old _ hI;omega
   ·rw[T j (q j o e)];exact hs.imm j o e he
  ·intro b z;rw[q2] at z;have a1:=hs.old b z;have a2:=p2.size;rw[Q] at a2;rw[J];omega
 ·intro j hj;rcases(q4 j).1 hj with h|⟨p,e⟩
  ·exact .inl h
  ·right;have:=br _ e;exact⟨p,by omega⟩
end
end Go.AM
namespace Go.AM
def FzL(H:aA)(a b:List D1):Prop:=a.length=b.length/\ ∀(i:Nat) (x y:D1),a[i]?=some x->b[i]?=some y->Frz H (fun _=>True) x y
theorem KA{H:aA}:FzL H [] []:=⟨rfl,fun i x y h=>by simp at h⟩
theorem cM{H:aA}{x y:D1}{xs ys:List D1}(h:Frz H (fun _=>True) x y)(e:FzL H xs ys):FzL H (x::xs) (y::ys):=
 ⟨by simp[e.1],fun i a b c d=>by
  cases i with
  |zero=>simp at c d;subst c;subst d;exact h
  |succ i=>exact e.2 i a b (by simpa using c) (by simpa using d)⟩
theorem adR{H:aA}{xs:List D1}(h:xs.all D1.fV=true):FzL H xs xs:=⟨rfl,fun i a b c d=>by rw[c] at d;cases d;exact .same a (akR.1 h a (akF c))⟩
theorem FzL.cvL{H:aA}{xs ys:List D1}{σ:Nat->Nat}{nh:Nat}(h:FzL H xs ys):CvL H (fun _=>True) σ nh xs ys:=⟨h.1,fun i x y a b=>.frz (h.2 i x y a b)⟩
abbrev KP(α:Type):=aA->List D1->α->(Nat->Prop)->Prop
def rng(n:Nat)(f:Nat->List D1):List (List D1):=(List.range n).map f
variable{f:Nat->List D1}
theorem bK{n:Nat}:(rng n f).length=n:=by simp[rng]
theorem fS{n i:Nat}(h:i<n):(rng n f)[i]?=some (f i):=by simp[rng,h]
def LW(f:Nat->List D1)(i:Nat)(r:List D1):Nat->List D1:=fun j=>if j=i then r else f j
theorem aY{i:Nat}{r:List D1}:LW f i r i=r:=if_pos rfl
theorem Gi{i j:Nat}{r:List D1}(h:j≠i):LW f i r j=f j:=if_neg h
theorem aZ{i:Nat}{r r':List D1}:LW (LW f i r) i r'=LW f i r':=by funext j;unfold LW;split<;>rfl
theorem bP{n i:Nat}{r:List D1}:(rng n f).set i r=rng n (LW f i r):=by
 refine amX fun j=> ?_;rw[al5];by_cases b:j<n
 ·rw[fS b,fS b];by_cases a:i=j;·subst a;simp[bK,b,LW]
  ·rw[if_neg a];simp[Ne.symm a,LW]
 ·have e: ∀g,(rng n g)[j]?=none:=fun g=>by rw[alO];rw[bK];omega
  rw[e,e];split;·rename_i h;subst h;simp[bK,b]
  ·rfl
theorem Zz{n:Nat}{g:Nat->List D1}(h: ∀i,i<n->f i=g i):rng n f=rng n g:=by unfold rng;exact alH fun i hi=>h i (alP.1 hi)
structure Au{α:Type}(RowP:KP α)(H:aA)(n id m:Nat)(f:Nat->List D1)(G:Nat->Nat->Prop)(l:List α)(F:Nat->Prop):Prop where
 blk:H id=some ⟨n,m,rng l.length f⟩
 self:F id
 row: ∀i x,l[i]?=some x->RowP H (f i) x (G i)
 sub: ∀i j,i<l.length->G i j->F j/\j≠id
 sep: ∀i i' j,i<l.length->i'<l.length->i'≠i->G i j->¬G i' j
def SlS{α:Type}(n:Nat)(RowP:KP α)(H:aA)(d:D1)(l:List α)(F:Nat->Prop):Prop:=(l=[]/\ ∃a id off,d= .osl a id off 0 0)\/ ∃id m cap,d= .osl n id 0 l.length cap/\0<cap/\l.length<=cap/\cap<=m/\ ∃f G,Au RowP H n id m f G l F
def Frm{α:Type}(RowP:KP α):Prop:=∀(H H':aA) (r:List D1) (x:α) (F:Nat->Prop),RowP H r x F->(∀j,F j->H' j=H j)->RowP H' r x F
def Fzb{α:Type}(n:Nat)(e:α->List D1)(RowP:KP α):Prop:=∀(H:aA) (r:List D1) (x:α) (F:Nat->Prop),RowP H r x F->(e x).length=n/\FzL H (e x) r
section
variable{α:Type}{RowP:KP α}{H H':aA}{n id m:Nat}{f:Nat -> List D1}{G:Nat -> Nat -> Prop}{l:List α}{F F':Nat -> Prop}{d:D1}
theorem Au.frame(c:Frm RowP)(h:Au RowP H n id m f G l F)(a: ∀j,F j->H' j=H j):Au RowP H' n id m f G l F where
 blk:=(a id h.self).trans h.blk
 self:=h.self
 row i x b:=c _ _ _ _ _ (h.row i x b) fun j d=>a j (h.sub i j (akE.1 b).1 d).1
 sub:=h.sub
 sep:=h.sep
theorem SlS.frame(a:Frm RowP)(h:SlS n RowP H d l F)(b: ∀j,F j->H' j=H j):SlS n RowP H' d l F:=by exact h.imp (fun h=>h) fun⟨id,m,cap,e,c,g,i,f,G,k⟩=>⟨id,m,cap,e,c,g,i,f,G,k.frame a b⟩
theorem SlS.frz{e:α->List D1}(q:Fzb n e RowP)(h:SlS n RowP H d l F):Frz H (fun _=>True) (.isl (l.map e)) d:=by
 rcases h with⟨rfl,u,id,off,rfl⟩|⟨id,m,cap,rfl,v,b,c,f,G,o⟩
 ·exact .nil ..
 ·have hl:(l.map e).length=l.length:=akU _;have a: ∀(i:Nat) (r':List D1),(l.map e)[i]?=some r'->i<l.length/\r'.length=n/\FzL H r' (f i):=fun i r' hr=>by rw[akN,akH] at hr;obtain⟨x,p,rfl⟩:=hr;exact⟨(akE.1 p).1,(q _ _ _ _ (o.row i x p)).1,(q _ _ _ _ (o.row i x p)).2⟩
  have key:=Frz.frz (H:=H) (F:=fun _=>True) (l.map e) n id 0 cap ⟨n,m,rng l.length f⟩ (fun i j=>((f i)[j]?).getD .dead) trivial o.blk rfl (by rw[hl];simp[bK]) (by rw[hl];exact b) (fun i r' hr=>(a i r' hr).2.1)
   (fun i j r' r b c=>by
    obtain⟨s,t,g⟩:=a i r' b
    refine⟨f i,by rw[al4];exact fS s,?_⟩
    have k:j<(f i).length:=g.1▸(akE.1 c).1
    rw[akD k];rfl)
   (fun i j r' r b c=>by
    obtain⟨s,t,g⟩:=a i r' b
    have k:j<(f i).length:=g.1▸(akE.1 c).1
    rw[akD k]
    exact g.2 j r _ c (akD k))
  rw[hl] at key;exact key
def cY(e:α->List D1):KP α:=fun _ r x _=>r=e x
theorem aN{e:α->List D1}:Frm (cY e):=fun _ _ _ _ _ h _=>h
theorem SG{e:α->List D1}(h: ∀x,(e x).length=n/\(e x).all D1.fV=true):Fzb n e (cY e):=fun H r x F hr=>by unfold cY at hr;subst hr;exact⟨(h x).1,adR (h x).2⟩
theorem Zw{e:α->List D1}(b:H id=some ⟨n,m,l.map e⟩)(c:F id)(a:α):Au (cY e) H n id m (fun i=>e (l.getD i a)) (fun _ _=>False) l F where
 blk:=by
  rw[b];congr 2;refine amX fun i=> ?_;by_cases hi:i<l.length;·rw[fS hi,akN,akD hi];simp[List.getD,akD hi]
  ·rw[alO (by rw[akU];omega),alO (by rw[bK];omega)]
 self:=c
 row i x d:=by unfold cY;simp only[List.getD,d,Option.getD_some]
 sub i j _ h:=h.elim
 sep i f j _ _ _ h:=h.elim
end
def uY{α:Type}(sz:α->Nat):List α->Nat->Nat
 | [],_=>0
 |_::_,0=>0
 |x::l,i+1=>sz x+uY sz l i
def marks{α:Type}(sz:α->Nat)(mk:Int->α->α):Int->List α->List α
 |_,[]=>[]
 |k,x::l=>mk k x::marks sz mk (k+sz x) l
def total{α:Type}(sz:α->Nat)(l:List α):Nat:=uY sz l l.length
def mixed{α:Type}(sz:α->Nat)(mk:Int->α->α):Int->Nat->List α->List α
 |_,0,l=>l
 |_,_+1,[]=>[]
 |k,j+1,x::l=>mk k x::mixed sz mk (k+sz x) j l
section
variable{α:Type}{sz:α -> Nat}{mk:Int -> α -> α}
theorem Cd: ∀{l:List α} {k:Int},(marks sz mk k l).length=l.length
 | [],_=>rfl
 |x::l,k=>by simp[marks,Cd]
theorem aO: ∀{l:List α} {k:Int} {j:Nat},(mixed sz mk k j l).length=l.length
 |_,_,0=>rfl
 | [],_,j+1=>rfl
 |x::l,k,j+1=>by simp[mixed,aO]
theorem lW: ∀{l:List α} {k:Int},mixed sz mk k l.length l=marks sz mk k l
 | [],_=>rfl
 |x::l,k=>by simp[mixed,marks,lW]
theorem jT: ∀{l:List α} {i:Nat} {x:α},l[i]?=some x->uY sz l (i+1)=uY sz l i+sz x
 | [],i,x,h=>by simp at h
 |y::l,0,x,h=>by simp at h;subst h;cases l<;>simp[uY]
 |y::l,i+1,x,h=>by simp only[List.getElem?_cons_succ] at h;simp only[uY];rw[jT h];omega
theorem fF: ∀{l:List α} {k:Int} {j:Nat} {x:α},l[j]?=some x->(mixed sz mk k j l)[j]?=some x
 | [],_,j,x,h=>by simp at h
 |y::l,k,0,x,h=>h
 |y::l,k,j+1,x,h=>by simp only[mixed,List.getElem?_cons_succ] at h ⊢;exact fF h
theorem j7: ∀{l:List α} {k:Int} {j:Nat} {x:α},l[j]?=some x->mixed sz mk k (j+1) l=(mixed sz mk k j l).set j (mk (k+uY sz l j) x)
 | [],_,j,x,h=>by simp at h
 |y::l,k,0,x,h=>by simp at h;subst h;simp[mixed,uY]
 |y::l,k,j+1,x,h=>by simp only[List.getElem?_cons_succ] at h;have e:=j7 (k:=k+sz y) h;simp only[mixed,List.set_cons_succ,uY] at e ⊢;rw[e];congr 3;push_cast;omega
theorem Hk[Inhabited α]: ∀{l:List α} {k:Int} {j:Nat} {x:α},l[j]?=some x->(marks sz mk k l).getD j default=mk (k+uY sz l j) x
 | [],_,j,x,h=>by simp at h
 |y::l,k,0,x,h=>by simp at h;subst h;simp[marks,uY,List.getD]
 |y::l,k,j+1,x,h=>by simp only[List.getElem?_cons_succ] at h;have e:=Hk (k:=k+sz y) h;simp only[marks,anE,uY] at e ⊢;rw[e];congr 1;push_cast;omega
theorem Qx: ∀{l:List α} {i:Nat},i<=l.length->uY sz l i<=total sz l
 | [],_,_=>by simp[uY]
 |x::l,0,_=>by simp[uY]
 |x::l,i+1,h=>by have:=Qx (l:=l) (i:=i) (by simpa using h);unfold total at*;simp only[List.length_cons,uY];omega
theorem vW{l:List α}{i:Nat}{x:α}(h:l[i]?=some x):uY sz l i+sz x<=total sz l:=by rw[<-jT h];exact Qx (by have:=(akE.1 h).1;omega)
theorem Yf{l:List α}:uY sz l l.length=total sz l:=rfl
theorem lZ: ∀{l:List α},uY sz l 0=0
 | []=>rfl
 |_::_=>rfl
end
section
variable{α:Type}{RowP:KP α}{H H':aA}{n id m len cap:Nat}{f:Nat -> List D1}{G:Nat -> Nat -> Prop}{l:List α}{F:Nat -> Prop}
theorem SlS.get{a off:Nat}(h:SlS n RowP H (.osl a id off len cap) l F){i:Nat}(hi:i<l.length):(a=n/\off=0)/\ ∃m f G,l.length<=cap/\cap<=m/\0<cap/\Au RowP H n id m f G l F:=by
 rcases h with⟨rfl,_⟩|⟨c,m,b,e,d,g,j,f,G,k⟩
 ·simp at hi
 ·cases e;exact⟨⟨rfl,rfl⟩,m,f,G,g,j,d,k⟩
theorem SlS.put(a:0<cap)(b:l.length<=cap)(c:cap<=m)(hl:len=l.length)(h:Au RowP H n id m f G l F):SlS n RowP H (.osl n id 0 len cap) l F:=
 .inr ⟨id,m,cap,by rw[hl],a,b,c,f,G,h⟩
theorem SlS.form{d:D1}(h:SlS n RowP H d l F): ∃a id off cap,d= .osl a id off l.length cap:=by
 rcases h with⟨rfl,a,id,off,rfl⟩|⟨id,m,cap,rfl,_⟩
 ·exact⟨a,id,off,0,rfl⟩
 ·exact⟨n,id,0,cap,rfl⟩
theorem Au.upd(t:Frm RowP){i:Nat}{x p:α}{r':List D1}(h:Au RowP H n id m f G l F)(u:l[i]?=some x)(v:H' id=some ⟨n,m,rng l.length (LW f i r')⟩)(hr:RowP H' r' p (G i))(w: ∀j,j≠id->F j->¬G i j->H' j=H j):
 Au RowP H' n id m (LW f i r') G (l.set i p) F:=by
 have d:i<l.length:=(akE.1 u).1
 refine⟨by rw[akI];exact v,h.self,fun j y c=> ?_,fun j e a=>h.sub j e (by rw[akI] at a;exact a),fun j e g r s=>h.sep j e g (by rw[akI] at r;exact r) (by rw[akI] at s;exact s)⟩
 rw[al5] at c
 by_cases a:i=j
 ·subst a;rw[if_pos rfl,if_pos d] at c;cases c;rw[aY];exact hr
 ·rw[if_neg a] at c;have b:j<l.length:=(akE.1 c).1;rw[Gi (Ne.symm a)];exact t _ _ _ _ _ (h.row j y c) fun q k=>w q (h.sub j q b k).2 (h.sub j q b k).1 fun o=>h.sep i j q d b (Ne.symm a) o k
end
section
variable{α:Type}{RowP:KP α}{H:aA}{n id len cap nh nx:Nat}{l:List α}{F:Nat -> Prop}{σ:Nat -> Nat}
theorem lS{off:Nat}(h:id<nh\/(len=0/\cap=0)):Cv1 H F _root_.id nh (.osl n id off len cap) (.osl n id off len cap):=by
 rcases h with h|⟨rfl,rfl⟩
 ·exact Py h rfl
 ·exact .Fq ..
theorem fN{a b:Int}(h:a=b):CvD H F σ nh (dI a) (dI b):=by rw[h];exact aD rfl
theorem SlS.IF{a off:Nat}(h:SlS n RowP H (.osl a id off len cap) l F)(c: ∀j,F j->j<nx):id<nx\/(len=0/\cap=0):=by
 rcases h with⟨rfl,a,id,off,e⟩|⟨d,m,b,e,i,k,o,f,G,g⟩
 ·cases e;exact .inr ⟨rfl,rfl⟩
 ·cases e;exact .inl (c _ g.self)
theorem afT{a b:Int}(h:a=b):some (dI a)=some (dI b):=by rw[h]
end
structure UI{α:Type}(RowP:KP α)(H:aA)(n id m:Nat)(Z:Nat->List D1)(f:Nat->List D1)(G:Nat->Nat->Prop)(l:List α)(u lo hi:Nat):Prop where
 blk:H id=some ⟨n,m,rng l.length f⟩
 row: ∀i x,i<u->l[i]?=some x->RowP H (f i) x (G i)
 zero: ∀i,u<=i->f i=Z i
 sub: ∀i j,i<u->G i j->(lo<=j/\j<hi)/\j≠id
 sep: ∀i i' j,i<u->i'<u->i'≠i->G i j->¬G i' j
section
variable{α:Type}{RowP:KP α}{H H':aA}{n id m:Nat}{Z:Nat -> List D1}{f:Nat -> List D1}{G:Nat -> Nat -> Prop}{l:List α}{u lo hi hi':Nat}
theorem CE{k:Nat}{z:List D1}:rng k (fun _=>z)=List.replicate k z:=by
 refine amX fun i=> ?_;by_cases hi:i<k;·rw[fS hi,am8,if_pos hi]
 ·rw[alO (by rw[bK];omega),alO (by rw[anT];omega)]
theorem uK(h:H id=some ⟨n,m,rng l.length Z⟩):UI RowP H n id m Z Z (fun _ _=>False) l 0 lo hi:=⟨h,fun i x hi=>by omega,fun _ _=>rfl,fun i j hi=>by omega,fun i a j hi=>by omega⟩
theorem UI.step(p:Frm RowP)(h:UI RowP H n id m Z f G l u lo hi){x:α}{r:List D1}{G':Nat->Prop}(q:l[u]?=some x)(s:H' id=some ⟨n,m,rng l.length (LW f u r)⟩)(hr:RowP H' r x G')(k: ∀j,G' j->hi<=j/\j<hi')(t:id<hi)(v:lo<=hi)(C:hi<=hi')(w: ∀j,j<hi->j≠id->H' j=H j):
 UI RowP H' n id m Z (LW f u r) (fun i=>if i=u then G' else G i) l (u+1) lo hi':=by
 refine⟨s,fun i y hi o=> ?_,fun i hi=>by rw[Gi (by omega)];exact h.zero i (by omega),fun i j hi c=> ?_,fun i g j D E z e d=> ?_⟩
 ·by_cases a:i=u;·subst a;rw[q] at o;cases o;rw[aY];simp only[if_true];exact hr
  ·rw[Gi a];simp only[if_neg a];exact p _ _ _ _ _ (h.row i y (by omega) o) fun j c=>w j (h.sub i j (by omega) c).1.2 (h.sub i j (by omega) c).2
 ·by_cases a:i=u;·simp only[if_pos a] at c;have:=k j c;exact⟨⟨by omega,by omega⟩,by omega⟩
  ·simp only[if_neg a] at c;have:=h.sub i j (by omega) c;exact⟨⟨by omega,by omega⟩,this.2⟩
 ·by_cases a:i=u
  ·simp only[if_pos a] at e;by_cases b:g=u;·omega
   ·simp only[if_neg b] at d;have A:=k j e;have B:=h.sub g j (by omega) d;omega
  ·simp only[if_neg a] at e;by_cases b:g=u;·simp only[if_pos b] at d;have A:=k j d;have B:=h.sub i j (by omega) e;omega
   ·simp only[if_neg b] at d;exact h.sep i g j (by omega) (by omega) z e d
theorem UI.done{cap:Nat}(h:UI RowP H n id m Z f G l l.length lo hi)(d:lo<=id)(e:id<hi)(hc:l.length<=cap)(hm:cap<=m)(g:l=[]->cap=0):SlS n RowP H (.osl n id 0 l.length cap) l fun j=>lo<=j/\j<hi:=by
 by_cases hl:l=[]
 ·refine .inl ⟨hl,n,id,0,?_⟩;rw[g hl,hl];rfl
 ·have hp:0<l.length:=anA.2 hl;refine .inr ⟨id,m,cap,rfl,by omega,hc,hm,f,G,h.blk,⟨d,e⟩,fun i x c=>h.row i x (akE.1 c).1 c,fun i j hi k=>h.sub i j hi k,fun i o j a b=>h.sep i o j a b⟩
end
section
variable{α:Type}{RowP:KP α}{H:aA}{n:Nat}{l:List α}{F:Nat -> Prop}{d:D1}
end
theorem CO{H:aA}{e:Env}{t n id m:Nat}{cs:List D1}(he:e t= .one (.c (.ptr n id 0 0)))(a:H id=some ⟨n,m,[cs]⟩)(hl:cs.length=n):AJ H e [.cell t n true]=some (dA cs):=by subst hl;simp[AJ,nz,he,vS,a,mkV]
end Go.AM
namespace Go.Proofs.YtlncecohbakleaaGreat
open Go Go.AM
def lH:AC:= (SR [RO 1 0,RV 2 kF] [1] (SR [RF 3 1 1,RL 4 3,RB 5 .eql 4 (ki 2),RM 6 5,GF 7 1 1 6 false,GL 8 7 6 false,GB 9 .eql 8 (ki 4) 6 false,RP 10 6 kT 9,RM 2 10] [2] .ret))
def AU:List aR:=[.tm 2]
theorem PW:aK an2 Tryz.f299 (aV lH)=some (lH,AU):=by kernel_rfl
def mK:AC:= (SR [RO 1 0,RV 2 (.kv (.slice none 0 0))] [1] (SR [RF 3 2 1,RL 4 3,RF 5 3 1,RL 6 5,RF 7 4 1,RL 8 7,RC 9 EO [4,6,8],RM 2 9] [2] .ret))
def DT:List aR:=[.tm 2]
theorem QB:aK an2 Tryz.f300 (aV mK)=some (mK,DT):=by kernel_rfl
def JR:AC:= (SR [RV 6 (ki 0)] [0,1,2] (SR [RM 8 2,RB 9 .and 8 (ki 1),RB 10 .mul 9 (ki 255),RM 11 2,RB 12 .shr 11 (.kv (.int .u64 1)),RB 13 .mul 12 (ki 65280),RB 14 .or 10 13,RM 7 14] [0,1,7] (SR [RM 15 0,RM 16 7,RB 17 .andNot 15 16,RM 18 1,RM 19 7,RB 20 .and 18 19,RB 21 .or 17 20,RM 6 21] [6] .ret)))
def lg:List aR:=[.tm 6]
theorem Hi:aK an2 Tryz.f301 (aV JR)=some (JR,lg):=by kernel_rfl
def gS:AC:= (SR [RV 4 kF] [0,1] (SR [RM 5 0,RM 6 1,RC 7 nR [5,6],RB 8 .geq 7 (ki 0),RM 4 8] [4] .ret))
def qM:List aR:=[.tm 4]
theorem GC:aK an2 Tryz.f302 (aV gS)=some (gS,qM):=by kernel_rfl
def tA:AC:= (SR [RV 2 kF] [0] (SR [RM 3 0,RM 4 0,RB 5 .neq 3 4,RM 2 5] [2] .ret))
def LN:List aR:=[.tm 2]
theorem ks:aK an2 Tryz.f305 (aV tA)=some (tA,LN):=by kernel_rfl
def B6:AC:= (SR [RV 6 kF] [0,1,2] (.seq (SR [RM 7 0,RC 8 bW [7,(ki 0),(ki 63)],RU 9 8,RM 10 9,GM 11 1 10 false,GB 12 .neq 11 (ki 1) 10 false,GM 13 12 10 false,GM 14 1 13 true,GB 15 .neq 14 (ki 2) 13 true,GQ 16 (.pick 13 15 kF) 10 false,GM 17 16 10 false,GM 18 1 17 true,GB 19 .neq 18 (ki 4) 17 true,GQ 20 (.pick 17 19 kF) 10 false,RP 21 10 kT 20] [0,1,2,21] (.cond 21 (SR [RV 6 kF] [6] .ret) .skip)) (SR [RM 22 2,RM 23 22,GM 24 0 23 false,GM 25 1 23 false,GB 26 .add 24 25 23 false,GB 27 .sub 26 (ki 1) 23 false,GB 28 .leq 27 (ki 63) 23 false,RP 29 23 kT 28,RM 6 29] [6] .ret)))
def U7:List aR:=[.tm 6]
theorem zw:aK an2 Tryz.f314 (aV B6)=some (B6,U7):=by kernel_rfl
def zC:AC:= (SR [RV 4 (ki 0)] [0,1] (.seq (SR [RV 5 (ki 0)] [0,1,5] (.block 0 (.loop (.seq (SR [RM 6 5,RM 7 0,RN 8 7,RB 9 .lss 6 8] [0,1,5,9] (.cond 9 .skip (.exit 0))) (.seq (.block 1 (SR [RM 12 1,RM 13 0,RM 14 5,RI 15 4 13 14,RF 16 0 15,RL 17 16,RM 18 0,RM 19 5,RI 20 4 18 19,RF 21 1 20,RL 22 21,RC 23 bW [12,17,22]] [0,1,5,23] (.cond 23 (SR [RM 24 5,RM 4 24] [4] .ret) .skip))) (RG [RM 10 5,RB 11 .add 10 (ki 1),RM 5 11] [0,1,5])))))) (SR [rq 4 (.move (.kv (.int .i64 (-1))))] [4] .ret)))
def QN:List aR:=[.tm 4]
theorem yf:aK an2 Tryz.f315 (aV zC)=some (zC,QN):=by kernel_rfl
def wB:AC:= (SR [rq 3 (.box false 1),RV 4 (ki 0)] [0,3] (SR [RM 5 0,rq 6 (.xop (.JQ BH) [3]),RC 7 cF [5,6],RM 4 7] [4] .ret))
def OW:List aR:=[.tm 4]
theorem oz:aK an2 Tryz.f316 (aV wB)=some (wB,OW):=by kernel_rfl
def fU:AC:= (SR [RV 2 (.kv (.slice none 0 0))] [0] (SR [RM 3 0,RM 4 0,RN 5 4,RM 6 0,RN 7 6,rq 8 (.slc 5 3 none (some 5) (some 7)),RM 2 8] [2] .ret))
def n9:List aR:=[.tm 2]
theorem DQ:aK an2 Tryz.f317 (aV fU)=some (fU,n9):=by kernel_rfl
def fM:AC:= (SR [RV 2 (.kv (.slice none 0 0))] [0] (.seq (SR [RM 3 0,rq 4 (.xop (.yL false) [3])] [0,4] (.cond 4 (SR [RV 2 (.kv (.slice none 0 0))] [2] .ret) .skip)) (SR [rq 5 (.bY 5 0 [VZ,VZ,VZ,VZ,OZ] []),RM 6 0,rq 7 (.append 5 5 6),RM 2 7] [2] .ret)))
def nT:List aR:=[.tm 2]
theorem BR:aK an2 Tryz.f318 (aV fM)=some (fM,nT):=by kernel_rfl
def cL:AC:= (SR [RV 4 kF] [0,1] (SR [RM 5 0,RM 6 1,RC 7 cF [5,6],RB 8 .geq 7 (ki 0),RM 4 8] [4] .ret))
def iF:List aR:=[.tm 4]
theorem pL:aK an2 Tryz.f323 (aV cL)=some (cL,iF):=by kernel_rfl
def vH:AC:= (SR [RO 2 0,RV 3 kF] [1,2] (SR [RF 4 0 2,RL 5 4,RF 6 1 1,RL 7 6,RB 8 .leq 5 7,RM 9 8,GF 10 0 1 9 true,GL 11 10 9 true,GF 12 1 2 9 true,GL 13 12 9 true,GB 14 .leq 11 13 9 true,RP 15 9 14 kF,RM 3 15] [3] .ret))
def O7:List aR:=[.tm 3]
theorem pb:aK an2 Tryz.f324 (aV vH)=some (vH,O7):=by kernel_rfl
def dJ:AC:= (SR [RV 4 (ki 0)] [0,1] (.seq (SR [RM 6 0,RN 7 6,RV 8 (ki 0)] [0,1,7,8] (.block 0 (.loop (SR [RB 9 .lss 8 7] [0,1,7,8,9] (.seq (.cond 9 .skip (.exit 0)) (.seq (.block 1 (SR [RM 10 8,RM 5 10] [0,1,5,7,8] (SR [RM 11 1,RM 12 0,RM 13 5,RI 14 1 12 13,RL 15 14,rq 16 (.D4 11 [15])] [0,1,5,7,8,16] (.cond 16 (SR [RM 17 5,RM 4 17] [4] .ret) .skip)))) (RG [RB 18 .add 8 (ki 1),RM 8 18] [0,1,7,8]))))))) (SR [rq 4 (.move (.kv (.int .i64 (-1))))] [4] .ret)))
def kA:List aR:=[.tm 4]
theorem tY:aK an2 Tryz.f325 (aV dJ)=some (dJ,kA):=by kernel_rfl
def eG:AC:= (SR [RV 4 (ki 0)] [0,1] (.seq (SR [RM 6 0,RN 7 6,RV 8 (ki 0)] [0,1,7,8] (.block 0 (.loop (SR [RB 9 .lss 8 7] [0,1,7,8,9] (.seq (.cond 9 .skip (.exit 0)) (.seq (.block 1 (SR [RM 10 8,RM 5 10] [0,1,5,7,8] (SR [RM 11 1,RM 12 0,RM 13 5,RI 14 7 12 13,RD 15 7 14,rq 16 (.D4 11 [15])] [0,1,5,7,8,16] (.cond 16 (SR [RM 17 5,RM 4 17] [4] .ret) .skip)))) (RG [RB 18 .add 8 (ki 1),RM 8 18] [0,1,7,8]))))))) (SR [rq 4 (.move (.kv (.int .i64 (-1))))] [4] .ret)))
def lA:List aR:=[.tm 4]
theorem wQ:aK an2 Tryz.f326 (aV eG)=some (eG,lA):=by kernel_rfl
def sH:AC:= (SR [RV 2 kF] [0] (SR [RM 3 0,RC 4 cC [3,(.fn yR)],RU 5 4,RM 2 5] [2] .ret))
def LZ:List aR:=[.tm 2]
theorem ib:aK an2 Tryz.f327 (aV sH)=some (sH,LZ):=by kernel_rfl
def wF:AC:= (SR [RV 2 kF] [0] (SR [RM 3 0,RC 4 dR [3,(ki 0),(ki 3)],RU 5 4,RM 2 5] [2] .ret))
def OV:List aR:=[.tm 2]
theorem mz:aK an2 Tryz.f328 (aV wF)=some (wF,OV):=by kernel_rfl
def yW:AC:= (SR [RV 6 (ki 0)] [0,1,2] (.seq (SR [RM 9 0,RC 10 bW [9,(ki 0),(ki 65535)],RU 11 10,RM 12 11,GM 13 1 12 false,GQ 14 (.call bW [13,(ki 0),(ki 65535)]) 12 false,GU 15 14 12 false,RP 16 12 kT 15,RM 17 16,GM 18 2 17 false,GQ 19 (.call bW [18,(ki 0),(ki 3)]) 17 false,GU 20 19 17 false,RP 21 17 kT 20] [0,1,2,21] (.cond 21 (SR [rq 6 (.move (.kv (.int .i64 (-1))))] [6] .ret) .skip)) (SR [RM 22 0,RB 23 .rem 22 (ki 256),RM 7 23] [0,1,2,7] (SR [RM 24 0,RB 25 .quo 24 (ki 256),RM 8 25] [1,2,7,8] (.seq (SR [RM 26 2,RB 27 .rem 26 (ki 2),RB 28 .eql 27 (ki 1)] [1,2,7,8,28] (.cond 28 (RG [RM 29 1,RB 30 .rem 29 (ki 256),RM 7 30] [1,2,7,8]) .skip)) (.seq (SR [RM 31 2,RB 32 .quo 31 (ki 2),RB 33 .eql 32 (ki 1)] [1,7,8,33] (.cond 33 (RG [RM 34 1,RB 35 .quo 34 (ki 256),RM 8 35] [7,8]) .skip)) (SR [RM 36 8,RB 37 .mul 36 (ki 256),RM 38 7,RB 39 .add 37 38,RM 6 39] [6] .ret)))))))
def SB:List aR:=[.tm 6]
theorem ua:aK an2 Tryz.f329 (aV yW)=some (yW,SB):=by kernel_rfl
def rX:AC:= (SR [RV 6 (.kv (.slice none 0 0))] [0,1,2] (.seq (SR [RM 9 0,RM 10 1,RM 11 2,RC 12 FZ [9,10,11],RU 13 12] [0,1,2,13] (.cond 13 (SR [RV 6 (.kv (.slice none 0 0))] [6] .ret) .skip)) (SR [RM 14 1,rq 15 (.iX 1 [VZ] 14 14),RM 7 15] [0,1,2,7] (.seq (SR [RM 16 7,RN 17 16,RV 18 (ki 0)] [0,1,2,7,17,18] (.block 0 (.loop (SR [RB 19 .lss 18 17] [0,1,2,7,17,18,19] (.seq (.cond 19 .skip (.exit 0)) (.seq (.block 1 (SR [RM 20 18,RM 8 20] [0,1,2,7,8,17,18] (SR [RM 21 7,RM 22 8,RM 23 0,RM 24 8,RB 25 .add 23 24,RI 26 1 21 22,WS 1 false 26 25] [0,1,2,7,8,17,18] (SR [RM 27 2] [0,1,2,7,8,17,18,27] (.cond 27 (RG [RM 28 7,RM 29 8,RM 30 0,RM 31 0,RM 32 1,RB 33 .rem 31 32,RB 34 .sub 30 33,RM 35 0,RM 36 8,RB 37 .add 35 36,RM 38 1,RB 39 .rem 37 38,RB 40 .add 34 39,RI 41 1 28 29,WS 1 false 41 40] [0,1,2,7,17,18]) .skip))))) (RG [RB 42 .add 18 (ki 1),RM 18 42] [0,1,2,7,17,18]))))))) (SR [RM 43 7,RM 6 43] [6] .ret)))))
def MD:List aR:=[.tm 6]
theorem ee:aK an2 Tryz.f332 (aV rX)=some (rX,MD):=by kernel_rfl
def i7:AC:= (SR [RV 4 (ki 0)] [0,1] (.seq (SR [RM 6 0,RN 7 6,RV 8 (ki 0)] [0,1,7,8] (.block 0 (.loop (SR [RB 9 .lss 8 7] [0,1,7,8,9] (.seq (.cond 9 .skip (.exit 0)) (.seq (.block 1 (SR [RM 10 8,RM 5 10] [0,1,5,7,8] (SR [RM 11 1,RM 12 0,RM 13 5,RI 14 1 12 13,RL 15 14,RB 16 .eql 11 15] [0,1,5,7,8,16] (.cond 16 (SR [RM 17 5,RM 4 17] [4] .ret) .skip)))) (RG [RB 18 .add 8 (ki 1),RM 8 18] [0,1,7,8]))))))) (SR [rq 4 (.move (.kv (.int .i64 (-1))))] [4] .ret)))
def uN:List aR:=[.tm 4]
theorem K3:aK an2 Tryz.f333 (aV i7)=some (i7,uN):=by kernel_rfl
def cZ:AC:= (SR [RV 4 (ki 0)] [0,1] (.seq (SR [RM 6 0,RN 7 6,RV 8 (ki 0)] [0,1,7,8] (.block 0 (.loop (SR [RB 9 .lss 8 7] [0,1,7,8,9] (.seq (.cond 9 .skip (.exit 0)) (.seq (.block 1 (SR [RM 10 8,RM 5 10] [0,1,5,7,8] (SR [RM 11 1,RM 12 0,RM 13 5,RI 14 4 12 13,RD 15 4 14,rq 16 (.D4 11 [15])] [0,1,5,7,8,16] (.cond 16 (SR [RM 17 5,RM 4 17] [4] .ret) .skip)))) (RG [RB 18 .add 8 (ki 1),RM 8 18] [0,1,7,8]))))))) (SR [rq 4 (.move (.kv (.int .i64 (-1))))] [4] .ret)))
def jH:List aR:=[.tm 4]
theorem rJ:aK an2 Tryz.f337 (aV cZ)=some (cZ,jH):=by kernel_rfl
def qG:AC:= (SR [RO 2 0,RV 3 kF] [1,2] (SR [RL 4 1,RF 5 0 2,RL 6 5,RF 7 1 2,RL 8 7,RC 9 dR [4,6,8],RM 3 9] [3] .ret))
def J2:List aR:=[.tm 3]
theorem da:aK an2 Tryz.f338 (aV qG)=some (qG,J2):=by kernel_rfl
def oV:AC:= (SR [RV 2 kF] [0] (SR [RM 3 0,RC 4 K4 [3],RU 5 4,RM 2 5] [2] .ret))
def H8:List aR:=[.tm 2]
theorem W9:aK an2 Tryz.f339 (aV oV)=some (oV,H8):=by kernel_rfl
def yN:AC:= (SR [RV 2 kF] [0] (SR [RM 3 0,RC 4 dR [3,(ki 0),(ki 65535)],RM 2 4] [2] .ret))
def S8:List aR:=[.tm 2]
theorem vu:aK an2 Tryz.f340 (aV yN)=some (yN,S8):=by kernel_rfl
def lJ:AC:= (SR [RO 4 1,RO 5 2,RA 6 [OZ,VZ,VZ,VZ,VZ]] [0,4,5,6] (SR [RA 7 [OZ,VZ,VZ,VZ,VZ]] [0,4,5,6,7] (SR [RM 8 0,RD 9 3 5,RC 10 rT [8,9,7]] [0,4,5,6,7] (SR [RM 11 0,RD 12 3 4,RD 13 3 5,RC 14 rR [11,12,13,7]] [0,4,5,6,7] (SR [RM 15 0,RD 16 3 4,RC 17 uB [15,16,7]] [0,4,5,6,7] (SR [RM 18 0,RD 19 3 4,RD 20 3 5,RC 21 tT [18,19,20,7]] [6,7] (SR [RD 22 5 7,WS 5 true 6 22] [6] .ret)))))))
def A7:List aR:=[.cell 6 5 true]
theorem PU:aK an2 Tryz.f97 (aV lJ)=some (lJ,A7):=by kernel_rfl
def DI:AC:= (SR [RO 3 1,RV 4 (ki 0)] [0,3] (SR [RM 6 0,RD 7 7 3,RC 8 y9 [6,7],RM 5 8] [0,5] (.seq (SR [RM 9 5,RB 10 .lss 9 (ki 0)] [0,5,10] (.cond 10 (SR [RV 4 (ki 3)] [4] .ret) .skip)) (SR [RM 11 0,RM 12 5,RI 13 4 11 12,RF 14 2 13,RL 15 14,RM 4 15] [4] .ret))))
def WE:List aR:=[.tm 4]
theorem Bg:aK an2 Tryz.f173 (aV DI)=some (DI,WE):=by kernel_rfl
def lK:AC:= (SR [RO 4 1] [0,2,4] (SR [RM 13 0,RK 14 13,RF 15 2 14,RL 16 15,RN 17 16,RV 18 (ki 0)] [0,2,4,17,18] (.block 0 (.loop (SR [RB 19 .lss 18 17] [0,2,4,17,18,19] (.seq (.cond 19 .skip (.exit 0)) (.seq (.block 1 (SR [RM 20 18,RM 6 20] [0,2,4,6,17,18] (SR [RM 21 0,RK 22 21,RF 23 2 22,RL 24 23,RM 25 6,RI 26 4 24 25,RM 7 26] [0,2,4,6,7,17,18] (SR [RV 8 (ki 1)] [0,2,4,6,7,8,17,18] (.block 2 (.loop (.seq (SR [RM 27 8,RB 28 .leq 27 (ki 4),RM 29 28,GF 30 0 4 29 true,GL 31 30 29 true,GM 32 6 29 true,GI 33 1 31 32 29 true,GL 34 33 29 true,RP 35 29 34 kF] [0,2,4,6,7,8,17,18,35] (.cond 35 .skip (.exit 2))) (.seq (.block 3 (SR [RM 38 7,RK 39 38,RF 40 3 39,RL 41 40,RM 42 8,RB 43 .add 41 42,RB 44 .rem 43 (ki 4),RM 9 44] [0,2,4,6,7,8,9,17,18] (SR [RM 45 0,RK 46 45,RF 47 3 46,RL 48 47,RM 49 9,RI 50 3 48 49,RM 10 50] [0,2,4,6,7,8,9,10,17,18] (.seq (SR [RM 51 10,RK 52 51,RF 53 1 52,RL 54 53,RN 55 54,RB 56 .eql 55 (ki 0),RM 57 56,GM 58 10 57 false,GQ 59 (.EU 58) 57 false,GF 60 1 59 57 false,GL 61 60 57 false,GI 62 5 61 (ki 0) 57 false,GF 63 0 62 57 false,GL 64 63 57 false,GM 65 6 57 false,GB 66 .neq 64 65 57 false,RP 67 57 kT 66] [0,2,4,6,7,8,9,10,17,18,67] (.cond 67 (.exit 3) .skip)) (SR [RM 68 10,RK 69 68,RF 70 1 69,RL 71 70,RI 72 5 71 (ki 0),RD 73 5 72,RA 11 [VZ,VZ,VZ,VZ,OZ],WS 5 true 11 73] [0,2,4,6,7,9,10,11,17,18] (SR [RM 74 0,RM 75 0,RK 76 75,RF 77 4 76,RW 78 77 [6] [] false,RD 79 5 11,rq 80 (.bY 5 1 [VZ,VZ,VZ,VZ,OZ] [(0,5,79)]),rq 81 (.append 5 78 80),RK 82 74,RF 83 4 82,WS 1 false 83 81] [0,2,4,6,7,9,10,11,17,18] (SR [RM 84 10,RM 85 10,RK 86 85,RF 87 1 86,RL 88 87,rq 89 (.slc 5 88 (some (ki 1)) none none),RK 90 84,RF 91 1 90,WS 1 false 91 89] [0,2,4,6,7,9,11,17,18] (SR [RM 92 7,RK 93 92,RD 94 4 93,RF 95 1 11,RL 96 95,RC 97 oN [94,96],RM 12 97] [0,2,4,6,7,9,11,12,17,18] (SR [RM 98 7,RM 99 7,RK 100 99,RF 101 2 100,RL 102 101,RM 103 12,RM 104 12,RB 105 .add 104 (ki 1),RC 106 fH [102,103,105],RK 107 98,RF 108 2 107,WS 1 false 108 106] [0,2,4,6,7,9,11,17,18] (SR [RM 109 7,RM 110 9,RK 111 109,RF 112 3 111,WS 1 false 112 110] [0,2,4,6,11,17,18] (SR [RM 113 2,RM 114 6,RF 115 1 11,RL 116 115,RC 117 fO [113,(ki 3),114,116]] [0,2,4,17,18] (.exit 2)))))))))))) (RG [RM 36 8,RB 37 .add 36 (ki 1),RM 8 37] [0,2,4,6,7,8,17,18]))))))))) (RG [RB 118 .add 18 (ki 1),RM 18 118] [0,2,4,17,18]))))))))
def A2:List aR:=[]
theorem PX:aK an2 Tryz.f187 (aV lK)=some (lK,A2):=by kernel_rfl
def lE:AC:= (SR [RO 5 1,RO 6 2] [0,3,5,6] (SR [RM 11 0,RK 12 11,RF 13 3 12,RL 14 13,RN 15 14,RV 16 (ki 0)] [0,3,5,6,15,16] (.block 0 (.loop (SR [RB 17 .lss 16 15] [0,3,5,6,15,16,17] (.seq (.cond 17 .skip (.exit 0)) (.seq (.block 1 (SR [RM 18 16,RM 8 18] [0,3,5,6,8,15,16] (SR [RM 19 0,RK 20 19,RF 21 3 20,RL 22 21,RM 23 8,RI 24 3 22 23,RM 9 24] [0,3,5,6,8,9,15,16] (.seq (SR [RF 25 1 6,RL 26 25,RM 27 8,RI 28 1 26 27,RL 29 28,RM 30 29,GM 31 9 30 false,GQ 32 (.EU 31) 30 false,GF 33 0 32 30 false,GL 34 33 30 false,GQ 35 (.len false 34) 30 false,GB 36 .eql 35 (ki 0) 30 false,RP 37 30 kT 36] [0,3,5,6,9,15,16,37] (.cond 37 (.exit 1) .skip)) (SR [RM 38 9,RK 39 38,RF 40 0 39,RL 41 40,RI 42 3 41 (ki 0),RD 43 3 42,RA 10 [VZ,VZ,VZ],WS 3 true 10 43] [0,3,5,6,9,10,15,16] (.block 2 (SR [RF 45 2 10,RL 46 45,RB 47 .gtr 46 (ki 0),RM 44 47] [0,3,5,6,9,10,15,16,44] (.cond 44 (RG [RM 48 9,RK 49 48,RF 50 0 49,RL 51 50,RI 52 3 51 (ki 0),RF 53 2 52,RL 54 53,RB 55 .sub 54 (ki 1),RI 56 3 51 (ki 0),RF 57 2 56,WS 1 false 57 55] [0,3,5,6,15,16]) (SR [RM 59 9,RK 60 59,RF 61 1 60,RL 62 61,RN 63 62,RB 64 .lss 63 (ki 2),RM 58 64] [0,3,5,6,9,10,15,16,58] (.cond 58 (SR [RM 65 9,RM 66 9,RK 67 66,RF 68 0 67,RL 69 68,rq 70 (.slc 3 69 (some (ki 1)) none none),RK 71 65,RF 72 0 71,WS 1 false 72 70] [0,3,5,6,9,10,15,16] (SR [RM 73 9,RM 74 9,RK 75 74,RF 76 1 75,RW 77 76 [28] [] true,RF 78 0 10,RW 79 78 [28] [] true,RF 80 1 10,RW 81 80 [28] [] true,RM 82 0,RK 83 82,RF 84 0 83,RF 85 0 5,RL 86 85,RF 87 0 10,RL 88 87,RF 89 2 5,RL 90 89,RF 91 0 10,RL 92 91,RI 93 1 90 92,RL 94 93,RF 95 1 10,RL 96 95,RI 97 7 94 96,RD 98 7 97,RX 99 (.call wZ [84,86,88,98]) [] [4,6,8] false,rq 100 (.build [VZ,VZ,VZ,VZ,OZ] [(0,1,79),(1,1,81),(2,3,99)]),rq 101 (.bY 5 1 [VZ,VZ,VZ,VZ,OZ] [(0,5,100)]),rq 102 (.append 5 77 101),RK 103 73,RF 104 1 103,WS 1 false 104 102] [0,3,5,6,10,15,16] (RG [RM 105 3,RF 106 0 10,RL 107 106,RF 108 1 10,RL 109 108,RC 110 fO [105,(ki 2),107,109]] [0,3,5,6,15,16]))) .skip)))))))))) (RG [RB 111 .add 16 (ki 1),RM 16 111] [0,3,5,6,15,16]))))))))
def AW:List aR:=[]
theorem PV:aK an2 Tryz.f188 (aV lE)=some (lE,AW):=by kernel_rfl
def mD:AC:= (SR [RO 4 1] [0,2,4] (SR [RA 6 [(.v (.bool false)),(.v (.bool false)),(.v (.bool false))]] [0,2,4,6] (SR [RM 13 0,RK 14 13,RF 15 3 14,RL 16 15,RN 17 16,RV 18 (ki 0)] [0,2,4,6,17,18] (.block 0 (.loop (SR [RB 19 .lss 18 17] [0,2,4,6,17,18,19] (.seq (.cond 19 .skip (.exit 0)) (.seq (.block 1 (SR [RM 20 18,RM 7 20] [0,2,4,6,7,17,18] (SR [RM 21 0,RK 22 21,RF 23 3 22,RL 24 23,RM 25 7,RI 26 3 24 25,RM 8 26] [0,2,4,6,7,8,17,18] (SR [RV 9 (ki 1)] [0,2,4,6,7,8,9,17,18] (.block 2 (.loop (.seq (SR [RM 27 9,RB 28 .leq 27 (ki 3),RM 29 28,GM 30 8 29 true,GQ 31 (.EU 30) 29 true,GF 32 0 31 29 true,GL 33 32 29 true,GQ 34 (.len false 33) 29 true,GB 35 .lss 34 (ki 2) 29 true,RP 36 29 35 kF] [0,2,4,6,7,8,9,17,18,36] (.cond 36 .skip (.exit 2))) (.seq (.block 3 (SR [RM 39 8,RK 40 39,RF 41 2 40,RL 42 41,RM 43 9,RB 44 .add 42 43,RB 45 .rem 44 (ki 3),RM 10 45] [0,2,4,6,7,8,9,10,17,18] (.seq (SR [RM 46 10,rq 47 (.Bn 1 3 6 46),RL 48 47,RM 49 48,GM 50 0 49 false,GQ 51 (.load 3 true 4) 49 false,GM 52 10 49 false,GM 53 7 49 false,GQ 54 (.call t0 [50,51,52,53]) 49 false,GU 55 54 49 false,RP 56 49 kT 55] [0,2,4,6,7,8,9,10,17,18,56] (.cond 56 (.exit 3) .skip)) (SR [RM 57 0,RK 58 57,RF 59 2 58,RL 60 59,RM 61 10,RI 62 4 60 61,RM 11 62] [0,2,4,6,7,8,10,11,17,18] (SR [RM 63 11,RK 64 63,RF 65 1 64,RL 66 65,RI 67 1 66 (ki 0),RL 68 67,RM 12 68] [0,2,4,6,7,8,10,11,12,17,18] (SR [RM 69 11,RM 70 11,RK 71 70,RF 72 1 71,RL 73 72,rq 74 (.slc 1 73 (some (ki 1)) none none),RK 75 69,RF 76 1 75,WS 1 false 76 74] [0,2,4,6,7,8,10,11,12,17,18] (SR [RM 77 11,RM 78 11,RK 79 78,RF 80 2 79,RL 81 80,RM 82 10,RM 83 12,RM 84 7,rq 85 (.build [VZ,VZ,VZ] [(0,1,82),(1,1,83),(2,1,84)]),rq 86 (.bY 3 1 [VZ,VZ,VZ] [(0,3,85)]),rq 87 (.append 3 81 86),RK 88 77,RF 89 2 88,WS 1 false 89 87] [0,2,4,6,7,8,10,12,17,18] (SR [RM 90 8,RM 91 8,RK 92 91,RF 93 0 92,RW 94 93 [13] [] false,RM 95 10,RM 96 12,RF 97 1 4,RL 98 97,RM 99 7,RI 100 1 98 99,RL 101 100,rq 102 (.build [VZ,VZ,VZ] [(0,1,95),(1,1,96),(2,1,101)]),rq 103 (.bY 3 1 [VZ,VZ,VZ] [(0,3,102)]),rq 104 (.append 3 94 103),RK 105 90,RF 106 0 105,WS 1 false 106 104] [0,2,4,6,7,8,10,17,18] (SR [RM 107 8,RM 108 10,RK 109 107,RF 110 2 109,WS 1 false 110 108] [0,2,4,6,7,10,17,18] (SR [RM 111 10,rq 112 (.Bn 1 3 6 111),WS 1 false 112 kT] [0,2,4,6,7,17,18] (SR [RM 113 2,RM 114 7,RK 115 113,RF 116 1 115,rq 117 (.Bn 1 4 116 114),WS 1 false 117 (ki 1)] [0,2,4,6,17,18] (.exit 2)))))))))))) (RG [RM 37 9,RB 38 .add 37 (ki 1),RM 9 38] [0,2,4,6,7,8,9,17,18]))))))))) (RG [RB 118 .add 18 (ki 1),RM 18 118] [0,2,4,6,17,18])))))))))
def D7:List aR:=[]
theorem R1:aK an2 Tryz.f189 (aV mD)=some (mD,D7):=by kernel_rfl
def mE:AC:= (SR [RO 5 1,RO 6 2] [0,3,5,6] (SR [RM 10 0,RK 11 10,RF 12 2 11,RL 13 12,RN 14 13,RV 15 (ki 0)] [0,3,5,6,14,15] (.block 0 (.loop (SR [RB 16 .lss 15 14] [0,3,5,6,14,15,16] (.seq (.cond 16 .skip (.exit 0)) (.seq (.block 1 (SR [RM 17 15,RM 8 17] [0,3,5,6,8,14,15] (SR [RM 18 0,RK 19 18,RF 20 2 19,RL 21 20,RM 22 8,RI 23 4 21 22,RM 9 23] [0,3,5,6,8,9,14,15] (SR [RF 24 2 6,RL 25 24,RM 26 8,RI 27 1 25 26,RL 28 27,RM 29 28,GM 30 9 29 true,GQ 31 (.EU 30) 29 true,GF 32 1 31 29 true,GL 33 32 29 true,GQ 34 (.len false 33) 29 true,GB 35 .lss 34 (ki 2) 29 true,RP 36 29 35 kF,RM 37 36,GM 38 9 37 true,GQ 39 (.EU 38) 37 true,GF 40 0 39 37 true,GL 41 40 37 true,GF 42 2 5 37 true,GL 43 42 37 true,GM 44 8 37 true,GI 45 1 43 44 37 true,GL 46 45 37 true,GQ 47 (.len false 46) 37 true,GB 48 .lss 41 47 37 true,RP 49 37 48 kF] [0,3,5,6,8,9,14,15,49] (.cond 49 (SR [RM 50 9,RM 51 9,RK 52 51,RF 53 1 52,RW 54 53 [9] [] false,RM 55 9,RK 56 55,RF 57 0 56,RL 58 57,rq 59 (.bY 1 1 [VZ] [(0,1,58)]),rq 60 (.append 1 54 59),RK 61 50,RF 62 1 61,WS 1 false 62 60] [0,3,5,6,8,9,14,15] (SR [RM 63 3,RM 64 8,RM 65 9,RK 66 65,RF 67 0 66,RL 68 67,RC 69 fO [63,(ki 1),64,68]] [0,3,5,6,9,14,15] (RG [RM 70 9,RK 71 70,RF 72 0 71,RL 73 72,RB 74 .add 73 (ki 1),RK 75 70,RF 76 0 75,WS 1 false 76 74] [0,3,5,6,14,15]))) .skip))))) (RG [RB 77 .add 15 (ki 1),RM 15 77] [0,3,5,6,14,15]))))))))
def EB:List aR:=[]
theorem RQ:aK an2 Tryz.f190 (aV mE)=some (mE,EB):=by kernel_rfl
def DK:AC:= (SR [RO 2 0,rq 3 (.box false 1),RV 4 (ki 0)] [2,3] (SR [RF 5 2 2,RL 6 5,rq 7 (.xop (.JQ HN) [3]),RC 8 cQ [6,7],RM 4 8] [4] .ret))
def WC:List aR:=[.tm 4]
theorem zo:aK an2 Tryz.f265 (aV DK)=some (DK,WC):=by kernel_rfl
def fA:AC:= (SR [RV 6 (.kv (.slice none 0 0))] [0,1,2] (SR [RM 8 0,RM 9 1,RM 10 2,RM 11 0,RN 12 11,rq 13 (.slc 3 8 (some 9) (some 10) (some 12))] [0,1,2] (.seq (SR [RM 14 1,RM 15 2,RB 16 .eql 14 15] [0,1,2,16] (.cond 16 (SR [RM 17 0,RM 6 17] [6] .ret) .skip)) (SR [RM 18 0,RN 19 18,RM 7 19] [0,1,2,7] (SR [RM 20 0,RM 21 1,rq 22 (.slc 3 20 none (some 21) none),RM 23 0,RM 24 2,rq 25 (.slc 3 23 (some 24) none none),rq 26 (.append 3 22 25),RM 0 26] [0,7] (SR [RM 27 0,RM 28 0,RN 29 28,RM 30 7,rq 31 (.slc 3 27 (some 29) (some 30) none),rn (.xop (.clear 3 [VZ,VZ,VZ]) [31])] [0] (SR [RM 32 0,RM 6 32] [6] .ret)))))))
def mX:List aR:=[.tm 6]
theorem AI:aK an2 Tryz.f266 (aV fA)=some (fA,mX):=by kernel_rfl
def mJ:AC:= (RG [RM 8 0,RM 9 0,RK 10 9,RF 11 0 10,RL 12 11,RM 13 1,RM 14 2,RM 15 3,rq 16 (.build [VZ,VZ,VZ] [(0,1,13),(1,1,14),(2,1,15)]),rq 17 (.bY 3 1 [VZ,VZ,VZ] [(0,3,16)]),rq 18 (.append 3 12 17),RK 19 8,RF 20 0 19,WS 1 false 20 18] [])
def D9:List aR:=[]
theorem QG:aK an2 Tryz.f267 (aV mJ)=some (mJ,D9):=by kernel_rfl
def l9:AC:= (SR [RO 5 1,rq 6 (.box false 2),rq 7 (.box false 3),RV 8 kF] [0,5,6,7] (SR [RM 11 0,RK 12 11,RF 13 2 12,RW 14 13 [7] [] false,RW 15 6 [7] [] false,RI 16 4 14 15,RX 17 (.load 4 true 16) [7] [] false,RA 9 [VZ,OZ,OZ,VZ],WS 4 true 9 17] [5,6,7,9] (.seq (.seq (.region [RF 18 1 9 0,RL 19 18 1,RN 20 19 2,RB 21 .eql 20 (ki 0) 3,RM 22 21 4,GF 23 2 9 22 false 5,GL 24 23 22 false 6,GQ 25 (.len false 24) 22 false 7,GB 26 .geq 25 (ki 4) 22 false 8,RP 27 22 kT 26 9,RM 28 27 10,GF 29 0 5 28 false 11,GL 30 29 28 false 12,GF 31 2 5 28 false 13,GL 32 31 28 false 14,GL 33 6 28 false 15,GI 34 1 32 33 28 false 16,GL 35 34 28 false 17,GF 36 1 9 28 false 18,GL 37 36 28 false 19,GI 38 1 37 (ki 0) 28 false 20,GL 39 38 28 false 21,GI 40 7 35 39 28 false 22,GQ 41 (.load 7 true 40) 28 false 23,RY (some 43) (.load 1 false 7) (some (28,false)) [] [] true 25,RY (some 42) (.call GK [30,41]) (some (28,false)) [] [25] false 24,GB 44 .neq 42 43 28 false 26,RP 45 28 kT 44 27] 28 [5,6,7,9,45]) (.cond 45 (SR [RV 8 kF] [8] .ret) .skip)) (.seq (.region [RX 46 (.load 3 true 5) [7] [] false 0,RW 47 6 [7] [] false 1,RF 48 1 9 2,RW 49 48 [7] [] false 3,RI 50 1 49 (ki 0) 4,RW 51 50 [7] [] false 5,RA 10 [VZ] 7,RX 52 (.call iU [46,47,51]) [7] [] false 6,WS 1 false 10 52 8] 9 [5,6,7,9,10]) (SR [RF 53 2 9,RL 54 53,rq 55 (.xop (.JQ pW) [5,6,10,7]),RC 56 dM [54,55],RU 57 56,RM 8 57] [8] .ret)))))
def D2:List aR:=[.tm 8]
theorem R3:aK an2 Tryz.f268 (aV l9)=some (l9,D2):=by kernel_rfl
def eH:AC:= (SR [RV 4 (ki 0)] [0,1] (.seq (SR [RM 6 0,RN 7 6,RV 8 (ki 0)] [0,1,7,8] (.block 0 (.loop (SR [RB 9 .lss 8 7] [0,1,7,8,9] (.seq (.cond 9 .skip (.exit 0)) (.seq (.block 1 (SR [RM 10 8,RM 5 10] [0,1,5,7,8] (SR [RM 11 1,RM 12 0,RM 13 5,RI 14 3 12 13,RD 15 3 14,rq 16 (.D4 11 [15])] [0,1,5,7,8,16] (.cond 16 (SR [RM 17 5,RM 4 17] [4] .ret) .skip)))) (RG [RB 18 .add 8 (ki 1),RM 8 18] [0,1,7,8]))))))) (SR [rq 4 (.move (.kv (.int .i64 (-1))))] [4] .ret)))
def kV:List aR:=[.tm 4]
theorem wS:aK an2 Tryz.f319 (aV eH)=some (eH,kV):=by kernel_rfl
def vO:AC:= (SR [RO 2 0,RV 3 kF] [1,2] (SR [RF 4 1 2,RL 5 4,RL 6 1,RB 7 .eql 5 6,RM 3 7] [3] .ret))
def OU:List aR:=[.tm 3]
theorem nc:aK an2 Tryz.f320 (aV vO)=some (vO,OU):=by kernel_rfl
def dD:AC:= (SR [RV 4 kF] [0,1] (SR [RM 5 0,RM 6 1,RC 7 cQ [5,6],RB 8 .geq 7 (ki 0),RM 4 8] [4] .ret))
def jW:List aR:=[.tm 4]
theorem sQ:aK an2 Tryz.f321 (aV dD)=some (dD,jW):=by kernel_rfl
def kJ:AC:= (SR [RO 5 0,RV 6 kF] [1,2,3,4,5] (.seq (.region [RD 7 3 1 0,RL 8 2 1,RF 9 1 5 2,RL 10 9 3,RW 12 3 [] [] true 5,RX 11 (.call iU [7,8,10]) [] [5] false 4,RB 13 .eql 11 12 6,RM 14 13 7,GF 15 2 5 14 true 8,GL 16 15 14 true 9,GL 17 4 14 true 10,GB 18 .neq 16 17 14 true 11,RP 19 14 18 kF 12,RM 6 19 13] 14 [6]) .ret))
def zP:List aR:=[.tm 6]
theorem N1:aK an2 Tryz.f322 (aV kJ)=some (kJ,zP):=by kernel_rfl
def jL:AC:= (SR [RO 1 0,RA 2 [OZ,OZ,OZ,OZ,OZ]] [1,2] (.seq (.region [RF 8 0 1 0,RX 9 (.load 2 true 8) [13] [] false 1,RF 11 2 1 3,RW 12 11 [13] [] true 4,RF 14 3 1 6,RW 15 14 [13] [] true 7,RF 17 4 1 9,RW 18 17 [13] [] true 10,RA 3 [OZ,OZ,OZ,OZ,OZ] 13,RX 10 (.call hZ [9]) [13] [4,7,10] false 2,RX 13 (.call iK [12]) [13] [7,10] false 5,RX 16 (.call gZ [15]) [13] [10] false 8,RX 19 (.call iG [18]) [13] [] false 11,rq 20 (.build [OZ,OZ,OZ,OZ,OZ] [(0,2,10),(2,1,13),(3,1,16),(4,1,19)]) 12,WS 5 true 3 20 14] 15 [1,2,3]) (.seq (SR [RF 21 2 1,RL 22 21,RN 23 22,RV 24 (ki 0)] [1,2,3,22,23,24] (.block 0 (.loop (SR [RB 25 .lss 24 23] [1,2,3,22,23,24,25] (.seq (.cond 25 .skip (.exit 0)) (.seq (.block 1 (SR [RM 26 24,RI 27 4 22 24,RD 28 4 27,RA 5 [VZ,OZ,OZ,VZ],RM 4 26,WS 4 true 5 28] [1,2,3,4,5,22,23,24] (.region [RF 29 2 3 0,RW 30 29 [] [] true 1,RM 31 4 2,RF 32 2 3 3,RW 33 32 [] [] true 4,RM 34 4 5,RF 35 1 5 6,RL 36 35 7,RF 38 2 5 9,RW 39 38 [] [] true 10,RX 37 (.call gO [36]) [] [1,4,10] false 8,RX 40 (.call gB [39]) [] [1,4] false 11,RI 41 4 30 31 12,RF 42 1 41 13,RY none (.store 1 false 42 37) none [] [4] false 14,RI 43 4 33 34 15,RF 44 2 43 16,WS 1 false 44 40 17] 18 [1,2,3,22,23,24]))) (RG [RB 45 .add 24 (ki 1),RM 24 45] [1,2,3,22,23,24]))))))) (.seq (SR [RF 46 3 1,RL 47 46,RN 48 47,RV 49 (ki 0)] [2,3,47,48,49] (.block 2 (.loop (SR [RB 50 .lss 49 48] [2,3,47,48,49,50] (.seq (.cond 50 .skip (.exit 2)) (.seq (.block 3 (SR [RM 51 49,RI 52 3 47 49,RD 53 3 52,RA 7 [OZ,OZ,VZ],RM 6 51,WS 3 true 7 53] [2,3,6,7,47,48,49] (.region [RF 54 3 3 0,RW 55 54 [] [] true 1,RM 56 6 2,RF 57 3 3 3,RW 58 57 [] [] true 4,RM 59 6 5,RF 60 0 7 6,RL 61 60 7,RF 63 1 7 9,RW 64 63 [] [] true 10,RX 62 (.call gB [61]) [] [1,4,10] false 8,RX 65 (.call iG [64]) [] [1,4] false 11,RI 66 3 55 56 12,RF 67 0 66 13,RY none (.store 1 false 67 62) none [] [4] false 14,RI 68 3 58 59 15,RF 69 1 68 16,WS 1 false 69 65 17] 18 [2,3,47,48,49]))) (RG [RB 70 .add 49 (ki 1),RM 49 70] [2,3,47,48,49]))))))) (SR [RD 71 5 3,WS 5 true 2 71] [2] .ret)))))
def xG:List aR:=[.cell 2 5 true]
theorem L3:aK an2 Tryz.f96 (aV jL)=some (jL,xG):=by kernel_rfl
def gY:AC:= (SR [RV 2 (.kv (.slice none 0 0))] [0] (SR [RM 3 0,RC 4 fD [3],RC 5 fK [4],RM 2 5] [2] .ret))
def rN:List aR:=[.tm 2]
theorem IQ:aK an2 Tryz.f182 (aV gY)=some (gY,rN):=by kernel_rfl
def gT:AC:= (SR [RV 2 (.kv (.slice none 0 0))] [0] (SR [RM 3 0,RC 4 eL [3],RC 5 eW [4],RM 2 5] [2] .ret))
def p9:List aR:=[.tm 2]
theorem GH:aK an2 Tryz.f183 (aV gT)=some (gT,p9):=by kernel_rfl
def iL:AC:= (SR [RV 2 (.kv (.slice none 0 0))] [0] (SR [RM 3 0,RC 4 fQ [3],RC 5 gD [4],RM 2 5] [2] .ret))
def tS:List aR:=[.tm 2]
theorem JC:aK an2 Tryz.f186 (aV iL)=some (iL,tS):=by kernel_rfl
def fE:AC:= (SR [RV 2 (.kv (.slice none 0 0))] [0] (SR [RM 3 0,RM 4 0,RN 5 4,RM 6 0,RN 7 6,rq 8 (.slc 4 3 none (some 5) (some 7)),RM 2 8] [2] .ret))
def mY:List aR:=[.tm 2]
theorem AS:aK an2 Tryz.f256 (aV fE)=some (fE,mY):=by kernel_rfl
def eO:AC:= (SR [RV 2 (.kv (.slice none 0 0))] [0] (.seq (SR [RM 3 0,rq 4 (.xop (.yL false) [3])] [0,4] (.cond 4 (SR [RV 2 (.kv (.slice none 0 0))] [2] .ret) .skip)) (SR [rq 5 (.bY 4 0 [VZ,OZ,OZ,VZ] []),RM 6 0,rq 7 (.append 4 5 6),RM 2 7] [2] .ret)))
def mB:List aR:=[.tm 2]
theorem xY:aK an2 Tryz.f257 (aV eO)=some (eO,mB):=by kernel_rfl
def eJ:AC:= (SR [RV 2 (.kv (.slice none 0 0))] [0] (SR [RM 3 0,RM 4 0,RN 5 4,RM 6 0,RN 7 6,rq 8 (.slc 3 3 none (some 5) (some 7)),RM 2 8] [2] .ret))
def lN:List aR:=[.tm 2]
theorem xR:aK an2 Tryz.f258 (aV eJ)=some (eJ,lN):=by kernel_rfl
def eF:AC:= (SR [RV 2 (.kv (.slice none 0 0))] [0] (.seq (SR [RM 3 0,rq 4 (.xop (.yL false) [3])] [0,4] (.cond 4 (SR [RV 2 (.kv (.slice none 0 0))] [2] .ret) .skip)) (SR [rq 5 (.bY 3 0 [OZ,OZ,VZ] []),RM 6 0,rq 7 (.append 3 5 6),RM 2 7] [2] .ret)))
def kZ:List aR:=[.tm 2]
theorem wM:aK an2 Tryz.f259 (aV eF)=some (eF,kZ):=by kernel_rfl
def fR:AC:= (SR [RV 2 (.kv (.slice none 0 0))] [0] (SR [RM 3 0,RM 4 0,RN 5 4,RM 6 0,RN 7 6,rq 8 (.slc 3 3 none (some 5) (some 7)),RM 2 8] [2] .ret))
def oA:List aR:=[.tm 2]
theorem D5:aK an2 Tryz.f263 (aV fR)=some (fR,oA):=by kernel_rfl
def fL:AC:= (SR [RV 2 (.kv (.slice none 0 0))] [0] (.seq (SR [RM 3 0,rq 4 (.xop (.yL false) [3])] [0,4] (.cond 4 (SR [RV 2 (.kv (.slice none 0 0))] [2] .ret) .skip)) (SR [rq 5 (.bY 3 0 [VZ,VZ,VZ] []),RM 6 0,rq 7 (.append 3 5 6),RM 2 7] [2] .ret)))
def nV:List aR:=[.tm 2]
theorem A8:aK an2 Tryz.f264 (aV fL)=some (fL,nV):=by kernel_rfl
def DD:AC:= (SR [RO 1 0,RV 2 kF] [1] (.seq (SR [RF 4 0 1,RL 5 4,RC 6 GJ [5],RU 7 6,RM 8 7,GF 9 1 1 8 false,GL 10 9 8 false,GQ 11 (.len false 10) 8 false,GB 12 .neq 11 (ki 4) 8 false,RP 13 8 kT 12,RM 14 13,GF 15 1 1 14 false,GL 16 15 14 false,GQ 17 (.call pD [16,(ki 0),(ki 3)]) 14 false,GU 18 17 14 false,RP 19 14 kT 18,RM 20 19,GF 21 2 1 20 false,GL 22 21 20 false,GQ 23 (.len false 22) 20 false,GB 24 .neq 23 (ki 3) 20 false,RP 25 20 kT 24] [1,25] (.cond 25 (SR [RV 2 kF] [2] .ret) .skip)) (.seq (SR [RV 3 (ki 0)] [1,3] (.block 0 (.loop (.seq (SR [RM 26 3,RB 27 .lss 26 (ki 3)] [1,3,27] (.cond 27 .skip (.exit 0))) (.seq (.block 1 (SR [RF 30 2 1,RL 31 30,RM 32 3,RI 33 1 31 32,RL 34 33,RN 35 34,RB 36 .gtr 35 (ki 12),RM 37 36,GF 38 2 1 37 false,GL 39 38 37 false,GM 40 3 37 false,GI 41 1 39 40 37 false,GL 42 41 37 false,GQ 43 (.call KT [42]) 37 false,GU 44 43 37 false,RP 45 37 kT 44] [1,3,45] (.cond 45 (SR [RV 2 kF] [2] .ret) .skip))) (RG [RM 28 3,RB 29 .add 28 (ki 1),RM 3 29] [1,3])))))) (SR [RV 2 kT] [2] .ret))))
def VM:List aR:=[.tm 2]
theorem Bu:aK an2 Tryz.f73 (aV DD)=some (DD,VM):=by kernel_rfl
def CD:AC:= (SR [RV 6 kF] [0,1,2] (.seq (SR [RV 7 (ki 0)] [0,1,2,7] (.block 0 (.loop (.seq (SR [RM 8 7,RM 9 0,RN 10 9,RB 11 .lss 8 10] [0,1,2,7,11] (.cond 11 .skip (.exit 0))) (.seq (.block 1 (SR [RM 14 0,RM 15 7,RI 16 1 14 15,RL 17 16,RM 18 1,RM 19 2,RC 20 bW [17,18,19],RU 21 20] [0,1,2,7,21] (.cond 21 (SR [RV 6 kF] [6] .ret) .skip))) (RG [RM 12 7,RB 13 .add 12 (ki 1),RM 7 13] [0,1,2,7])))))) (SR [RV 6 kT] [6] .ret)))
def V3:List aR:=[.tm 6]
theorem yq:aK an2 Tryz.f114 (aV CD)=some (CD,V3):=by kernel_rfl
def B9:AC:= (SR [RO 1 0,RV 2 kF] [1] (SR [RF 3 0 1,RD 4 1 3,RC 5 OD [4],RM 6 5,GF 7 1 1 6 true,GL 8 7 6 true,GQ 9 (.len false 8) 6 true,GB 10 .eql 9 (ki 6) 6 true,RP 11 6 10 kF,RM 12 11,GF 13 1 1 12 true,GL 14 13 12 true,GQ 15 (.call pD [14,(.kv (.int .i64 (-1))),(ki 63)]) 12 true,RP 16 12 15 kF,RM 2 16] [2] .ret))
def VO:List aR:=[.tm 2]
theorem Bq:aK an2 Tryz.f126 (aV B9)=some (B9,VO):=by kernel_rfl
def DB:AC:= (SR [RV 2 kF] [0] (.seq (SR [RM 6 0,RN 7 6,RB 8 .gtr 7 (ki 4)] [0,8] (.cond 8 (SR [RV 2 kF] [2] .ret) .skip)) (.seq (SR [RV 3 (ki 0)] [0,3] (.block 0 (.loop (.seq (SR [RM 9 3,RM 10 0,RN 11 10,RB 12 .lss 9 11] [0,3,12] (.cond 12 .skip (.exit 0))) (.seq (.block 1 (SR [RM 15 0,RM 16 3,RI 17 4 15 16,RD 18 4 17,RA 4 [VZ,VZ,VZ,(.v (.bool false))],WS 4 true 4 18] [0,3,4] (.seq (SR [RF 19 0 4,RL 20 19,RF 21 1 4,RL 22 21,RC 23 bW [20,(ki 0),22],RU 24 23,RM 25 24,GF 26 1 4 25 false,GL 27 26 25 false,GB 28 .gtr 27 (ki 63) 25 false,RP 29 25 kT 28,RM 30 29,GF 31 2 4 30 false,GL 32 31 30 false,GQ 33 (.call bW [32,(ki 0),(ki 2)]) 30 false,GU 34 33 30 false,RP 35 30 kT 34] [0,3,4,35] (.cond 35 (SR [RV 2 kF] [2] .ret) .skip)) (SR [RV 5 (ki 0)] [0,3,4,5] (.block 2 (.loop (.seq (SR [RM 36 5,RM 37 3,RB 38 .lss 36 37] [0,3,4,5,38] (.cond 38 .skip (.exit 2))) (.seq (.block 3 (SR [RF 41 0 4,RL 42 41,RM 43 0,RM 44 5,RI 45 4 43 44,RF 46 1 45,RL 47 46,RB 48 .leq 42 47,RM 49 48,GM 50 0 49 true,GM 51 5 49 true,GI 52 4 50 51 49 true,GF 53 0 52 49 true,GL 54 53 49 true,GF 55 1 4 49 true,GL 56 55 49 true,GB 57 .leq 54 56 49 true,RP 58 49 57 kF] [0,3,4,5,58] (.cond 58 (SR [RV 2 kF] [2] .ret) .skip))) (RG [RM 39 5,RB 40 .add 39 (ki 1),RM 5 40] [0,3,4,5]))))))))) (RG [RM 13 3,RB 14 .add 13 (ki 1),RM 3 14] [0,3])))))) (SR [RV 2 kT] [2] .ret))))
def VF:List aR:=[.tm 2]
theorem zu:aK an2 Tryz.f164 (aV DB)=some (DB,VF):=by kernel_rfl
def yA:AC:= (SR [RV 2 kF] [0] (.seq (SR [RV 3 (ki 0)] [0,3] (.block 0 (.loop (.seq (SR [RM 4 3,RM 5 0,RN 6 5,RB 7 .lss 4 6] [0,3,7] (.cond 7 .skip (.exit 0))) (.seq (.block 1 (SR [RM 10 0,RM 11 3,RI 12 7 10 11,RD 13 7 12,RC 14 GO [13],RU 15 14] [0,3,15] (.cond 15 (SR [RV 2 kF] [2] .ret) .skip))) (RG [RM 8 3,RB 9 .add 8 (ki 1),RM 3 9] [0,3])))))) (SR [RV 2 kT] [2] .ret)))
def SU:List aR:=[.tm 2]
theorem uu:aK an2 Tryz.f165 (aV yA)=some (yA,SU):=by kernel_rfl
def CT:AC:= (SR [RO 1 0,RV 2 kF] [1] (.seq (SR [RF 4 0 1,RL 5 4,RN 6 5,RB 7 .neq 6 (ki 64)] [1,7] (.cond 7 (SR [RV 2 kF] [2] .ret) .skip)) (.seq (SR [RV 3 (ki 0)] [1,3] (.block 0 (.loop (.seq (SR [RM 8 3,RF 9 0 1,RL 10 9,RN 11 10,RB 12 .lss 8 11] [1,3,12] (.cond 12 .skip (.exit 0))) (.seq (.block 1 (SR [RF 15 0 1,RL 16 15,RM 17 3,RI 18 1 16 17,RL 19 18,RC 20 bW [19,(ki 0),(ki 65535)],RU 21 20] [1,3,21] (.cond 21 (SR [RV 2 kF] [2] .ret) .skip))) (RG [RM 13 3,RB 14 .add 13 (ki 1),RM 3 14] [1,3])))))) (SR [RV 2 kT] [2] .ret))))
def VL:List aR:=[.tm 2]
theorem Ap:aK an2 Tryz.f211 (aV CT)=some (CT,VL):=by kernel_rfl
def B4:AC:= (SR [RO 1 0,RV 2 kF] [1] (SR [RF 3 0 1,RL 4 3,RC 5 bW [4,(ki 0),(ki 1)],RM 6 5,GF 7 1 1 6 true,GL 8 7 6 true,GQ 9 (.call bW [8,(ki 1),(ki 4)]) 6 true,RP 10 6 9 kF,RM 11 10,GF 12 2 1 11 true,GL 13 12 11 true,GQ 14 (.len false 13) 11 true,GB 15 .leq 14 (ki 4) 11 true,RP 16 11 15 kF,RM 17 16,GF 18 2 1 17 true,GL 19 18 17 true,GQ 20 (.call pD [19,(ki 0),(ki 65535)]) 17 true,RP 21 17 20 kF,RM 2 21] [2] .ret))
def WA:List aR:=[.tm 2]
theorem Aq:aK an2 Tryz.f213 (aV B4)=some (B4,WA):=by kernel_rfl
def B8:AC:= (SR [RO 1 0,RV 2 kF] [1] (.seq (SR [RF 3 0 1,RL 4 3,RC 5 bW [4,(ki 0),(ki 1)],RU 6 5,RM 7 6,GF 8 1 1 7 false,GL 9 8 7 false,GQ 10 (.call bW [9,(ki 1),(ki 4)]) 7 false,GU 11 10 7 false,RP 12 7 kT 11,RM 13 12,GF 14 2 1 13 false,GL 15 14 13 false,GF 16 3 1 13 false,GL 17 16 13 false,GF 18 4 1 13 false,GL 19 18 13 false,GQ 20 (.call GN [15,17,19]) 13 false,GU 21 20 13 false,RP 22 13 kT 21] [1,22] (.cond 22 (SR [RV 2 kF] [2] .ret) .skip)) (.seq (SR [RF 23 1 1,RL 24 23,RB 25 .geq 24 (ki 3),RM 26 25,GF 27 3 1 26 true,GL 28 27 26 true,GB 29 .neq 28 (ki 1) 26 true,RP 30 26 29 kF] [1,30] (.cond 30 (SR [RV 2 kF] [2] .ret) .skip)) (.seq (SR [RD 31 7 1,RC 32 vX [31],RU 33 32] [1,33] (.cond 33 (SR [RF 34 5 1,RL 35 34,RN 36 35,RB 37 .eql 36 (ki 0),RM 38 37,GF 39 6 1 38 true,GL 40 39 38 true,GQ 41 (.len false 40) 38 true,GB 42 .eql 41 (ki 0) 38 true,RP 43 38 42 kF,RM 2 43] [2] .ret) .skip)) (SR [RF 44 5 1,RL 45 44,RN 46 45,RF 47 3 1,RL 48 47,RB 49 .eql 46 48,RM 50 49,GF 51 6 1 50 true,GL 52 51 50 true,GQ 53 (.len false 52) 50 true,GF 54 3 1 50 true,GL 55 54 50 true,GB 56 .eql 53 55 50 true,RP 57 50 56 kF,RM 58 57,GF 59 5 1 58 true,GL 60 59 58 true,GQ 61 (.call pD [60,(ki 0),(ki 65535)]) 58 true,RP 62 58 61 kF,RM 63 62,GF 64 6 1 63 true,GL 65 64 63 true,GQ 66 (.call pD [65,(ki 0),(ki 3)]) 63 true,RP 67 63 66 kF,RM 2 67] [2] .ret)))))
def VW:List aR:=[.tm 2]
theorem Ax:aK an2 Tryz.f247 (aV B8)=some (B8,VW):=by kernel_rfl
def vG:AC:= (SR [RO 3 0,RO 4 1,RO 5 2,RA 6 [OZ,OZ,OZ,OZ,OZ]] [3,4,5,6] (.seq (SR [RV 7 (ki 0)] [3,4,5,6,7] (.block 0 (.loop (.seq (SR [RM 12 7,RB 13 .lss 12 (ki 3)] [3,4,5,6,7,13] (.cond 13 .skip (.exit 0))) (.seq (.block 1 (SR [RF 16 0 5,RL 17 16,RM 18 7,RI 19 1 17 18,RL 20 19] [3,4,5,6,7,20] (.cond 20 (RG [RD 21 5 4,RM 22 7,RC 23 K5 [21,22],WS 5 true 4 23] [3,4,5,6,7]) .skip))) (RG [RM 14 7,RB 15 .add 14 (ki 1),RM 7 15] [3,4,5,6,7])))))) (.seq (SR [RV 8 (ki 0)] [3,4,5,6,8] (.block 2 (.loop (.seq (SR [RM 24 8,RB 25 .leq 24 (ki 3)] [3,4,5,6,8,25] (.cond 25 .skip (.exit 2))) (.seq (.block 3 (SR [RF 28 1 5,RL 29 28,RM 30 8,RI 31 1 29 30,RL 32 31,RU 33 32] [3,4,5,6,8,33] (.cond 33 (RG [RD 34 3 3,RD 35 5 4,RM 36 8,RC 37 KS [34,35,36],WS 5 true 4 37] [3,4,5,6,8]) .skip))) (RG [RM 26 8,RB 27 .add 26 (ki 1),RM 8 27] [3,4,5,6,8])))))) (SR [rq 38 (.iX 1 [(.v (.bool false))] (ki 3) (ki 3)),RM 9 38] [3,4,5,6,9] (.seq (SR [RV 10 (ki 0)] [3,4,5,6,9,10] (.block 4 (.loop (.seq (SR [RM 39 10,RB 40 .leq 39 (ki 3)] [3,4,5,6,9,10,40] (.cond 40 .skip (.exit 4))) (.seq (.block 5 (RG [RD 43 3 3,RD 44 5 4,RM 45 10,RM 46 9,RC 47 OC [43,44,45,46],WS 5 true 4 47] [3,4,5,6,9,10])) (RG [RM 41 10,RB 42 .add 41 (ki 1),RM 10 42] [3,4,5,6,9,10])))))) (.seq (SR [RV 11 (ki 0)] [3,4,5,6,11] (.block 6 (.loop (.seq (SR [RM 48 11,RB 49 .lss 48 (ki 3)] [3,4,5,6,11,49] (.cond 49 .skip (.exit 6))) (.seq (.block 7 (SR [RF 52 2 5,RL 53 52,RM 54 11,RI 55 1 53 54,RL 56 55,RM 57 56,GQ 58 (.load 3 true 3) 57 true,GQ 59 (.load 5 true 4) 57 true,GM 60 11 57 true,GQ 61 (.call IT [58,59,60]) 57 true,RP 62 57 61 kF] [3,4,5,6,11,62] (.cond 62 (SR [RF 63 2 4,RW 64 63 [15] [] true,RM 65 11,RF 66 2 4,RW 67 66 [15] [] false,RM 68 11,RI 69 4 67 68,RF 70 1 69,RW 71 70 [15] [] false,RF 72 2 4,RL 73 72,RM 74 11,RI 75 4 73 74,RF 76 0 75,RL 77 76,rq 78 (.bY 1 1 [VZ] [(0,1,77)]),RX 79 (.append 1 71 78) [] [1] false,RI 80 4 64 65,RF 81 1 80,WS 1 false 81 79] [3,4,5,6,11] (RG [RF 82 2 4,RL 83 82,RM 84 11,RF 85 2 4,RL 86 85,RM 87 11,RI 88 4 86 87,RF 89 0 88,RL 90 89,RB 91 .add 90 (ki 1),RI 92 4 83 84,RF 93 0 92,WS 1 false 93 91] [3,4,5,6,11])) .skip))) (RG [RM 50 11,RB 51 .add 50 (ki 1),RM 11 51] [3,4,5,6,11])))))) (SR [RD 94 5 4,WS 5 true 6 94] [6] .ret)))))))
def O2:List aR:=[.cell 6 5 true]
theorem qk:aK an2 Tryz.f77 (aV vG)=some (vG,O2):=by kernel_rfl
def yC:AC:= (SR [RO 1 0,RA 2 [OZ,OZ,OZ,OZ,OZ]] [1,2] (.seq (.region [RF 8 0 1 0,RX 9 (.load 2 true 8) [7] [] false 1,RF 11 4 1 3,RW 12 11 [7] [] true 4,RA 3 [OZ,OZ,OZ,OZ,OZ] 7,RX 10 (.call mO [9]) [7] [4] false 2,RX 13 (.call fY [12]) [7] [] false 5,rq 14 (.build [OZ,OZ,OZ,OZ,OZ] [(0,2,10),(4,1,13)]) 6,WS 5 true 3 14 8] 9 [1,2,3]) (.seq (SR [RV 4 (ki 0)] [1,2,3,4] (.block 0 (.loop (.seq (SR [RM 15 4,RF 16 2 1,RL 17 16,RN 18 17,RB 19 .lss 15 18] [1,2,3,4,19] (.cond 19 .skip (.exit 0))) (.seq (.block 1 (SR [RF 22 2 1,RL 23 22,RM 24 4,RI 25 4 23 24,RD 26 4 25,RA 5 [VZ,OZ,OZ,VZ],WS 4 true 5 26] [1,2,3,4,5] (.region [RF 27 2 3 0,RW 28 27 [4,8,15] [] true 1,RF 29 0 5 2,RW 30 29 [4,8,15] [] true 3,rq 31 (.bY 1 0 [VZ] []) 4,RF 32 1 5 5,RW 33 32 [4,8] [] false 6,rq 35 (.bY 3 0 [VZ,VZ,VZ] []) 8,RF 36 2 5 9,RW 37 36 [4,8,15] [] true 10,RF 39 3 5 12,RW 40 39 [4,8,15] [] true 13,RX 34 (.append 1 31 33) [8] [1,3,10,13] false 7,RX 38 (.append 3 35 37) [] [1,3,13] false 11,rq 41 (.build [VZ,OZ,OZ,VZ] [(0,1,30),(1,1,34),(2,1,38),(3,1,40)]) 14,rq 42 (.bY 4 1 [VZ,OZ,OZ,VZ] [(0,4,41)]) 15,rq 43 (.append 4 28 42) 16,RF 44 2 3 17,WS 1 false 44 43 18] 19 [1,2,3,4]))) (RG [RM 20 4,RB 21 .add 20 (ki 1),RM 4 21] [1,2,3,4])))))) (.seq (SR [RV 6 (ki 0)] [1,2,3,6] (.block 2 (.loop (.seq (SR [RM 45 6,RF 46 3 1,RL 47 46,RN 48 47,RB 49 .lss 45 48] [1,2,3,6,49] (.cond 49 .skip (.exit 2))) (.seq (.block 3 (SR [RF 52 3 1,RL 53 52,RM 54 6,RI 55 3 53 54,RD 56 3 55,RA 7 [OZ,OZ,VZ],WS 3 true 7 56] [1,2,3,6,7] (.region [RF 57 3 3 0,RW 58 57 [2,12] [] true 1,rq 59 (.bY 3 0 [VZ,VZ,VZ] []) 2,RF 60 0 7 3,RW 61 60 [2] [] false 4,RF 63 1 7 6,RW 64 63 [2,12] [] true 7,RF 66 2 7 9,RW 67 66 [2,12] [] true 10,RX 62 (.append 3 59 61) [] [1,7,10] false 5,RX 65 (.call fY [64]) [] [1,10] false 8,rq 68 (.build [OZ,OZ,VZ] [(0,1,62),(1,1,65),(2,1,67)]) 11,rq 69 (.bY 3 1 [OZ,OZ,VZ] [(0,3,68)]) 12,rq 70 (.append 3 58 69) 13,RF 71 3 3 14,WS 1 false 71 70 15] 16 [1,2,3,6]))) (RG [RM 50 6,RB 51 .add 50 (ki 1),RM 6 51] [1,2,3,6])))))) (SR [RD 72 5 3,WS 5 true 2 72] [2] .ret)))))
def S5:List aR:=[.cell 2 5 true]
theorem xz:aK an2 Tryz.f103 (aV yC)=some (yC,S5):=by kernel_rfl
def zY:AC:= (SR [RO 2 0,RV 4 (ki 0)] [1,2] (.seq (SR [RV 5 (ki 1)] [1,2,5] (.block 0 (.loop (.seq (SR [RM 7 5,RB 8 .leq 7 (ki 4)] [1,2,5,8] (.cond 8 .skip (.exit 0))) (.seq (.block 1 (SR [RF 11 2 2,RL 12 11,RM 13 1,RI 14 4 12 13,RF 15 3 14,RL 16 15,RM 17 5,RB 18 .add 16 17,RB 19 .rem 18 (ki 4),RM 6 19] [1,2,5,6] (SR [RF 20 3 2,RL 21 20,RM 22 6,RI 23 3 21 22,RF 24 1 23,RL 25 24,RN 26 25,RB 27 .gtr 26 (ki 0),RM 28 27,GF 29 3 2 28 true,GL 30 29 28 true,GM 31 6 28 true,GI 32 3 30 31 28 true,GF 33 1 32 28 true,GL 34 33 28 true,GI 35 5 34 (ki 0) 28 true,GF 36 0 35 28 true,GL 37 36 28 true,GM 38 1 28 true,GB 39 .eql 37 38 28 true,RP 40 28 39 kF] [1,2,5,6,40] (.cond 40 (SR [RM 41 6,RM 4 41] [4] .ret) .skip)))) (RG [RM 9 5,RB 10 .add 9 (ki 1),RM 5 10] [1,2,5])))))) (SR [rq 4 (.move (.kv (.int .i64 (-1))))] [4] .ret)))
def SE:List aR:=[.tm 4]
theorem wq:aK an2 Tryz.f120 (aV zY)=some (zY,SE):=by kernel_rfl
def zJ:AC:= (SR [RO 2 0,RA 4 [OZ,OZ,OZ,OZ,OZ]] [1,2,4] (SR [RD 7 5 2,RM 8 1,RC 9 LI [7,8],RM 5 9] [1,2,4,5] (.seq (SR [RM 10 5,RB 11 .lss 10 (ki 0)] [1,2,4,5,11] (.cond 11 (SR [RD 12 5 2,WS 5 true 4 12] [4] .ret) .skip)) (SR [RF 13 3 2,RL 14 13,RM 15 5,RI 16 3 14 15,RF 17 1 16,RL 18 17,RI 19 5 18 (ki 0),RD 20 5 19,RA 6 [VZ,VZ,VZ,VZ,OZ],WS 5 true 6 20] [1,2,4,5,6] (SR [RF 21 3 2,RW 22 21 [] [] true,RM 23 5,RF 24 3 2,RL 25 24,RM 26 5,RI 27 3 25 26,RF 28 1 27,RL 29 28,rq 30 (.slc 5 29 (some (ki 1)) none none),RX 31 (.call fY [30]) [] [1] false,RI 32 3 22 23,RF 33 1 32,WS 1 false 33 31] [1,2,4,5,6] (SR [RF 34 2 2,RW 35 34 [] [] true,RM 36 1,RF 37 2 2,RL 38 37,RM 39 1,RI 40 4 38 39,RF 41 2 40,RL 42 41,RF 43 1 6,RL 44 43,RX 45 (.call KV [42,44]) [] [1] false,RI 46 4 35 36,RF 47 2 46,WS 1 false 47 45] [1,2,4,5,6] (SR [RF 48 2 2,RL 49 48,RM 50 1,RM 51 5,RI 52 4 49 50,RF 53 3 52,WS 1 false 53 51] [2,4,6] (SR [RF 54 4 2,RL 55 54,RD 56 5 6,rq 57 (.bY 5 1 [VZ,VZ,VZ,VZ,OZ] [(0,5,56)]),rq 58 (.append 5 55 57),RF 59 4 2,WS 1 false 59 58] [2,4] (SR [RD 60 5 2,WS 5 true 4 60] [4] .ret)))))))))
def SP:List aR:=[.cell 4 5 true]
theorem tq:aK an2 Tryz.f121 (aV zJ)=some (zJ,SP):=by kernel_rfl
def vP:AC:= (SR [RO 2 0,RV 4 kF] [1,2] (SR [RF 6 3 2,RL 7 6,RM 8 1,RI 9 3 7 8,RD 10 3 9,RA 5 [OZ,OZ,VZ],WS 3 true 5 10] [5] (SR [RF 11 0 5,RL 12 11,RN 13 12,RB 14 .gtr 13 (ki 0),RM 15 14,GF 16 0 5 15 true,GL 17 16 15 true,GI 18 3 17 (ki 0) 15 true,GF 19 2 18 15 true,GL 20 19 15 true,GB 21 .eql 20 (ki 0) 15 true,RP 22 15 21 kF,RM 23 22,GF 24 1 5 23 true,GL 25 24 23 true,GQ 26 (.len false 25) 23 true,GB 27 .lss 26 (ki 2) 23 true,RP 28 23 27 kF,RM 4 28] [4] .ret)))
def OR:List aR:=[.tm 4]
theorem og:aK an2 Tryz.f122 (aV vP)=some (vP,OR):=by kernel_rfl
def x8:AC:= (SR [RO 3 0,RO 4 1,RA 6 [OZ,OZ,OZ,OZ,OZ]] [2,3,4,6] (SR [RF 11 3 4,RL 12 11,RM 13 2,RI 14 3 12 13,RD 15 3 14,RA 7 [OZ,OZ,VZ],WS 3 true 7 15] [2,3,4,6,7] (.seq (SR [RF 16 0 7,RL 17 16,RN 18 17,RB 19 .eql 18 (ki 0)] [2,3,4,6,7,19] (.cond 19 (SR [RD 20 5 4,WS 5 true 6 20] [6] .ret) .skip)) (.seq (SR [RD 21 5 4,RM 22 2,RC 23 HK [21,22],RU 24 23] [2,3,4,6,7,24] (.cond 24 (.seq (SR [RF 25 0 7,RL 26 25,RI 27 3 26 (ki 0),RF 28 2 27,RL 29 28,RB 30 .gtr 29 (ki 0)] [2,4,6,7,30] (.cond 30 (RG [RF 31 3 4,RL 32 31,RM 33 2,RI 34 3 32 33,RF 35 0 34,RL 36 35,RF 37 0 7,RL 38 37,RI 39 3 38 (ki 0),RF 40 2 39,RL 41 40,RB 42 .sub 41 (ki 1),RI 43 3 36 (ki 0),RF 44 2 43,WS 1 false 44 42] [4,6]) .skip)) (SR [RD 45 5 4,WS 5 true 6 45] [6] .ret)) .skip)) (SR [RF 46 0 7,RL 47 46,RI 48 3 47 (ki 0),RD 49 3 48,RA 8 [VZ,VZ,VZ],WS 3 true 8 49] [2,3,4,6,7,8] (.seq (.region [RF 51 0 3 0,RW 52 51 [20,21] [] false 1,RF 53 0 4 2,RX 54 (.load 2 true 53) [20,21] [] false 3,RF 55 0 8 4,RW 56 55 [20,21] [] false 5,RF 57 2 3 6,RW 58 57 [20,21] [] false 7,RF 59 0 8 8,RW 60 59 [20,21] [] false 9,RI 61 1 58 60 10,RW 62 61 [20,21] [] false 11,RF 63 1 8 12,RW 64 63 [20,21] [] false 13,RI 65 7 62 64 14,RX 66 (.load 7 true 65) [20,21] [] false 15,RA 9 [OZ,OZ] 20,RA 10 [VZ,VZ,OZ] 21,RX 67 (.call JV [52,54,56,66]) [20,21] [] false 16,RM 50 67 17,rq 68 (.ext 50 0) 18,rq 69 (.ext 50 1) 19,WS 2 true 9 68 22,WS 3 true 10 69 23] 24 [2,4,6,7,8,9,10]) (SR [RD 70 2 9,RF 71 0 4,WS 2 true 71 70] [2,4,6,7,8,10] (SR [RF 72 3 4,RW 73 72 [3] [] true,RM 74 2,rq 75 (.bY 3 0 [VZ,VZ,VZ] []),RF 76 0 7,RW 77 76 [3] [] false,rq 78 (.slc 3 77 (some (ki 1)) none none),RX 79 (.append 3 75 78) [] [1] false,RI 80 3 73 74,RF 81 0 80,WS 1 false 81 79] [2,4,6,7,8,10] (SR [RF 82 3 4,RW 83 82 [11] [] true,RM 84 2,RF 85 1 7,RW 86 85 [11] [] false,RF 87 0 8,RL 88 87,RF 89 1 8,RL 90 89,RD 91 3 10,rq 92 (.build [VZ,VZ,VZ,VZ,OZ] [(0,1,88),(1,1,90),(2,3,91)]),rq 93 (.bY 5 1 [VZ,VZ,VZ,VZ,OZ] [(0,5,92)]),RX 94 (.append 5 86 93) [] [1] false,RI 95 3 83 84,RF 96 1 95,WS 1 false 96 94] [4,6] (SR [RD 97 5 4,WS 5 true 6 97] [6] .ret))))))))))
def QW:List aR:=[.cell 6 5 true]
theorem xx:aK an2 Tryz.f123 (aV x8)=some (x8,QW):=by kernel_rfl
def CP:AC:= (SR [RO 4 0,RO 5 1,RA 8 [OZ,OZ,OZ,OZ,OZ]] [2,3,4,5,8] (.seq (SR [RF 13 3 5,RL 14 13,RM 15 2,RI 16 3 14 15,RF 17 0 16,RL 18 17,RN 19 18,RB 20 .eql 19 (ki 2)] [2,3,4,5,8,20] (.cond 20 (SR [RD 21 5 5,WS 5 true 8 21] [8] .ret) .skip)) (.seq (SR [RV 9 (ki 1)] [2,3,4,5,8,9] (.block 0 (.loop (.seq (SR [RM 22 9,RB 23 .leq 22 (ki 3)] [2,3,4,5,8,9,23] (.cond 23 .skip (.exit 0))) (.seq (.block 1 (SR [RF 26 3 5,RL 27 26,RM 28 2,RI 29 3 27 28,RF 30 2 29,RL 31 30,RM 32 9,RB 33 .add 31 32,RB 34 .rem 33 (ki 3),RM 10 34] [2,3,4,5,8,9,10] (SR [RM 35 3,RM 36 10,RI 37 1 35 36,RL 38 37,RU 39 38,RM 40 39,GQ 41 (.load 3 true 4) 40 true,GQ 42 (.load 5 true 5) 40 true,GM 43 10 40 true,GM 44 2 40 true,GQ 45 (.call KQ [41,42,43,44]) 40 true,RP 46 40 45 kF] [2,3,4,5,8,9,10,46] (.cond 46 (SR [RM 47 3,RM 48 10,RI 49 1 47 48,WS 1 false 49 kT] [2,4,5,8,10] (SR [RF 50 2 5,RL 51 50,RM 52 10,RI 53 4 51 52,RD 54 4 53,RA 11 [VZ,OZ,OZ,VZ],WS 4 true 11 54] [2,4,5,8,10,11] (SR [RF 55 1 11,RL 56 55,RI 57 1 56 (ki 0),RL 58 57,RM 12 58] [2,4,5,8,10,11,12] (SR [RF 59 2 5,RW 60 59 [3] [] true,RM 61 10,rq 62 (.bY 1 0 [VZ] []),RF 63 1 11,RW 64 63 [3] [] false,rq 65 (.slc 1 64 (some (ki 1)) none none),RX 66 (.append 1 62 65) [] [1] false,RI 67 4 60 61,RF 68 1 67,WS 1 false 68 66] [2,4,5,8,10,11,12] (SR [RF 69 2 5,RW 70 69 [9] [] true,RM 71 10,RF 72 2 11,RW 73 72 [9] [] false,RM 74 10,RM 75 12,RM 76 2,rq 77 (.build [VZ,VZ,VZ] [(0,1,74),(1,1,75),(2,1,76)]),rq 78 (.bY 3 1 [VZ,VZ,VZ] [(0,3,77)]),RX 79 (.append 3 73 78) [] [1] false,RI 80 4 70 71,RF 81 2 80,WS 1 false 81 79] [2,4,5,8,10,12] (SR [RF 82 3 5,RW 83 82 [17] [] true,RM 84 2,RF 85 3 5,RW 86 85 [17] [] false,RM 87 2,RI 88 3 86 87,RF 89 0 88,RW 90 89 [17] [] false,RM 91 10,RM 92 12,RF 93 1 4,RL 94 93,RM 95 2,RI 96 1 94 95,RL 97 96,rq 98 (.build [VZ,VZ,VZ] [(0,1,91),(1,1,92),(2,1,97)]),rq 99 (.bY 3 1 [VZ,VZ,VZ] [(0,3,98)]),RX 100 (.append 3 90 99) [] [1] false,RI 101 3 83 84,RF 102 0 101,WS 1 false 102 100] [2,5,8,10] (SR [RF 103 3 5,RL 104 103,RM 105 2,RM 106 10,RI 107 3 104 105,RF 108 2 107,WS 1 false 108 106] [5,8] (SR [RD 109 5 5,WS 5 true 8 109] [8] .ret)))))))) .skip)))) (RG [RM 24 9,RB 25 .add 24 (ki 1),RM 9 25] [2,3,4,5,8,9])))))) (SR [RD 110 5 5,WS 5 true 8 110] [8] .ret))))
def VS:List aR:=[.cell 8 5 true]
theorem zp:aK an2 Tryz.f124 (aV CP)=some (CP,VS):=by kernel_rfl
def vL:AC:= (SR [RO 3 0,RO 4 1,RV 6 kF] [2,3,4] (SR [RF 7 2 4,RL 8 7,RM 9 2,RI 10 4 8 9,RF 11 0 10,RL 12 11,RF 13 2 3,RL 14 13,RM 15 2,RI 16 1 14 15,RL 17 16,RN 18 17,RB 19 .lss 12 18,RM 20 19,GF 21 2 4 20 true,GL 22 21 20 true,GM 23 2 20 true,GI 24 4 22 23 20 true,GF 25 1 24 20 true,GL 26 25 20 true,GQ 27 (.len false 26) 20 true,GB 28 .lss 27 (ki 2) 20 true,RP 29 20 28 kF,RM 6 29] [6] .ret))
def O3:List aR:=[.tm 6]
theorem oj:aK an2 Tryz.f125 (aV vL)=some (vL,O3):=by kernel_rfl
def z0:AC:= (SR [RV 4 (.kv (.slice none 0 0))] [0,1] (SR [rq 7 (.bY 3 0 [VZ,VZ,VZ] []),RM 5 7] [0,1,5] (.seq (SR [RV 6 (ki 0)] [0,1,5,6] (.block 0 (.loop (.seq (SR [RM 8 6,RM 9 0,RN 10 9,RB 11 .lss 8 10] [0,1,5,6,11] (.cond 11 .skip (.exit 0))) (.seq (.block 1 (SR [RM 14 0,RM 15 6,RI 16 3 14 15,RF 17 1 16,RL 18 17,RM 19 1,RB 20 .neq 18 19] [0,1,5,6,20] (.cond 20 (RG [RM 21 5,RM 22 0,RM 23 6,RI 24 3 22 23,RD 25 3 24,rq 26 (.bY 3 1 [VZ,VZ,VZ] [(0,3,25)]),rq 27 (.append 3 21 26),RM 5 27] [0,1,5,6]) .skip))) (RG [RM 12 6,RB 13 .add 12 (ki 1),RM 6 13] [0,1,5,6])))))) (SR [RM 28 5,RM 4 28] [4] .ret))))
def SQ:List aR:=[.tm 4]
theorem yc:aK an2 Tryz.f208 (aV z0)=some (z0,SQ):=by kernel_rfl
def yI:AC:= (SR [RO 4 0,RO 5 1,RV 8 kF] [2,3,4,5] (SR [RF 12 2 5,RL 13 12,RM 14 2,RI 15 4 13 14,RD 16 4 15,RA 9 [VZ,OZ,OZ,VZ],WS 4 true 9 16] [2,3,4,9] (.seq (SR [RF 17 1 9,RL 18 17,RN 19 18,RB 20 .eql 19 (ki 0),RM 21 20,GF 22 2 9 21 false,GL 23 22 21 false,GQ 24 (.len false 23) 21 false,GB 25 .eql 24 (ki 4) 21 false,RP 26 21 kT 25] [2,3,4,9,26] (.cond 26 (SR [RV 8 kF] [8] .ret) .skip)) (SR [RF 27 2 4,RW 28 27 [11] [] false,RM 29 2,RI 30 1 28 29,RW 31 30 [11] [] false,RF 32 1 9,RW 33 32 [11] [] false,RI 34 1 33 (ki 0),RW 35 34 [11] [] false,RI 36 7 31 35,RX 37 (.load 7 true 36) [11] [] false,RA 10 [VZ,VZ,VZ,VZ,(.v (.bool false)),OZ,OZ],WS 7 true 10 37] [2,3,4,9,10] (.seq (SR [RF 38 0 4,RL 39 38,RD 40 7 10,RC 41 vE [39,40],RM 42 3,RB 43 .neq 41 42] [2,3,4,9,10,43] (.cond 43 (SR [RV 8 kF] [8] .ret) .skip)) (.seq (SR [RV 11 (ki 0)] [2,3,4,9,10,11] (.block 0 (.loop (.seq (SR [RM 44 11,RF 45 2 9,RL 46 45,RN 47 46,RB 48 .lss 44 47] [2,3,4,9,10,11,48] (.cond 48 .skip (.exit 0))) (.seq (.block 1 (SR [RF 51 2 4,RL 52 51,RM 53 2,RI 54 1 52 53,RL 55 54,RF 56 2 9,RL 57 56,RM 58 11,RI 59 3 57 58,RF 60 1 59,RL 61 60,RI 62 7 55 61,RF 63 0 62,RL 64 63,RF 65 0 10,RL 66 65,RB 67 .eql 64 66,RM 68 67,GF 69 2 9 68 true,GL 70 69 68 true,GM 71 11 68 true,GI 72 3 70 71 68 true,GF 73 2 72 68 true,GL 74 73 68 true,GM 75 3 68 true,GB 76 .neq 74 75 68 true,RP 77 68 76 kF] [2,3,4,9,10,11,77] (.cond 77 (SR [RV 8 kF] [8] .ret) .skip))) (RG [RM 49 11,RB 50 .add 49 (ki 1),RM 11 50] [2,3,4,9,10,11])))))) (SR [RV 8 kT] [8] .ret)))))))
def QT:List aR:=[.tm 8]
theorem yg:aK an2 Tryz.f210 (aV yI)=some (yI,QT):=by kernel_rfl
end Go.Proofs.YtlncecohbakleaaGreat
