/- Texts laid together by a program: rules, contracts and the walk that leads to the law. -/
import Derived.Test.YtdkfhdmagdaceaaGreatPJ3
set_option linter.unusedVariables false
set_option linter.unusedSimpArgs false
set_option linter.unusedSectionVars false
set_option maxRecDepth 100000
set_option maxHeartbeats 8000000
namespace Go.AM
open Go.RowKit
def aaS (e' e:Env):Prop:=∀t,e' t=e t∨e' t= .dead
theorem aaS.refl (e:Env):aaS e e:=fun _=>.inl rfl
theorem ER.le {c:Cf} {T:Nat} {e e':Env} {a:Act} (he:ER c T e a) (h:aaS e' e):ER c T e' a:=by
 refine⟨he.1,he.2.1,fun t=> ?_⟩;rcases h t with b|b;·rw[b];exact he.2.2 t
 ·rw[b];exact trivial
section
variable {P : Program} {T : Nat} {e : Env} {H : aA} {nx : Nat} {Q : AQ}
theorem AWP.le {x:AC} {e':Env} (b:aaS e' e) (h:AWP P T x e' H nx Q):AWP P T x e H nx Q:=fun code d c a f he g=>h code d c a f (he.le b) g
theorem aM.le {x:AC} {zs:List AC} {e':Env} (a:aaS e' e) (h:aM P T (x::zs) e' H nx Q):aM P T (x::zs) e H nx Q:=AWP.le a h
theorem aB.ofH {f:FuncId} {fn:Func} {code:Code} {ac:AC} {rs:List aW} {cs m:List Cert} {args:List D} {K:D→aA→Nat→Prop}
 (n:qY P f=true) (z:P.funcs[f]?=some fn) (A:fn.body=some code) (B:compile P fn.ntmps code cs=some (ac,m)) (hr:AJ P fn.results.toList=some rs) (hl:args.length≤fn.ntmps)
 (h: ∀Q:AQ,(∀ex e' H' b d,ex= .normal∨ex= .ret→yT H' e' rs=some d→K d H' b→Q ex e' H' b)→AWP P fn.ntmps ac (Env.args 0 args) H nx Q):aB P f args H nx K:=by
 refine⟨n,fun c vs C E hlen k=> ?_⟩
 apply calls_of_wp z A
 have o:=JA _ _ _ _ B
 have p:ER c fn.ntmps (Env.args 0 args) {tmps:=vs.toArray++Array.replicate (fn.ntmps-vs.toArray.size) undef,defers:=[]}:=by
  refine⟨by simp;omega,rfl,fun t=> ?_⟩;rw[Env.ML];simp only[bxY,if_true,Nat.sub_zero]
  cases l:args[t]? with
  |none=>exact trivial
  |some d=>have s:t<vs.length:=(by rw[hlen];exact(m3.1 l).1);have q:(vs.toArray++Array.replicate (fn.ntmps-vs.toArray.size) undef).getD t undef=vs[t]:=(by rw[boK,Y6];simp[s]);rw[q];exact k t d _ l (n1 s)
 refine wp_mono (h _ (fun ex e' H' b d F G I=>(⟨F,d,G,I⟩:(ex= .normal∨ex= .ret)∧ ∃d,yT H' e' rs=some d∧K d H' b)) code o c _ C p E) ?_
 rintro ex a w ⟨J,e',H',b,c',rfl,rfl,u,L,x,M,O,R,d,S,T⟩
 obtain⟨v,q,l⟩:=aa3 u x hr S
 have g:a.defers=[]∧ ∃v,(results fn a.tmps).run P c'.w= .ok v c'.w∧ ∃y e r j b,Ending.returned v= .returned y∧e.w=c'.w∧St e j∧Step c H e j∧(∀i,e.N i→c.N i∨(nx≤i∧i<b))∧nx≤b∧fD e r y∧K r j b:=⟨x.2.1,v,q,v,c',d,H',b,rfl,rfl,u,L,M,O,l,T⟩
 rcases R with rfl|rfl
 ·exact g
 ·exact g
def cJ (P:Program) (f:FuncId) (fn:Func) (ac:AC) (rs:List aW):Prop:=
 ∀{args:List D} {H:aA} {nx:Nat} {c:D→aA→Nat→Prop} (_hl:Nat.ble args.length fn.ntmps=true)
  (_h: ∀Q:AQ,(∀ex e b a d,ex= .normal∨ex= .ret→yT b e rs=some d→c d b a→Q ex e b a)→aM P fn.ntmps [ac] (Env.args 0 args) H nx Q),aB P f args H nx c
theorem cJ.mk {P:Program} {f:FuncId} {fn:Func} {ac:AC} {rs:List aW} {cs:List Cert}
 (d:P.funcs[f]?=some fn) (c:qY P f=true) (a:aO P fn cs=some (ac,rs)):cJ P f fn ac rs:=by
 intro args H nx n hl h
 unfold aO at a
 split at a
 ·rename_i b e;split at a;·rename_i g i j k l;simp only[Option.some.injEq,Prod.mk.injEq] at a;obtain⟨rfl,rfl⟩:=a;exact aB.ofH c d e k l (boM hl) fun Q m=>(h Q m).run
  ·simp at a
 ·simp at a
end
def CvX (F:Nat→Prop) (nx:Nat) (H H':aA):Prop:=∀i a,H' i=some a→¬F i∧ ∃o,H i=some o∧(a=o∨CvO H F id nx a o)
variable{nx:Nat}
theorem MR{c:Cf}{I':Nat→Prop} (k: ∀b,c.I b→I' b) (g: ∀i,c.N i→i<nx){d:D1}{x:Value} (h:Rel c d x):Rel (c.conv nx nx id I') d x:=by
 have j: ∀d x,bY c d x→bY (c.conv nx nx id I') d x:=by
  intro d x h
  cases d<;>simp only[bY] at h ⊢ <;>first
   |exact h.wT k (fun _ _=>rfl)
   |exact⟨h.1,h.2.imp (fun h=>h) fun⟨e,a,l⟩=>⟨e,.inl ⟨g _ a,a⟩,l⟩⟩
   |exact⟨.inl ⟨g _ h.1,h.1⟩,h.2⟩
   |exact h
 cases d with
 |clo f caps=>obtain⟨vs,m,hl,n⟩:=h;exact⟨vs,m,hl,fun i d u e a=>j _ _ (n i d u e a)⟩
 |_=>simp only[Rel] at h ⊢;exact j _ _ h
theorem ac6{c:Cf}{I':Nat→Prop} (j: ∀b,c.I b→I' b) (k: ∀i,c.N i→i<nx){d:D}{x:Value} (h:fD c d x):fD (c.conv nx nx id I') d x:=by
 have l: ∀d x,jZ c d x→jZ (c.conv nx nx id I') d x:=by
  intro d x h
  cases d with
  |c d=>exact MR j k h
  |agg cs=>obtain⟨vs,a,hl,e⟩:=h;exact⟨vs,a,hl,fun i d u f g=>MR j k (e i d u f g)⟩
 cases d with
 |one d=>exact l d x h
 |tup m=>obtain⟨vs,a,hl,e⟩:=h;exact⟨vs,a,hl,fun i d u f g=>l d u (e i d u f g)⟩
 |dead=>trivial
theorem YO{c c0:Cf}{H H0 H':aA}{F:Nat→Prop} (g:St c H) (a:Step c0 H0 c H) (C: ∀i,c.N i→i<nx) (D:CvX F nx H H'):
 St (c.conv nx nx id (c.frI H F)) H'∧Step c0 H0 (c.conv nx nx id (c.frI H F)) H':=by
 have boT: ∀{i:Nat} {f:bA},H' i=some f→¬F i∧ ∃o,H i=some o∧f.n=o.n∧f.ext=o.ext∧f.rows.length≤o.rows.length∧(o.n=0→f.rows=[]→o.rows=[]):=by
  intro i f h;obtain⟨s,o,e,rfl|l⟩:=D i f h;·exact⟨s,_,e,rfl,rfl,m5 _,fun _ h=>h⟩
  ·exact⟨s,o,e,l.1,l.2.1,l.2.2.1,l.2.2.2.1⟩
 refine⟨?_,?_⟩
 ·refine {named:= ?_,wf:= ?_,blk:= ?_,cells:= ?_,sep:= ?_,imm:= ?_,old:= ?_};·intro id f h;obtain⟨_,o,e,_⟩:=boT h;exact .inl ⟨C _ (g.named _ o e),g.named _ o e⟩
  ·intro id f h;obtain⟨_,o,e,rfl|⟨l,y,E,_,R⟩⟩:=D id f h;·exact g.wf _ _ e
   ·obtain⟨z,m⟩:=g.wf _ o e;refine⟨by omega,fun i r hr=> ?_⟩;obtain⟨A,G,S⟩:=R i r hr;rw[S.1,m i A G,l]
  ·intro id f h he;obtain⟨_,o,e,l,y,E,G⟩:=boT h;exact(g.blk _ o e (by omega)).arW l y fun T=>⟨G T,fun hr=>by rw[hr] at E;exact H4.1 (by simpa using E)⟩
  ·intro id f i j r d h s e;obtain⟨_,o,m,rfl|⟨q,J,W,_,K⟩⟩:=D id f h;·obtain⟨u,L,t⟩:=g.cells _ _ i j r d m s e;exact⟨u,L,MR (fun b h=>.inl h) C t⟩
   ·obtain⟨A,Q,M⟩:=K i r s;have B:j<A.length:=(by rw[←M.1];exact(m3.1 e).1);obtain⟨u,L,t⟩:=g.cells _ o i j A _ m Q (n1 B);refine⟨u,by rw[q];exact L,?_⟩;exact PM g (fun b h=>.inl h) (fun id o s e l=>.inr ⟨id,o,s,e,l,rfl⟩) (fun _ _=>rfl) (M.2 j d _ e (n1 B)) t
  ·intro i j o f hi B he U v;obtain⟨_,V,m,q,J,_⟩:=boT hi;obtain⟨_,w,K,Q,M,_⟩:=boT B;exact g.sep i j V w m K (by omega) (by omega) v
  ·intro i f h he;obtain⟨O,o,e,l,y,_⟩:=boT h;rintro(x|⟨k,w,z,m,q,J⟩);·exact g.imm _ o e (by omega) x
   ·have v:k≠i:=(by rintro rfl;exact O z);exact g.sep k i w o m e q (by omega) v J
  ·rintro b (x|⟨k,w,z,m,q,rfl⟩);·exact g.old b x
   ·exact(g.blk k w m q).lt
 ·exact {
   ρ:=fun i p=>a.ρ i p
   N:=fun i p=>.inl ⟨C i (a.N i p),a.N i p⟩
   I:=fun b P=>.inl (a.I b P)
   I':=by
    rintro b (x|⟨k,w,z,m,q,rfl⟩);·exact a.I' b x
    ·exact .inr (a.own _ ⟨k,w,m,q,rfl⟩)
   size:=a.size
   os:=a.os
   tape:=a.tape
   output:=a.output
   frame:=a.frame
   own:=by rintro b ⟨id,f,h,he,P⟩;obtain⟨_,o,e,l,y,_⟩:=boT h;exact a.own b ⟨id,o,e,by omega,P⟩}
theorem aK{H:aA}:CvX noF nx H H:=fun _ o h=>⟨fun h=>h,o,h,.inl rfl⟩
theorem aM.gP{P:Program}{T:Nat}{e:Env}{H:aA}{Q:AQ}{x:AC}{zs:List AC}{β:Type} (E:β→Env) (Φ:β→aA→Nat→Prop) (μ:β→Nat) (boW:β) (M: ∃F H1,CvE H F id nx (E boW) e∧CvX F nx H H1∧Φ boW H1 nx)
 (h: ∀b H1 d,nx≤d→Φ b H1 d→∀K:Env→aA→Nat→Prop,(∀e' H' f j F g,d≤f→μ j<μ b→CvE H' F id f (E j) e'→CvX F f H' g→Φ j g f→K e' H' f)→aM P T [x] (E b) H1 d (AQ.then K Q)):aM P T (.loop x::zs) e H nx Q:=by
 intro code O c a R he r
 obtain⟨bp6,H0,S,U,V⟩:=M
 have m: ∀{c1:Cf} {H1 g:aA} {d:Nat} {F:Nat→Prop} {s u:Env} {a:Act},St c1 H1→Step c H c1 H1→(∀i,c1.N i→i<d)→ER c1 T s a→CvE H1 F id d u s→CvX F d H1 g→
  ∃c2:Cf,c2.w=c1.w∧St c2 g∧Step c H c2 g∧ER c2 T u a∧ ∀i,c2.N i→c1.N i:=by
  intro c1 H1 g d F s u a I W X v Y Z
  obtain⟨J,y⟩:=YO I W X Z
  refine⟨c1.conv d d id (c1.frI H1 F),rfl,J,y,⟨v.1,v.2.1,fun t=>zD I (fun b h=>.inl h) (fun id o l p q=>.inr ⟨id,o,l,p,q,rfl⟩) (fun _ _=>rfl) (Y t) (v.2.2 t)⟩,fun i hi=> ?_⟩
  rcases hi with⟨_,hi⟩|⟨l,p,q⟩
  ·exact hi
  ·omega
 cases O with
 |loop l=>
  obtain⟨c1,r1,r2,r3,r4,r5⟩:=m R (Step.refl c H) r he S U;refine wp_loop_ghost (fun n a w=>∃b c1 H1 d,μ b=n∧c1.w=w∧St c1 H1∧ER c1 T (E b) a∧Step c H c1 H1∧(∀i,c1.N i→c.N i∨(nx≤i∧i<d))∧nx≤d∧Φ b H1 d) (μ boW) ⟨boW,c1,H0,nx,rfl,r1,r2,r4,r3,fun i hi=>.inl (r5 i hi),m5 _,V⟩ ?_;rintro n a w ⟨b,c1,H1,d,rfl,rfl,j1,j2,z,L,j5,j6⟩;refine wp_mono (h b H1 d j5 j6 (fun e' H' f=>∃j F g,d≤f∧μ j<μ b∧CvE H' F id f (E j) e'∧CvX F f H' g∧Φ j g f) (fun _ _ _ j F g l p q h4 h5=>⟨j,F,g,l,p,q,h4,h5⟩) _ l c1 a j1 j2 fun i hi=> ?_) fun ex a' w' ⟨A,e',H',f,c',hp⟩=> ?_
  ·rcases L i hi with h|h;·have:=r i h;omega
   ·omega
  ·obtain⟨rfl,rfl,B,C,D,p4,p5,G⟩:=hp
   have k: ∀i,c'.N i→c.N i∨(nx≤i∧i<f):=by
    intro i hi;rcases p4 i hi with h|h
    ·rcases L i h with h|h;·exact .inl h
     ·exact .inr ⟨h.1,by omega⟩
    ·exact .inr ⟨by omega,h.2⟩
   cases A with
   |normal=>obtain⟨j,F,g,J,y,q3,q4,q5⟩:=G;obtain⟨c2,s1,s2,bp7,bp8,bp9⟩:=m B (z.trans C) (fun i hi=>by rcases k i hi with h|h;have:=r i h;omega;exact h.2) D q3 q4;exact⟨μ j,y,j,c2,g,f,rfl,s1,s2,bp8,bp7,fun i hi=>k i (bp9 i hi),by omega,q5⟩
   |exit id=>exact⟨.exit id,e',H',f,c',rfl,rfl,B,z.trans C,D,k,by omega,G⟩
   |ret=>exact⟨.ret,e',H',f,c',rfl,rfl,B,z.trans C,D,k,by omega,G⟩
theorem aB.tW {P:Program} {f:FuncId} {args:List D} {H:aA} {nx:Nat} {K:D→aA→Nat→Prop}
 (h:aB P f args H nx fun r H' g=>∃a d F,CvD H' F id g a r∧CvX F g H' d∧K a d g):aB P f args H nx K:=by
 refine⟨h.1,fun c vs s k hl hr=> ?_⟩
 refine(h.2 c vs s k hl hr).mono ?_
 rintro x G ⟨v,c2,r,d,e,rfl,rfl,l,t,m,u,w,a,y,F,z,A,B⟩
 have j: ∀i,c2.N i→i<e:=fun i hi=>by
  rcases m i hi with h|h;·have:=k i h;omega
  ·exact h.2
 obtain⟨C,E⟩:=YO l t j A
 refine⟨v,c2.conv e e id (c2.frI d F),a,y,e,rfl,rfl,C,E,fun i hi=> ?_,u,zD l (fun b h=>.inl h) (fun id o n p q=>.inr ⟨id,o,n,p,q,rfl⟩) (fun _ _=>rfl) z w,B⟩
 rcases hi with⟨_,hi⟩|⟨n,p,q⟩
 ·exact m i hi
 ·omega
section
variable {P : Program} {T : Nat} {e : Env} {H : aA} {nx : Nat} {Q : AQ}
theorem AWP.tW {x:AC} (e':Env) (H':aA) (F:Nat→Prop) (n: ∀t,e' t=e t∨CvD H F id nx (e' t) (e t)) (p:CvX F nx H H') (h:AWP P T x e' H' nx Q):AWP P T x e H nx Q:=by
 intro code q c a m he f;obtain⟨r,s⟩:=YO m (Step.refl c H) f p;refine wp_mono (h code q (c.conv nx nx id (c.frI H F)) a r ⟨he.1,he.2.1,fun t=> ?_⟩ fun i hi=> ?_) ?_
 ·rcases n t with d|d;·rw[d];exact ac6 (fun b h=>.inl h) f (he.2.2 t)
  ·exact zD m (fun b h=>.inl h) (fun id o d g j=>.inr ⟨id,o,d,g,j,rfl⟩) (fun _ _=>rfl) d (he.2.2 t)
 ·rcases hi with⟨_,hi⟩|⟨d,g,j⟩
  ·exact f i hi
  ·omega
 ·rintro ex a w ⟨k,e',H',l,c',rfl,rfl,u,v,y,z,A,B⟩;refine⟨k,e',H',l,c',rfl,rfl,u,s.trans v,y,fun i hi=> ?_,A,B⟩;rcases z i hi with h|h
  ·rcases h with⟨_,hi⟩|⟨d,g,j⟩
   ·exact .inl hi
   ·omega
  ·exact .inr h
theorem aM.tW {x:AC} {zs:List AC} (e':Env) (H':aA) (F:Nat→Prop) (a: ∀t,e' t=e t∨CvD H F id nx (e' t) (e t)) (b:CvX F nx H H') (h:aM P T (x::zs) e' H' nx Q):aM P T (x::zs) e H nx Q:=AWP.tW e' H' F a b h
end
def D1.free:D1→Bool
 | .v _| .osl .. | .ptr .. | .dead=>true
 | .isl rows=>rows.isEmpty
 |_=>false
def D.free:D→Bool
 | .one x=>x.cells.all D1.free
 | .tup xs=>xs.all fun x=>x.cells.all D1.free
 | .dead=>true
def bE9 (H:aA):Prop:=∀i o,H i=some o→∀r∈o.rows,∀d∈r,d.free=true
section
variable {P : Program} {H : aA}
theorem bE7 {c2 c3:Cf} {t:Nat→Nat} (g: ∀i,c2.N i→c3.N (t i)) (c: ∀i,c2.N i→c3.ρ (t i)=c2.ρ i) {d:D1} (j:d.free=true) {x:Value} (h:Rel c2 d x):Rel c3 (rn1 t d) x:=by
 cases d<;>simp only[D1.free,CC] at j
 case v y=>
  simp only[Rel,bY] at h;simp only[rn1,rn0,Rel,bY]
  cases h with
  |v _ h=>exact .v _ h
 case isl rows=>
  have hr:rows=[]:=List.isEmpty_iff.1 j;subst hr;simp only[Rel,bY] at h;simp only[rn1,rn0,Rel,bY]
  cases h with
  |isl _ a cap n b o f q e r s hr=>exact .isl [] a cap 0 0 0 (fun _ _=>undef) (by simp) e (by simp) (by simp) (by simp)
 case osl n id off len cap=>simp only[Rel,bY] at h;simp only[rn1,rn0,Rel,bY];exact⟨h.1,h.2.imp (fun h=>h) fun⟨l,k,m⟩=>⟨l,g _ k,by rw[c _ k];exact m⟩⟩
 case ptr n id row p=>simp only[Rel,bY] at h;simp only[rn1,rn0,Rel,bY];exact⟨g _ h.1,by rw[c _ h.1];exact h.2⟩
 case dead=>simp only[Rel,bY] at h;simp only[rn1,rn0,Rel,bY];exact h
theorem bFO {c2 c3:Cf} {t:Nat→Nat} (e: ∀i,c2.N i→c3.N (t i)) (a: ∀i,c2.N i→c3.ρ (t i)=c2.ρ i) {d:DV} (f:d.cells.all D1.free=true) {x:Value} (h:jZ c2 d x):jZ c3 (rnV t d) x:=by
 cases d with
 |c d=>exact bE7 e a (by simpa [DV.cells] using f) h
 |agg m=>obtain⟨vs,j,hl,k⟩:=h;refine⟨vs,j,by simp[hl],fun i d u b l=> ?_⟩;simp only[p0,m4] at b;obtain⟨g,b,rfl⟩:=b;exact bE7 e a (w2.1 f g (s3 b)) (k i g u b l)
theorem bFW {c2 c3:Cf} {t:Nat→Nat} (c: ∀i,c2.N i→c3.N (t i)) (a: ∀i,c2.N i→c3.ρ (t i)=c2.ρ i) {d:D} (e:d.free=true) {x:Value} (h:fD c2 d x):fD c3 (rnD t d) x:=by
 cases d with
 |one d=>exact bFO c a e h
 |dead=>trivial
 |tup l=>obtain⟨vs,g,hl,j⟩:=h;refine⟨vs,g,by simp[hl],fun i d u b k=> ?_⟩;simp only[p0,m4] at b;obtain⟨f,b,rfl⟩:=b;exact bFO c a (w2.1 e f (s3 b)) (j i f u b k)
theorem aB.bFZ {f:FuncId} {args0 args:List D} {nx:Nat} {K:D→aA→Nat→Prop} {R:D→aA→Nat→Prop} (h:aB P f args0 .nil 0 fun r H' n'=>(r.free=true∧bE9 H')∧R r H' n') (hlen:args.length=args0.length)
 (Z: ∀(i:Nat) (d0 d:D),args0[i]?=some d0→args[i]?=some d→CvD H (fun _=>True) id 0 d0 d) (hK: ∀r H' n',R r H' n'→K (rnD (fun i=>nx+i) r) (back (fun i=>nx+i) H' n' H) (nx+n')):aB P f args H nx K:=by
 refine⟨h.1,fun c vs s hN hl hr=> ?_⟩
 have aa:Step {c with N:=fun _=>False} H c H:={
  ρ:=fun id h=>h.elim
  N:=fun id h=>h.elim
  I:=fun b h=>h
  I':=fun b h=>.inl h
  size:=m5 _
  os:=rfl
  tape:=rfl
  output:=rfl
  frame:=fun _ _ _=>rfl
  own:=fun b h=>.inl h}
 have ad:=(adN (nx:=0) (nh:=0) (σ:=id) (F:=fun _=>True) (H':=.nil) s aa (fun _ h=>h.elim) (m5 0) (fun i hi=>rfl) ⟨fun id o h=>(by cases h),fun i j o o' h=>(by cases h)⟩).1
 obtain⟨c1,C⟩: ∃c1,c1=c.conv 0 0 id (c.frI H fun _=>True):=⟨_,rfl⟩
 rw[←C] at ad
 have Q:c1.w=c.w:=by rw[C];rfl
 have e2: ∀b,c.I b→c1.I b:=fun b A=>by rw[C];exact .inl A
 have e4: ∀i,¬c1.N i:=fun i hi=>by rw[C] at hi;rcases hi with⟨h,_⟩|⟨_,p,_⟩<;>omega
 have E:=h.2 c1 vs ad (fun i hi=>(e4 i hi).elim) (by rw[hl,hlen]) (fun i d0 v p e=>by
  have hi:i<args.length:=by rw[hlen];exact(m3.1 p).1
  have:=zD (nx:=0) s (I':=c.frI H fun _=>True) (fun b h=>.inl h) (fun id o p e m=>.inr ⟨id,o,p,e,m,rfl⟩) (fun i hi=>rfl) (Z i d0 _ p (n1 hi)) (hr i _ v (n1 hi) e)
  rw[C];exact this)
 rw[Q] at E
 apply E.mono
 rintro x w' ⟨v,c2,r,H2,Y,rfl,rfl,B,p2,p3,p4,p5,⟨p6,p7⟩,bk9⟩
 have ae: ∀b,¬uG c1 .nil b:=by rintro b ⟨id,o,h,_⟩;cases h
 have G: ∀b,b<c.w.heap.size→c2.w.heap[b]?=c.w.heap[b]?:=fun b A=>by rw[←Q];exact p2.frame b (by rw[Q];exact A) (ae b)
 have y: ∀i o,H2 i=some o→0<o.ext→c.w.heap.size≤(c2.ρ i).1:=fun i o p e=>by
  rcases p2.own _ ⟨i,o,p,e,rfl⟩ with h|h;·exact(ae _ h).elim
  ·rw[←Q];exact h
 obtain⟨t,ht⟩: ∃t:Nat→Nat,t=fun i=>nx+i:=⟨_,rfl⟩
 have S: ∀i,t i=nx+i:=fun i=>by rw[ht]
 have ag: ∀i,c2.N i→i<Y:=fun i hi=>(p3 i hi).elim (fun h=>(e4 i h).elim) fun h=>h.2
 obtain⟨c3,J⟩: ∃c3:Cf,c3= {ρ:=fun j=>if j<nx then c.ρ j else c2.ρ (j-nx),N:=fun j=>c.N j∨(nx≤j∧c2.N (j-nx)),I:=c.I,w:=c2.w}:=⟨_,rfl⟩
 have L:c3.w=c2.w:=by rw[J]
 have q2:c3.I=c.I:=by rw[J]
 have T: ∀j,j<nx→c3.ρ j=c.ρ j:=fun j hj=>by rw[J];simp only;rw[if_pos hj]
 have q4: ∀j,c3.N j↔c.N j∨(nx≤j∧c2.N (j-nx)):=fun j=>by rw[J]
 have q5: ∀i,c2.N i→c3.N (t i):=fun i hi=>by rw[q4,S];exact .inr ⟨by omega,by rw[bGU];exact hi⟩
 have O: ∀i,c2.N i→c3.ρ (t i)=c2.ρ i:=fun i hi=>by rw[J,S];simp only;rw[if_neg (by omega),bGU]
 have z: ∀j o,H j=some o→0<o.ext→(c.ρ j).1<c.w.heap.size:=fun j o n he=>(s.blk j o n he).lt
 have q: ∀j o,H j=some o→j<nx:=fun j o n=>hN j (s.named j o n)
 have hB: ∀j o,back t H2 Y H j=some o→(∃i g,i<Y∧t i=j∧H2 i=some g∧o=g.rn t)∨H j=some o:=by
  intro j o n;rcases WM t H2 H Y j (fun a b _ _ ah=>by rw[S,S] at ah;omega) with⟨i,p,e,m⟩|⟨p,e⟩
  ·rw[m] at n;simp only[m4] at n;obtain⟨g,h4,rfl⟩:=n;exact .inl ⟨i,g,p,e,h4,rfl⟩
  ·rw[e] at n;exact .inr n
 have M:Step c H c3 (back t H2 Y H):={
  ρ:=fun j hj=>T j (hN j hj)
  N:=fun j hj=>(q4 j).2 (.inl hj)
  I:=fun b A=>by rw[q2];exact A
  I':=fun b A=>by rw[q2] at A;exact .inl A
  size:=by rw[L,←Q];exact p2.size
  os:=by rw[L,←Q];exact p2.os
  tape:=by rw[L,←Q];exact p2.tape
  output:=by rw[L,←Q];exact p2.output
  frame:=fun b A _=>by rw[L];exact G b A
  own:=by
   rintro b ⟨j,o,k1,k2,rfl⟩;rcases hB j o k1 with⟨i,g,p,rfl,m,rfl⟩|e;·rw[O i (B.named i g m)];exact .inr (y i g m k2)
   ·exact .inl ⟨j,o,e,k2,by rw[T j (q j o e)]⟩}
 refine⟨v,c3,rnD t r,back t H2 Y H,nx+Y,rfl,L,?_,M,?_,by omega,bFW q5 O p6 p5,by rw[ht];exact hK r H2 Y bk9⟩
 ·refine {named:= ?_,wf:= ?_,blk:= ?_,cells:= ?_,sep:= ?_,imm:= ?_,old:= ?_}
  ·intro j o n;rcases hB j o n with⟨i,g,p,rfl,m,rfl⟩|e;·exact q5 i (B.named i g m)
   ·exact(q4 j).2 (.inl (s.named j o e))
  ·intro j o n;rcases hB j o n with⟨i,g,p,rfl,m,rfl⟩|e;·obtain⟨k1,k2⟩:=B.wf i g m;refine⟨by simpa [bA.rn] using k1,fun i r hr=> ?_⟩;simp only[bA.rn,p0,m4] at hr;obtain⟨r0,hr,rfl⟩:=hr;simpa [bA.rn] using k2 i r0 hr
   ·exact s.wf j o e
  ·intro j o n he;rcases hB j o n with⟨i,g,p,rfl,m,rfl⟩|e;·rw[O i (B.named i g m),L];exact(B.blk i g m he).arW rfl rfl fun _=>by simp[bA.rn]
   ·have:=s.blk j o e he;rw[←G _ (z j o e he),←T j (q j o e),←L] at this;exact this
  ·intro j o k l r d n hr hd;rcases hB j o n with⟨i,g,p,rfl,m,rfl⟩|e;·simp only[bA.rn,p0,m4] at hr;obtain⟨r0,hr,rfl⟩:=hr;simp only[p0,m4] at hd;obtain⟨d0,hd,rfl⟩:=hd;obtain⟨u,h5,h6⟩:=B.cells i g k l r0 d0 m hr hd;refine⟨u,?_,bE7 q5 O (p7 i g m r0 (s3 hr) d0 (s3 hd)) h6⟩;rw[O i (B.named i g m),L];exact h5
   ·obtain⟨u,h5,h6⟩:=s.cells j o k l r d e hr hd;have ab:0<o.ext:=by have:=(s.wf j o e).1;have hk:k<o.rows.length:=(m3.1 hr).1;omega
    refine⟨u,?_,h6.step M s⟩;rw[←h5,T j (q j o e),L];exact World.cell?_of_block (w:=c.w) (G _ (z j o e ab))
  ·intro j j' o o' n ai he U af;rcases hB j o n with⟨i,g,p,rfl,m,rfl⟩|e<;>rcases hB j' o' ai with⟨i',V,aj,rfl,W,rfl⟩|X;·rw[O i (B.named i g m),O i' (B.named i' V W)];exact B.sep i i' g V m W he U fun h=>af (congrArg t h)
   ·rw[O i (B.named i g m),T j' (q j' o' X)];have az9:=y i g m he;have az2:=z j' o' X U;omega
   ·rw[O i' (B.named i' V W),T j (q j o e)];have az9:=y i' V W U;have az2:=z j o e he;omega
   ·rw[T j (q j o e),T j' (q j' o' X)];exact s.sep j j' o o' e X he U af
  ·intro j o n he;rw[q2];rcases hB j o n with⟨i,g,p,rfl,m,rfl⟩|e;·rw[O i (B.named i g m)];intro hI;have az9:=y i g m he;have az2:=s.old _ hI;omega
   ·rw[T j (q j o e)];exact s.imm j o e he
  ·intro b A;rw[q2] at A;have az9:=s.old b A;have az2:=p2.size;rw[Q] at az2;rw[L];omega
 ·intro j hj;rcases(q4 j).1 hj with h|⟨p,e⟩
  ·exact .inl h
  ·right;have:=ag _ e;exact⟨p,by omega⟩
end
end Go.AM
namespace Go.AM
def FzL (H:aA) (a b:List D1):Prop:=a.length=b.length∧ ∀(i:Nat) (x y:D1),a[i]?=some x→b[i]?=some y→Frz H (fun _=>True) x y
variable{H:aA}
theorem bDK:FzL H [] []:=⟨rfl,fun i x y h=>by simp at h⟩
theorem byR{x y:D1}{xs ys:List D1} (h:Frz H (fun _=>True) x y) (e:FzL H xs ys):FzL H (x::xs) (y::ys):=
 ⟨by simp[e.1],fun i a b c d=>by
  cases i with
  |zero=>simp at c d;subst c;subst d;exact h
  |succ i=>exact e.2 i a b (by simpa using c) (by simpa using d)⟩
theorem bFF{xs:List D1} (h:xs.all D1.dQ=true):FzL H xs xs:=⟨rfl,fun i a b c d=>by rw[c] at d;cases d;exact .same a (w2.1 h a (s3 c))⟩
theorem FzL.cvL{xs ys:List D1}{σ:Nat→Nat}{nh:Nat} (h:FzL H xs ys):CvL H (fun _=>True) σ nh xs ys:=⟨h.1,fun i x y a b=>.frz (h.2 i x y a b)⟩
abbrev bAT (α:Type):=aA→List D1→α→(Nat→Prop)→Prop
def rng (n:Nat) (f:Nat→List D1):List (List D1):=(List.range n).map f
variable{n:Nat}{f:Nat→List D1}
theorem byN:(rng n f).length=n:=by simp[rng]
theorem by6{i:Nat} (h:i<n):(rng n f)[i]?=some (f i):=by simp[rng,h]
def bB4 (f:Nat→List D1) (i:Nat) (r:List D1):Nat→List D1:=fun j=>if j=i then r else f j
theorem byL{i:Nat}{r:List D1}:bB4 f i r i=r:=if_pos rfl
theorem bEM{i j:Nat}{r:List D1} (h:j≠i):bB4 f i r j=f j:=if_neg h
theorem byM{i:Nat}{r r':List D1}:bB4 (bB4 f i r) i r'=bB4 f i r':=by funext j;unfold bB4;split<;>rfl
theorem byT{i:Nat}{r:List D1}:(rng n f).set i r=rng n (bB4 f i r):=by
 refine bGR fun j=> ?_;rw[D0];by_cases b:j<n
 ·rw[by6 b,by6 b];by_cases a:i=j;·subst a;simp[byN,b,bB4]
  ·rw[if_neg a];simp[Ne.symm a,bB4]
 ·have e: ∀g,(rng n g)[j]?=none:=fun g=>by rw[Z3];rw[byN];omega
  rw[e,e];split;·rename_i h;subst h;simp[byN,b]
  ·rfl
theorem bFT{g:Nat→List D1} (h: ∀i,i<n→f i=g i):rng n f=rng n g:=by unfold rng;exact brC fun i hi=>h i (C2.1 hi)
structure aUO {α:Type} (RowP:bAT α) (H:aA) (n id m:Nat) (f:Nat→List D1) (G:Nat→Nat→Prop) (l:List α) (F:Nat→Prop):Prop where
 blk:H id=some ⟨n,m,rng l.length f⟩
 self:F id
 row: ∀i x,l[i]?=some x→RowP H (f i) x (G i)
 sub: ∀i j,i<l.length→G i j→F j∧j≠id
 sep: ∀i i' j,i<l.length→i'<l.length→i'≠i→G i j→¬G i' j
def SlS {α:Type} (n:Nat) (RowP:bAT α) (H:aA) (d:D1) (l:List α) (F:Nat→Prop):Prop:=(l=[]∧ ∃a id off,d= .osl a id off 0 0)∨ ∃id m cap,d= .osl n id 0 l.length cap∧0<cap∧l.length≤cap∧cap≤m∧ ∃f G,aUO RowP H n id m f G l F
def Frm {α:Type} (RowP:bAT α):Prop:=∀(H H':aA) (r:List D1) (x:α) (F:Nat→Prop),RowP H r x F→(∀j,F j→H' j=H j)→RowP H' r x F
def Fzb {α:Type} (n:Nat) (e:α→List D1) (RowP:bAT α):Prop:=∀(H:aA) (r:List D1) (x:α) (F:Nat→Prop),RowP H r x F→(e x).length=n∧FzL H (e x) r
section
variable {α : Type} {RowP : bAT α} {H H' : aA} {n id m : Nat} {f : Nat → List D1} {G : Nat → Nat → Prop} {l : List α} {F F' : Nat → Prop} {d : D1}
theorem aUO.frame (c:Frm RowP) (h:aUO RowP H n id m f G l F) (a: ∀j,F j→H' j=H j):aUO RowP H' n id m f G l F where
 blk:=(a id h.self).trans h.blk
 self:=h.self
 row i x b:=c _ _ _ _ _ (h.row i x b) fun j d=>a j (h.sub i j (m3.1 b).1 d).1
 sub:=h.sub
 sep:=h.sep
theorem SlS.frame (a:Frm RowP) (h:SlS n RowP H d l F) (b: ∀j,F j→H' j=H j):SlS n RowP H' d l F:=by exact h.imp (fun h=>h) fun⟨id,m,cap,e,c,g,i,f,G,k⟩=>⟨id,m,cap,e,c,g,i,f,G,k.frame a b⟩
theorem SlS.frz {e:α→List D1} (p:Fzb n e RowP) (h:SlS n RowP H d l F):Frz H (fun _=>True) (.isl (l.map e)) d:=by
 rcases h with⟨rfl,r,id,off,rfl⟩|⟨id,m,cap,rfl,s,b,c,f,G,k⟩
 ·exact .nil ..
 ·have hl:(l.map e).length=l.length:=bqW _;have a: ∀(i:Nat) (r':List D1),(l.map e)[i]?=some r'→i<l.length∧r'.length=n∧FzL H r' (f i):=fun i r' hr=>by rw[p0,m4] at hr;obtain⟨x,o,rfl⟩:=hr;exact⟨(m3.1 o).1,(p _ _ _ _ (k.row i x o)).1,(p _ _ _ _ (k.row i x o)).2⟩
  have key:=Frz.frz (H:=H) (F:=fun _=>True) (l.map e) n id 0 cap ⟨n,m,rng l.length f⟩ (fun i j=>((f i)[j]?).getD .dead) trivial k.blk rfl (by rw[hl];simp[byN]) (by rw[hl];exact b) (fun i r' hr=>(a i r' hr).2.1)
   (fun i j r' q b c=>by
    obtain⟨az9,az2,aAD⟩:=a i r' b
    refine⟨f i,by rw[Y4];exact by6 az9,?_⟩
    have g:j<(f i).length:=aAD.1▸(m3.1 c).1
    rw[n1 g];rfl)
   (fun i j r' q b c=>by
    obtain⟨az9,az2,aAD⟩:=a i r' b
    have g:j<(f i).length:=aAD.1▸(m3.1 c).1
    rw[n1 g]
    exact aAD.2 j q _ c (n1 g))
  rw[hl] at key;exact key
def byQ (e:α→List D1):bAT α:=fun _ r x _=>r=e x
theorem bp1 {e:α→List D1}:Frm (byQ e):=fun _ _ _ _ _ h _=>h
theorem bEV {e:α→List D1} (h: ∀x,(e x).length=n∧(e x).all D1.dQ=true):Fzb n e (byQ e):=fun H r x F hr=>by unfold byQ at hr;subst hr;exact⟨(h x).1,bFF (h x).2⟩
theorem bE8 {e:α→List D1} (b:H id=some ⟨n,m,l.map e⟩) (c:F id) (a:α):aUO (byQ e) H n id m (fun i=>e (l.getD i a)) (fun _ _=>False) l F where
 blk:=by
  rw[b];congr 2;refine bGR fun i=> ?_;by_cases hi:i<l.length;·rw[by6 hi,p0,n1 hi];simp[List.getD,n1 hi]
  ·rw[Z3 (by rw[bqW];omega),Z3 (by rw[byN];omega)]
 self:=c
 row i x d:=by unfold byQ;simp only[List.getD,d,Option.getD_some]
 sub i j _ h:=h.elim
 sep i f j _ _ _ h:=h.elim
end
def bAJ {α:Type} (sz:α→Nat):List α→Nat→Nat
 | [],_=>0
 |_::_,0=>0
 |x::l,i+1=>sz x+bAJ sz l i
def marks {α:Type} (sz:α→Nat) (mk:Int→α→α):Int→List α→List α
 |_,[]=>[]
 |k,x::l=>mk k x::marks sz mk (k+sz x) l
def total {α:Type} (sz:α→Nat) (l:List α):Nat:=bAJ sz l l.length
def mixed {α:Type} (sz:α→Nat) (mk:Int→α→α):Int→Nat→List α→List α
 |_,0,l=>l
 |_,_+1,[]=>[]
 |k,j+1,x::l=>mk k x::mixed sz mk (k+sz x) j l
section
variable {α : Type} {sz : α → Nat} {mk : Int → α → α}
theorem bDZ: ∀{l:List α} {k:Int},(marks sz mk k l).length=l.length
 | [],_=>rfl
 |x::l,k=>by simp[marks,bDZ]
theorem bp2: ∀{l:List α} {k:Int} {j:Nat},(mixed sz mk k j l).length=l.length
 |_,_,0=>rfl
 | [],_,j+1=>rfl
 |x::l,k,j+1=>by simp[mixed,bp2]
theorem bA4: ∀{l:List α} {k:Int},mixed sz mk k l.length l=marks sz mk k l
 | [],_=>rfl
 |x::l,k=>by simp[mixed,marks,bA4]
theorem bzX: ∀{l:List α} {i:Nat} {x:α},l[i]?=some x→bAJ sz l (i+1)=bAJ sz l i+sz x
 | [],i,x,h=>by simp at h
 |y::l,0,x,h=>by simp at h;subst h;cases l<;>simp[bAJ]
 |y::l,i+1,x,h=>by simp only[List.getElem?_cons_succ] at h;simp only[bAJ];rw[bzX h];omega
theorem bzS: ∀{l:List α} {k:Int} {j:Nat} {x:α},l[j]?=some x→(mixed sz mk k j l)[j]?=some x
 | [],_,j,x,h=>by simp at h
 |y::l,k,0,x,h=>h
 |y::l,k,j+1,x,h=>by simp only[mixed,List.getElem?_cons_succ] at h ⊢;exact bzS h
theorem bAN: ∀{l:List α} {k:Int} {j:Nat} {x:α},l[j]?=some x→mixed sz mk k (j+1) l=(mixed sz mk k j l).set j (mk (k+bAJ sz l j) x)
 | [],_,j,x,h=>by simp at h
 |y::l,k,0,x,h=>by simp at h;subst h;simp[mixed,bAJ]
 |y::l,k,j+1,x,h=>by simp only[List.getElem?_cons_succ] at h;have e:=bAN (k:=k+sz y) h;simp only[mixed,List.set_cons_succ,bAJ] at e ⊢;rw[e];congr 3;push_cast;omega
theorem bEG [Inhabited α]: ∀{l:List α} {k:Int} {j:Nat} {x:α},l[j]?=some x→(marks sz mk k l).getD j default=mk (k+bAJ sz l j) x
 | [],_,j,x,h=>by simp at h
 |y::l,k,0,x,h=>by simp at h;subst h;simp[marks,bAJ,List.getD]
 |y::l,k,j+1,x,h=>by simp only[List.getElem?_cons_succ] at h;have e:=bEG (k:=k+sz y) h;simp only[marks,byG,bAJ] at e ⊢;rw[e];congr 1;push_cast;omega
theorem bE3: ∀{l:List α} {i:Nat},i≤l.length→bAJ sz l i≤total sz l
 | [],_,_=>by simp[bAJ]
 |x::l,0,_=>by simp[bAJ]
 |x::l,i+1,h=>by have:=bE3 (l:=l) (i:=i) (by simpa using h);unfold total at*;simp only[List.length_cons,bAJ];omega
theorem bBL {l:List α} {i:Nat} {x:α} (h:l[i]?=some x):bAJ sz l i+sz x≤total sz l:=by rw[←bzX h];exact bE3 (by have:=(m3.1 h).1;omega)
theorem bER {l:List α}:bAJ sz l l.length=total sz l:=rfl
theorem bAM: ∀{l:List α},bAJ sz l 0=0
 | []=>rfl
 |_::_=>rfl
end
section
variable {α : Type} {RowP : bAT α} {H H' : aA} {n id m len cap : Nat} {f : Nat → List D1} {G : Nat → Nat → Prop} {l : List α} {F : Nat → Prop}
theorem SlS.get {a off:Nat} (h:SlS n RowP H (.osl a id off len cap) l F) {i:Nat} (hi:i<l.length):(a=n∧off=0)∧ ∃m f G,l.length≤cap∧cap≤m∧0<cap∧aUO RowP H n id m f G l F:=by
 rcases h with⟨rfl,_⟩|⟨c,m,b,e,d,g,j,f,G,k⟩
 ·simp at hi
 ·cases e;exact⟨⟨rfl,rfl⟩,m,f,G,g,j,d,k⟩
theorem SlS.put (a:0<cap) (b:l.length≤cap) (c:cap≤m) (hl:len=l.length) (h:aUO RowP H n id m f G l F):SlS n RowP H (.osl n id 0 len cap) l F:=
 .inr ⟨id,m,cap,by rw[hl],a,b,c,f,G,h⟩
theorem SlS.form {d:D1} (h:SlS n RowP H d l F): ∃a id off cap,d= .osl a id off l.length cap:=by
 rcases h with⟨rfl,a,id,off,rfl⟩|⟨id,m,cap,rfl,_⟩
 ·exact⟨a,id,off,0,rfl⟩
 ·exact⟨n,id,0,cap,rfl⟩
theorem aUO.upd (t:Frm RowP) {i:Nat} {x p:α} {r':List D1} (h:aUO RowP H n id m f G l F) (u:l[i]?=some x) (v:H' id=some ⟨n,m,rng l.length (bB4 f i r')⟩) (hr:RowP H' r' p (G i)) (w: ∀j,j≠id→F j→¬G i j→H' j=H j):
 aUO RowP H' n id m (bB4 f i r') G (l.set i p) F:=by
 have d:i<l.length:=(m3.1 u).1
 refine⟨by rw[Y5];exact v,h.self,fun j y c=> ?_,fun j e a=>h.sub j e (by rw[Y5] at a;exact a),fun j e g r s=>h.sep j e g (by rw[Y5] at r;exact r) (by rw[Y5] at s;exact s)⟩
 rw[D0] at c
 by_cases a:i=j
 ·subst a;rw[if_pos rfl,if_pos d] at c;cases c;rw[byL];exact hr
 ·rw[if_neg a] at c;have b:j<l.length:=(m3.1 c).1;rw[bEM (Ne.symm a)];exact t _ _ _ _ _ (h.row j y c) fun q k=>w q (h.sub j q b k).2 (h.sub j q b k).1 fun o=>h.sep i j q d b (Ne.symm a) o k
end
section
variable {α : Type} {RowP : bAT α} {H : aA} {n id len cap nh nx : Nat} {l : List α} {F : Nat → Prop} {σ : Nat → Nat}
theorem bBF {off:Nat} (h:id<nh∨(len=0∧cap=0)):Cv1 H F _root_.id nh (.osl n id off len cap) (.osl n id off len cap):=by
 rcases h with h|⟨rfl,rfl⟩
 ·exact an2 h rfl
 ·exact .VS ..
theorem bz5 {a b:Int} (h:a=b):CvD H F σ nh (boP a) (boP b):=by rw[h];exact aE rfl
theorem SlS.bEI {a off:Nat} (h:SlS n RowP H (.osl a id off len cap) l F) (c: ∀j,F j→j<nx):id<nx∨(len=0∧cap=0):=by
 rcases h with⟨rfl,a,id,off,e⟩|⟨d,m,b,e,i,k,o,f,G,g⟩
 ·cases e;exact .inr ⟨rfl,rfl⟩
 ·cases e;exact .inl (c _ g.self)
theorem bFU {a b:Int} (h:a=b):some (boP a)=some (boP b):=by rw[h]
end
structure bD5 {α:Type} (RowP:bAT α) (H:aA) (n id m:Nat) (Z:Nat→List D1) (f:Nat→List D1) (G:Nat→Nat→Prop) (l:List α) (u lo hi:Nat):Prop where
 blk:H id=some ⟨n,m,rng l.length f⟩
 row: ∀i x,i<u→l[i]?=some x→RowP H (f i) x (G i)
 zero: ∀i,u≤i→f i=Z i
 sub: ∀i j,i<u→G i j→(lo≤j∧j<hi)∧j≠id
 sep: ∀i i' j,i<u→i'<u→i'≠i→G i j→¬G i' j
section
variable {α : Type} {RowP : bAT α} {H H' : aA} {n id m : Nat} {Z : Nat → List D1} {f : Nat → List D1} {G : Nat → Nat → Prop} {l : List α} {u lo hi hi' : Nat}
theorem bC6 {k:Nat} {z:List D1}:rng k (fun _=>z)=List.replicate k z:=by
 refine bGR fun i=> ?_;by_cases hi:i<k;·rw[by6 hi,boJ,if_pos hi]
 ·rw[Z3 (by rw[byN];omega),Z3 (by rw[bx0];omega)]
theorem bFM [Inhabited α] {e:α→List D1}:rng l.length (fun i=>e (l.getD i default))=l.map e:=by
 refine bGR fun i=> ?_;by_cases hi:i<l.length;·rw[by6 hi,p0,n1 hi];simp[List.getD,n1 hi]
 ·rw[Z3 (by rw[byN];omega),Z3 (by rw[bqW];omega)]
theorem bBK (h:H id=some ⟨n,m,rng l.length Z⟩):bD5 RowP H n id m Z Z (fun _ _=>False) l 0 lo hi:=⟨h,fun i x hi=>by omega,fun _ _=>rfl,fun i j hi=>by omega,fun i a j hi=>by omega⟩
theorem bD5.step (o:Frm RowP) (h:bD5 RowP H n id m Z f G l u lo hi) {x:α} {r:List D1} {G':Nat→Prop} (p:l[u]?=some x) (q:H' id=some ⟨n,m,rng l.length (bB4 f u r)⟩) (hr:RowP H' r x G') (bqK: ∀j,G' j→hi≤j∧j<hi') (s:id<hi) (t:lo≤hi) (z:hi≤hi') (v: ∀j,j<hi→j≠id→H' j=H j):
 bD5 RowP H' n id m Z (bB4 f u r) (fun i=>if i=u then G' else G i) l (u+1) lo hi':=by
 refine⟨q,fun i y hi k=> ?_,fun i hi=>by rw[bEM (by omega)];exact h.zero i (by omega),fun i j hi c=> ?_,fun i g j A B w e d=> ?_⟩
 ·by_cases a:i=u;·subst a;rw[p] at k;cases k;rw[byL];simp only[if_true];exact hr
  ·rw[bEM a];simp only[if_neg a];exact o _ _ _ _ _ (h.row i y (by omega) k) fun j c=>v j (h.sub i j (by omega) c).1.2 (h.sub i j (by omega) c).2
 ·by_cases a:i=u;·simp only[if_pos a] at c;have:=bqK j c;exact⟨⟨by omega,by omega⟩,by omega⟩
  ·simp only[if_neg a] at c;have:=h.sub i j (by omega) c;exact⟨⟨by omega,by omega⟩,this.2⟩
 ·by_cases a:i=u
  ·simp only[if_pos a] at e;by_cases b:g=u;·omega
   ·simp only[if_neg b] at d;have az9:=bqK j e;have az2:=h.sub g j (by omega) d;omega
  ·simp only[if_neg a] at e;by_cases b:g=u;·simp only[if_pos b] at d;have az9:=bqK j d;have az2:=h.sub i j (by omega) e;omega
   ·simp only[if_neg b] at d;exact h.sep i g j (by omega) (by omega) w e d
theorem bD5.done {cap:Nat} (h:bD5 RowP H n id m Z f G l l.length lo hi) (d:lo≤id) (e:id<hi) (g:l.length≤cap) (hm:cap≤m) (k:l=[]→cap=0):SlS n RowP H (.osl n id 0 l.length cap) l fun j=>lo≤j∧j<hi:=by
 by_cases hl:l=[]
 ·refine .inl ⟨hl,n,id,0,?_⟩;rw[k hl,hl];rfl
 ·have hp:0<l.length:=bGS.2 hl;refine .inr ⟨id,m,cap,rfl,by omega,g,hm,f,G,h.blk,⟨d,e⟩,fun i x c=>h.row i x (m3.1 c).1 c,fun i j hi o=>h.sub i j hi o,fun i p j a b=>h.sep i p j a b⟩
end
def Fre {α:Type} (RowP:bAT α):Prop:=∀(H:aA) (r:List D1) (x:α) (F:Nat→Prop),RowP H r x F→r.all D1.free=true∧ ∃bp6:Nat→Prop,(∀j,bp6 j→F j)∧RowP H r x bp6∧ ∀j o,bp6 j→H j=some o→∀row∈o.rows,∀d∈row,d.free=true
section
variable {α : Type} {RowP : bAT α} {H : aA} {n : Nat} {l : List α} {F : Nat → Prop} {d : D1}
theorem bFB {e:α→List D1} (h: ∀x,(e x).all D1.free=true):Fre (byQ e):=fun H r x F hr=>by unfold byQ at hr;subst hr;exact⟨h x,fun _=>False,fun j h=>h.elim,rfl,fun j o h=>h.elim⟩
theorem SlS.fre (w:Fre RowP) (h:SlS n RowP H d l F):d.free=true∧ ∃bp6:Nat→Prop,(∀j,bp6 j→F j)∧SlS n RowP H d l bp6∧ ∀j o,bp6 j→H j=some o→∀row∈o.rows,∀d∈row,d.free=true:=by
 rcases h with⟨rfl,z,id,off,rfl⟩|⟨id,m,cap,rfl,A,B,C,f,G,boT⟩
 ·exact⟨rfl,fun _=>False,fun j h=>h.elim,.inl ⟨rfl,z,id,off,rfl⟩,fun j o h=>h.elim⟩
 ·refine⟨rfl,?_⟩
  have r: ∀i:Nat,∃bqO:Nat→Prop,∀x,l[i]?=some x→(f i).all D1.free=true∧(∀j,bqO j→G i j)∧RowP H (f i) x bqO∧ ∀j o,bqO j→H j=some o→∀row∈o.rows,∀d∈row,d.free=true:=fun i=>by
   cases k:l[i]? with
   |none=>exact⟨fun _=>False,fun x h=>by cases h⟩
   |some x=>obtain⟨az9,bp6,az2,aAD,aAE⟩:=w _ _ _ _ (boT.row i x k);exact⟨bp6,fun y D=>by cases D;exact⟨az9,az2,aAD,aAE⟩⟩
  obtain⟨bqO,p⟩:=Classical.axiomOfChoice r;have q: ∀i,i<l.length→∃x,l[i]?=some x:=fun i hi=>⟨_,n1 hi⟩
  have e: ∀i j,i<l.length→bqO i j→G i j:=fun i j hi g=>by obtain⟨x,k⟩:=q i hi;exact(p i x k).2.1 j g
  refine⟨fun j=>j=id∨ ∃i,i<l.length∧bqO i j,?_,.inr ⟨id,m,cap,rfl,A,B,C,f,bqO,boT.blk,.inl rfl,fun i x k=>(p i x k).2.2.1,fun i j hi g=>⟨.inr ⟨i,hi,g⟩,(boT.sub i j hi (e i j hi g)).2⟩,fun i u j a b c g s=>boT.sep i u j a b c (e i j a g) (e u j b s)⟩,?_⟩
  ·rintro j (rfl|⟨i,hi,g⟩);·exact boT.self
   ·exact(boT.sub i j hi (e i j hi g)).1
  ·rintro j o (rfl|⟨i,hi,g⟩) t row hr d v;·rw[boT.blk] at t;cases t;unfold rng at hr;obtain⟨i,hi,rfl⟩:=CF.1 hr;obtain⟨x,k⟩:=q i (C2.1 hi);exact w2.1 (p i x k).1 d v
   ·obtain⟨x,k⟩:=q i hi;exact(p i x k).2.2.2 j o g t row hr d v
end
def Cvs {α:Type} (RowP:bAT α):Prop:=∀(H:aA) (r:List D1) (x:α) (F:Nat→Prop) (nh:Nat) (F':Nat→Prop),RowP H r x F→(∀j,F j→j<nh)→CvL H F' _root_.id nh r r
theorem SlS.cv{α:Type}{RowP:bAT α}{nh:Nat}{d:D1}{l:List α}{F F':Nat→Prop} (h:SlS n RowP H d l F) (a: ∀j,F j→j<nh):Cv1 H F' _root_.id nh d d:=by
 rcases h with⟨rfl,c,id,off,rfl⟩|⟨id,m,cap,rfl,e,g,i,f,G,b⟩
 ·exact .VS ..
 ·exact an2 (a _ b.self) rfl
theorem bBC{e:Env}{t id m:Nat}{cs:List D1} (he:e t= .one (.c (.ptr n id 0 0))) (a:H id=some ⟨n,m,[cs]⟩) (hl:cs.length=n):yT H e [.cell t n true]=some (boR cs):=by subst hl;simp[yT,VP,he,tT,a,mkV]
end Go.AM
