/- Rules and contracts. -/
import Derived.Test.YtlncecohbakleaaGreatPR3
set_option linter.unusedVariables false
set_option linter.unusedSimpArgs false
set_option maxRecDepth 100000
set_option maxHeartbeats 8000000
namespace Go.AM
open Go.RowKit
def wa(e' e:Env):Prop:=∀t,e' t=e t\/e' t= .dead
theorem wa.refl(e:Env):wa e e:=fun _=>.inl rfl
theorem ER.le{c:Cf}{T:Nat}{e e':Env}{a:Act}(he:ER c T e a)(h:wa e' e):ER c T e' a:=by
 refine⟨he.1,he.2.1,fun t=> ?_⟩;rcases h t with b|b;·rw[b];exact he.2.2 t
 ·rw[b];exact trivial
section
variable{P:Program}{T:Nat}{e:Env}{H:aA}{nx:Nat}{Q:AQ}
theorem AWP.le{x:AC}{e':Env}(b:wa e' e)(h:AWP P T x e' H nx Q):AWP P T x e H nx Q:=fun code hc c a hs he d=>h code hc c a hs (he.le b) d
theorem aJ.le{x:AC}{zs:List AC}{e':Env}(a:wa e' e)(h:aJ P T (x::zs) e' H nx Q):aJ P T (x::zs) e H nx Q:=AWP.le a h
theorem aC.ofH{f:FuncId}{fn:Func}{code:Code}{ac:AC}{rs:List aW}{cs l:List Cert}{args:List D}{K:afC}
 (m:xG P f=true) (y:P.funcs[f]?=some fn) (z:fn.body=some code) (hc:compile P fn.ntmps code cs=some (ac,l)) (hr:G9 P fn.results.toList=some rs) (hl:args.length<=fn.ntmps)
 (h: ∀Q:AQ,(∀ex e' H' nx' d,ex= .normal\/ex= .ret->mT H' e' rs=some d->K d H' nx'->Q ex e' H' nx')->AWP P fn.ntmps ac (Env.args 0 args) H nx Q):aC P f args H nx K:=by
 refine⟨m,fun c vs hs A hlen j=> ?_⟩
 apply calls_of_wp y z
 have n:=PY _ _ _ _ hc
 have o:ER c fn.ntmps (Env.args 0 args) {tmps:=vs.toArray++Array.replicate (fn.ntmps-vs.toArray.size) undef,defers:=[]}:=by
  refine⟨by simp;omega,rfl,fun t=> ?_⟩;rw[Env.U9];simp only[Nat.zero_le,if_true,Nat.sub_zero]
  cases k:args[t]? with
  |none=>exact trivial
  |some d=>have q:t<vs.length:=(by rw[hlen];exact(abN.1 k).1);have p:(vs.toArray++Array.replicate (fn.ntmps-vs.toArray.size) undef).getD t undef=vs[t]:=(by rw[ae1,aeG];simp[q]);rw[p];exact j t d _ k (abO q)
 refine wp_mono (h _ (fun ex e' H' nx' d B C E=>(⟨B,d,C,E⟩:(ex= .normal\/ex= .ret)/\ ∃d,mT H' e' rs=some d/\K d H' nx')) code n c _ hs o A) ?_
 rintro ex a w ⟨F,e',H',nx',c',rfl,rfl,s,G,u,I,J,L,d,M,O⟩
 obtain⟨v,p,k⟩:=yx s u hr M
 have e:a.defers=[]/\ ∃v,(results fn a.tmps).run P c'.w= .ok v c'.w/\ ∃x b r g nx',Ending.returned v= .returned x/\b.w=c'.w/\St b g/\Step c H b g/\(∀i,b.N i->c.N i\/(nx<=i/\i<nx'))/\nx<=nx'/\gN b r x/\K r g nx':=⟨u.2.1,v,p,v,c',d,H',nx',rfl,rfl,s,G,I,J,k,O⟩
 rcases L with rfl|rfl
 ·exact e
 ·exact e
def bR(P:Program)(f:FuncId)(fn:Func)(ac:AC)(rs:List aW):Prop:=
 ∀{args:List D} {H:aA} {nx:Nat} {b:afC} (_hl:Nat.ble args.length fn.ntmps=true)
  (_h: ∀Q:AQ,(∀ex c H2 a d,ex= .normal\/ex= .ret->mT H2 c rs=some d->b d H2 a->Q ex c H2 a)->aJ P fn.ntmps [ac] (Env.args 0 args) H nx Q),aC P f args H nx b
theorem bR.mk{P:Program}{f:FuncId}{fn:Func}{ac:AC}{rs:List aW}{cs:List Cert}
 (c:P.funcs[f]?=some fn) (a:xG P f=true) (hc:aQ P fn cs=some (ac,rs)):bR P f fn ac rs:=by
 intro args H nx m hl h
 unfold aQ at hc
 split at hc
 ·rename_i b d;split at hc;·rename_i e g i j k;simp only[Option.some.injEq,Prod.mk.injEq] at hc;obtain⟨rfl,rfl⟩:=hc;exact aC.ofH a c d j k (ae3 hl) fun Q l=>(h Q l).run
  ·simp at hc
 ·simp at hc
end
def CvX(F:Nat->Prop)(nx:Nat)(H H':aA):Prop:=∀i o',H' i=some o'->¬F i/\ ∃o,H i=some o/\(o'=o\/CvO H F id nx o' o)
variable{nx:Nat}
theorem VB{c:Cf}{I':Nat->Prop}(k: ∀b,c.I b->I' b)(g: ∀i,c.N i->i<nx){d:D1}{x:Value}(h:Rel c d x):Rel (c.conv nx nx id I') d x:=by
 have j: ∀d x,cO c d x->cO (c.conv nx nx id I') d x:=by
  intro d x h
  cases d<;>simp only[cO] at h ⊢ <;>first
   |exact h.DL k (fun _ _=>rfl)
   |exact⟨h.1,h.2.imp (fun h=>h) fun⟨e,a,l⟩=>⟨e,.inl ⟨g _ a,a⟩,l⟩⟩
   |exact⟨.inl ⟨g _ h.1,h.1⟩,h.2⟩
   |exact h
 cases d with
 |clo f caps=>obtain⟨vs,m,hl,n⟩:=h;exact⟨vs,m,hl,fun i d u e a=>j _ _ (n i d u e a)⟩
 |_=>simp only[Rel] at h ⊢;exact j _ _ h
theorem Bv{c:Cf}{I':Nat->Prop}(j: ∀b,c.I b->I' b)(k: ∀i,c.N i->i<nx){d:D}{x:Value}(h:gN c d x):gN (c.conv nx nx id I') d x:=by
 have l: ∀d x,lT c d x->lT (c.conv nx nx id I') d x:=by
  intro d x h
  cases d with
  |c d=>exact VB j k h
  |agg cs=>obtain⟨vs,a,hl,e⟩:=h;exact⟨vs,a,hl,fun i d u f g=>VB j k (e i d u f g)⟩
 cases d with
 |one d=>exact l d x h
 |tup m=>obtain⟨vs,a,hl,e⟩:=h;exact⟨vs,a,hl,fun i d u f g=>l d u (e i d u f g)⟩
 |dead=>trivial
theorem tk{c c0:Cf}{H H0 H':aA}{F:Nat->Prop}(hs:St c H)(a:Step c0 H0 c H)(B: ∀i,c.N i->i<nx)(C:CvX F nx H H'):
 St (c.conv nx nx id (c.frI H F)) H'/\Step c0 H0 (c.conv nx nx id (c.frI H F)) H':=by
 have v: ∀{i:Nat} {o':bM},H' i=some o'->¬F i/\ ∃o,H i=some o/\o'.n=o.n/\o'.ext=o.ext/\o'.rows.length<=o.rows.length/\(o.n=0->o'.rows=[]->o.rows=[]):=by
  intro i o' h;obtain⟨p,o,e,rfl|g⟩:=C i o' h;·exact⟨p,_,e,rfl,rfl,abG _,fun _ h=>h⟩
  ·exact⟨p,o,e,g.1,g.2.1,g.2.2.1,g.2.2.2.1⟩
 refine⟨?_,?_⟩
 ·refine {named:= ?_,wf:= ?_,blk:= ?_,cells:= ?_,sep:= ?_,imm:= ?_,old:= ?_};·intro id o' h;obtain⟨_,o,e,_⟩:=v h;exact .inl ⟨B _ (hs.named _ o e),hs.named _ o e⟩
  ·intro id o' h;obtain⟨_,o,e,rfl|⟨g,x,D,_,Q⟩⟩:=C id o' h;·exact hs.wf _ _ e
   ·obtain⟨y,k⟩:=hs.wf _ o e;refine⟨by omega,fun i r hr=> ?_⟩;obtain⟨z,E,R⟩:=Q i r hr;rw[R.1,k i z E,g]
  ·intro id o' h he;obtain⟨_,o,e,g,x,D,E⟩:=v h;exact(hs.blk _ o e (by omega)).Te g x fun S=>⟨E S,fun hr=>by rw[hr] at D;exact acX.1 (by simpa using D)⟩
  ·intro id o' i j r d h p e;obtain⟨_,o,k,rfl|⟨m,G,V,_,J⟩⟩:=C id o' h;·obtain⟨u,K,q⟩:=hs.cells _ _ i j r d k p e;exact⟨u,K,VB (fun b h=>.inl h) B q⟩
   ·obtain⟨z,P,L⟩:=J i r p;have A:j<z.length:=(by rw[<-L.1];exact(abN.1 e).1);obtain⟨u,K,q⟩:=hs.cells _ o i j z _ k P (abO A);refine⟨u,by rw[m];exact K,?_⟩;exact XV hs (fun b h=>.inl h) (fun id o p e g=>.inr ⟨id,o,p,e,g,rfl⟩) (fun _ _=>rfl) (L.2 j d _ e (abO A)) q
  ·intro i j o o' hi A he T s;obtain⟨_,U,k,m,G,_⟩:=v hi;obtain⟨_,t,J,P,L,_⟩:=v A;exact hs.sep i j U t k J (by omega) (by omega) s
  ·intro i o' h he;obtain⟨M,o,e,g,x,_⟩:=v h;rintro(w|⟨f,t,y,k,m,G⟩);·exact hs.imm _ o e (by omega) w
   ·have s:f≠i:=(by rintro rfl;exact M y);exact hs.sep f i t o k e m (by omega) s G
  ·rintro b (w|⟨f,t,y,k,m,rfl⟩);·exact hs.old b w
   ·exact(hs.blk f t k m).lt
 ·exact {
   ρ:=fun i l=>a.ρ i l
   N:=fun i l=>.inl ⟨B i (a.N i l),a.N i l⟩
   I:=fun b O=>.inl (a.I b O)
   I':=by
    rintro b (w|⟨f,t,y,k,m,rfl⟩);·exact a.I' b w
    ·exact .inr (a.own _ ⟨f,t,k,m,rfl⟩)
   size:=a.size
   os:=a.os
   tape:=a.tape
   output:=a.output
   frame:=a.frame
   own:=by rintro b ⟨id,o',h,he,O⟩;obtain⟨_,o,e,g,x,_⟩:=v h;exact a.own b ⟨id,o,e,by omega,O⟩}
theorem aE{H:aA}:CvX noF nx H H:=fun _ o h=>⟨fun h=>h,o,h,.inl rfl⟩
theorem aJ.cG{P:Program}{T:Nat}{e:Env}{H:aA}{Q:AQ}{x:AC}{zs:List AC}{β:Type}(E:β->Env)(Φ:β->aA->Nat->Prop)(μ:β->Nat)(b0:β)(J: ∃F H1,CvE H F id nx (E b0) e/\CvX F nx H H1/\Φ b0 H1 nx)
 (h: ∀b H1 d,nx<=d->Φ b H1 d->∀K:Env->aA->Nat->Prop,(∀e' H' nx' f F H2,d<=nx'->μ f<μ b->CvE H' F id nx' (E f) e'->CvX F nx' H' H2->Φ f H2 nx'->K e' H' nx')->aJ P T [x] (E b) H1 d (AQ.then K Q)):aJ P T (.loop x::zs) e H nx Q:=by
 intro code hc c a hs he p
 obtain⟨F0,H0,L,M,O⟩:=J
 have k: ∀{c1:Cf} {H1 H2:aA} {d:Nat} {F:Nat->Prop} {q r:Env} {a:Act},St c1 H1->Step c H c1 H1->(∀i,c1.N i->i<d)->ER c1 T q a->CvE H1 F id d r q->CvX F d H1 H2->
  ∃c2:Cf,c2.w=c1.w/\St c2 H2/\Step c H c2 H2/\ER c2 T r a/\ ∀i,c2.N i->c1.N i:=by
  intro c1 H1 H2 d F q r a D R S s U V
  obtain⟨G,u⟩:=tk D R S V
  refine⟨c1.conv d d id (c1.frI H1 F),rfl,G,u,⟨s.1,s.2.1,fun t=>z7 D (fun b h=>.inl h) (fun id o j l m=>.inr ⟨id,o,j,l,m,rfl⟩) (fun _ _=>rfl) (U t) (s.2.2 t)⟩,fun i hi=> ?_⟩
  rcases hi with⟨_,hi⟩|⟨j,l,m⟩
  ·exact hi
  ·omega
 cases hc with
 |loop j=>
  obtain⟨c1,W,X,Y,Z,r5⟩:=k hs (Step.refl c H) p he L M;refine wp_loop_ghost (fun n a w=>∃b c1 H1 d,μ b=n/\c1.w=w/\St c1 H1/\ER c1 T (E b) a/\Step c H c1 H1/\(∀i,c1.N i->c.N i\/(nx<=i/\i<d))/\nx<=d/\Φ b H1 d) (μ b0) ⟨b0,c1,H0,nx,rfl,W,X,Z,Y,fun i hi=>.inl (r5 i hi),abG _,O⟩ ?_;rintro n a w ⟨b,c1,H1,d,rfl,rfl,j1,j2,v,I,j5,j6⟩;refine wp_mono (h b H1 d j5 j6 (fun e' H' nx'=>∃f F H2,d<=nx'/\μ f<μ b/\CvE H' F id nx' (E f) e'/\CvX F nx' H' H2/\Φ f H2 nx') (fun _ _ _ f F H2 j l m h4 h5=>⟨f,F,H2,j,l,m,h4,h5⟩) _ j c1 a j1 j2 fun i hi=> ?_) fun ex a' w' ⟨y,e',H',nx',c',hp⟩=> ?_
  ·rcases I i hi with h|h;·have:=p i h;omega
   ·omega
  ·obtain⟨rfl,rfl,z,A,B,p4,p5,C⟩:=hp
   have g: ∀i,c'.N i->c.N i\/(nx<=i/\i<nx'):=by
    intro i hi;rcases p4 i hi with h|h
    ·rcases I i h with h|h;·exact .inl h
     ·exact .inr ⟨h.1,by omega⟩
    ·exact .inr ⟨by omega,h.2⟩
   cases y with
   |normal=>obtain⟨f,F,H2,G,u,q3,q4,q5⟩:=C;obtain⟨c2,s1,s2,s3,s4,s5⟩:=k z (v.trans A) (fun i hi=>by rcases g i hi with h|h;have:=p i h;omega;exact h.2) B q3 q4;exact⟨μ f,u,f,c2,H2,nx',rfl,s1,s2,s4,s3,fun i hi=>g i (s5 i hi),by omega,q5⟩
   |exit id=>exact⟨.exit id,e',H',nx',c',rfl,rfl,z,v.trans A,B,g,by omega,C⟩
   |ret=>exact⟨.ret,e',H',nx',c',rfl,rfl,z,v.trans A,B,g,by omega,C⟩
theorem aC.kH{P:Program}{f:FuncId}{args:List D}{H:aA}{nx:Nat}{K:afC}
 (h:aC P f args H nx fun r H' n'=>∃a H2 F,CvD H' F id n' a r/\CvX F n' H' H2/\K a H2 n'):aC P f args H nx K:=by
 refine⟨h.1,fun c vs hs g hl hr=> ?_⟩
 refine(h.2 c vs hs g hl hr).mono ?_
 rintro x B ⟨v,c2,r,H2,d,rfl,rfl,j,p,k,q,s,a,t,F,u,w,y⟩
 have e: ∀i,c2.N i->i<d:=fun i hi=>by
  rcases k i hi with h|h;·have:=g i h;omega
  ·exact h.2
 obtain⟨z,A⟩:=tk j p e w
 refine⟨v,c2.conv d d id (c2.frI H2 F),a,t,d,rfl,rfl,z,A,fun i hi=> ?_,q,z7 j (fun b h=>.inl h) (fun id o l m n=>.inr ⟨id,o,l,m,n,rfl⟩) (fun _ _=>rfl) u s,y⟩
 rcases hi with⟨_,hi⟩|⟨l,m,n⟩
 ·exact k i hi
 ·omega
section
variable{P:Program}{T:Nat}{e:Env}{H:aA}{nx:Nat}{Q:AQ}
theorem AWP.kH{x:AC}(e':Env)(H':aA)(F:Nat->Prop)(l: ∀t,e' t=e t\/CvD H F id nx (e' t) (e t))(m:CvX F nx H H')(h:AWP P T x e' H' nx Q):AWP P T x e H nx Q:=by
 intro code hc c a hs he f;obtain⟨n,p⟩:=tk hs (Step.refl c H) f m;refine wp_mono (h code hc (c.conv nx nx id (c.frI H F)) a n ⟨he.1,he.2.1,fun t=> ?_⟩ fun i hi=> ?_) ?_
 ·rcases l t with d|d;·rw[d];exact Bv (fun b h=>.inl h) f (he.2.2 t)
  ·exact z7 hs (fun b h=>.inl h) (fun id o d g j=>.inr ⟨id,o,d,g,j,rfl⟩) (fun _ _=>rfl) d (he.2.2 t)
 ·rcases hi with⟨_,hi⟩|⟨d,g,j⟩
  ·exact f i hi
  ·omega
 ·rintro ex a w ⟨k,e',H',nx',c',rfl,rfl,q,r,s,u,v,y⟩;refine⟨k,e',H',nx',c',rfl,rfl,q,p.trans r,s,fun i hi=> ?_,v,y⟩;rcases u i hi with h|h
  ·rcases h with⟨_,hi⟩|⟨d,g,j⟩
   ·exact .inl hi
   ·omega
  ·exact .inr h
theorem aJ.kH{x:AC}{zs:List AC}(e':Env)(H':aA)(F:Nat->Prop)(a: ∀t,e' t=e t\/CvD H F id nx (e' t) (e t))(b:CvX F nx H H')(h:aJ P T (x::zs) e' H' nx Q):aJ P T (x::zs) e H nx Q:=AWP.kH e' H' F a b h
theorem AWP.BM{x:AC}(h:(∀i,nx<=i->H i=none)->AWP P T x e H nx Q):AWP P T x e H nx Q:=
 fun code hc c a hs he b=>h (fun i hi=>by
  cases d:H i with
  |none=>rfl
  |some o=>have:=b i (hs.named i o d);omega) code hc c a hs he b
theorem aJ.BM{x:AC}{zs:List AC}(h:(∀i,nx<=i->H i=none)->aJ P T (x::zs) e H nx Q):aJ P T (x::zs) e H nx Q:=AWP.BM h
variable{l:List Nat}
theorem zQ{b:Nat}{H:aA}(h: ∀i,nx<=i->H i=none)(a:nx<=b):msk b l H=H:=by
 funext i;simp only[msk];split;·rename_i hi;obtain⟨j,_,rfl⟩:=abP.1 hi;exact(h _ (by omega)).symm
 ·rfl
theorem umS{b i:Nat}{H G:aA}{o:bM}:dF b l (H.set i o) G=if i∈l.map (b+ ·) then (dF b l H G).set i o else dF b l H G:=by
 split
 ·rename_i h;funext j;simp only[dF,aA.set];by_cases a:j=i;·subst a;simp only[h,if_true]
  ·simp only[a,if_false]
 ·rename_i h;funext j;simp only[dF,aA.set];by_cases a:j=i;·subst a;simp only[h,if_false]
  ·simp only[a,if_false]
theorem umD{b i:Nat}{H G:aA}:dF b l (H.del i) G=if i∈l.map (b+ ·) then (dF b l H G).del i else dF b l H G:=by
 split
 ·rename_i h;funext j;simp only[dF,aA.del];by_cases a:j=i;·subst a;simp only[h,if_true]
  ·simp only[a,if_false]
 ·rename_i h;funext j;simp only[dF,aA.del];by_cases a:j=i;·subst a;simp only[h,if_false]
  ·simp only[a,if_false]
theorem umB{b:Nat}{G:aA}:dF b l G G=G:=by funext j;simp only[dF];split<;>rfl
end
def D1.free:D1->Bool
 | .v _| .osl .. | .ptr .. | .dead=>true
 | .isl rows=>rows.isEmpty
 |_=>false
def D.free:D->Bool
 | .one x=>x.cells.all D1.free
 | .tup xs=>xs.all fun x=>x.cells.all D1.free
 | .dead=>true
def Vs(H:aA):Prop:=∀i o,H i=some o->∀r∈o.rows,∀d∈r,d.free=true
section
variable{P:Program}{H:aA}
theorem Mk{c2 g:Cf}{t:Nat->Nat}(j: ∀i,c2.N i->g.N (t i))(c: ∀i,c2.N i->g.ρ (t i)=c2.ρ i){d:D1}(k:d.free=true){x:Value}(h:Rel c2 d x):Rel g (rn1 t d) x:=by
 cases d<;>simp only[D1.free,ac4] at k
 case v y=>
  simp only[Rel,cO] at h;simp only[rn1,rn0,Rel,cO]
  cases h with
  |v _ h=>exact .v _ h
 case isl rows=>
  have hr:rows=[]:=List.isEmpty_iff.1 k;subst hr;simp only[Rel,cO] at h;simp only[rn1,rn0,Rel,cO]
  cases h with
  |isl _ a cap n b o f r e s hc hr=>exact .isl [] a cap 0 0 0 (fun _ _=>undef) (by simp) e (by simp) (by simp) (by simp)
 case osl n id off len cap=>simp only[Rel,cO] at h;simp only[rn1,rn0,Rel,cO];exact⟨h.1,h.2.imp (fun h=>h) fun⟨m,l,p⟩=>⟨m,j _ l,by rw[c _ l];exact p⟩⟩
 case ptr n id row q=>simp only[Rel,cO] at h;simp only[rn1,rn0,Rel,cO];exact⟨j _ h.1,by rw[c _ h.1];exact h.2⟩
 case dead=>simp only[Rel,cO] at h;simp only[rn1,rn0,Rel,cO];exact h
theorem Vn{c2 e:Cf}{t:Nat->Nat}(f: ∀i,c2.N i->e.N (t i))(a: ∀i,c2.N i->e.ρ (t i)=c2.ρ i){d:DV}(g:d.cells.all D1.free=true){x:Value}(h:lT c2 d x):lT e (rnV t d) x:=by
 cases d with
 |c d=>exact Mk f a (by simpa [DV.cells] using g) h
 |agg n=>obtain⟨vs,k,hl,l⟩:=h;refine⟨vs,k,by simp[hl],fun i d u b m=> ?_⟩;simp only[abW,abR] at b;obtain⟨j,b,rfl⟩:=b;exact Mk f a (abX.1 g j (abV b)) (l i j u b m)
theorem Zk{c2 c:Cf}{t:Nat->Nat}(e: ∀i,c2.N i->c.N (t i))(a: ∀i,c2.N i->c.ρ (t i)=c2.ρ i){d:D}(f:d.free=true){x:Value}(h:gN c2 d x):gN c (rnD t d) x:=by
 cases d with
 |one d=>exact Vn e a f h
 |dead=>trivial
 |tup m=>obtain⟨vs,j,hl,k⟩:=h;refine⟨vs,j,by simp[hl],fun i d u b l=> ?_⟩;simp only[abW,abR] at b;obtain⟨g,b,rfl⟩:=b;exact Vn e a (abX.1 f g (abV b)) (k i g u b l)
theorem aC.forget{f:FuncId}{args:List D}{K:afC}(h:aC P f args .nil 0 fun r H' _=>∃a,CvD H' (fun _=>True) id 0 a r/\K a .nil 0):aC P f args .nil 0 K:=by refine⟨h.1,fun c vs hs d hl hr=> ?_⟩;refine(h.2 c vs hs d hl hr).mono ?_;rintro x u ⟨v,c2,r,H2,w,rfl,rfl,e,m,y,z,n,a,p,q⟩;obtain⟨s,t⟩:=dk (nx:=0) (nh:=0) (σ:=id) (F:=fun _=>True) (H':=.nil) e m d (abG 0) (fun i hi=>rfl) ⟨fun id o h=>(by cases h),fun i j o o' h=>(by cases h)⟩;refine⟨v,c2.conv 0 0 id (c2.frI H2 fun _=>True),a,.nil,0,rfl,rfl,s,t,fun i hi=> ?_,abG _,z7 e (fun b h=>.inl h) (fun id o g k l=>.inr ⟨id,o,g,k,l,rfl⟩) (fun _ _=>rfl) p n,q⟩;rcases hi with⟨_,hi⟩|⟨g,k,l⟩<;>omega
theorem aC.aa5{f:FuncId}{args0 args:List D}{nx:Nat}{K:afC}{R:afC}(h:aC P f args0 .nil 0 fun r H' n'=>(r.free=true/\Vs H')/\R r H' n')(hlen:args.length=args0.length)
 (Z: ∀(i:Nat) (d0 d:D),args0[i]?=some d0->args[i]?=some d->CvD H (fun _=>True) id 0 d0 d) (hK: ∀r H' n',R r H' n'->K (rnD (fun i=>nx+i) r) (back (fun i=>nx+i) H' n' H) (nx+n')):aC P f args H nx K:=by
 refine⟨h.1,fun c vs hs hN hl hr=> ?_⟩
 have aa:Step {c with N:=fun _=>False} H c H:={
  ρ:=fun id h=>h.elim
  N:=fun id h=>h.elim
  I:=fun b h=>h
  I':=fun b h=>.inl h
  size:=abG _
  os:=rfl
  tape:=rfl
  output:=rfl
  frame:=fun _ _ _=>rfl
  own:=fun b h=>.inl h}
 have ad:=(dk (nx:=0) (nh:=0) (σ:=id) (F:=fun _=>True) (H':=.nil) hs aa (fun _ h=>h.elim) (abG 0) (fun i hi=>rfl) ⟨fun id o h=>(by cases h),fun i j o o' h=>(by cases h)⟩).1
 obtain⟨c1,B⟩: ∃c1,c1=c.conv 0 0 id (c.frI H fun _=>True):=⟨_,rfl⟩
 rw[<-B] at ad
 have Q:c1.w=c.w:=by rw[B];rfl
 have e2: ∀b,c.I b->c1.I b:=fun b z=>by rw[B];exact .inl z
 have e4: ∀i,¬c1.N i:=fun i hi=>by rw[B] at hi;rcases hi with⟨h,_⟩|⟨_,p,_⟩<;>omega
 have C:=h.2 c1 vs ad (fun i hi=>(e4 i hi).elim) (by rw[hl,hlen]) (fun i d0 v p e=>by
  have hi:i<args.length:=by rw[hlen];exact(abN.1 p).1
  have:=z7 (nx:=0) hs (I':=c.frI H fun _=>True) (fun b h=>.inl h) (fun id o p e m=>.inr ⟨id,o,p,e,m,rfl⟩) (fun i hi=>rfl) (Z i d0 _ p (abO hi)) (hr i _ v (abO hi) e)
  rw[B];exact this)
 rw[Q] at C
 apply C.mono
 rintro x w' ⟨v,c2,r,H2,Y,rfl,rfl,A,p2,p3,p4,p5,⟨p6,p7⟩,p8⟩
 have ah: ∀b,¬yA c1 .nil b:=by rintro b ⟨id,o,h,_⟩;cases h
 have E: ∀b,b<c.w.heap.size->c2.w.heap[b]?=c.w.heap[b]?:=fun b z=>by rw[<-Q];exact p2.frame b (by rw[Q];exact z) (ah b)
 have s: ∀i o,H2 i=some o->0<o.ext->c.w.heap.size<=(c2.ρ i).1:=fun i o p e=>by
  rcases p2.own _ ⟨i,o,p,e,rfl⟩ with h|h;·exact(ah _ h).elim
  ·rw[<-Q];exact h
 obtain⟨t,ht⟩: ∃t:Nat->Nat,t=fun i=>nx+i:=⟨_,rfl⟩
 have S: ∀i,t i=nx+i:=fun i=>by rw[ht]
 have aw: ∀i,c2.N i->i<Y:=fun i hi=>(p3 i hi).elim (fun h=>(e4 i h).elim) fun h=>h.2
 obtain⟨M,G⟩: ∃M:Cf,M= {ρ:=fun j=>if j<nx then c.ρ j else c2.ρ (j-nx),N:=fun j=>c.N j\/(nx<=j/\c2.N (j-nx)),I:=c.I,w:=c2.w}:=⟨_,rfl⟩
 have J:M.w=c2.w:=by rw[G]
 have q2:M.I=c.I:=by rw[G]
 have T: ∀j,j<nx->M.ρ j=c.ρ j:=fun j hj=>by rw[G];simp only;rw[if_pos hj]
 have q4: ∀j,M.N j↔c.N j\/(nx<=j/\c2.N (j-nx)):=fun j=>by rw[G]
 have q5: ∀i,c2.N i->M.N (t i):=fun i hi=>by rw[q4,S];exact .inr ⟨by omega,by rw[ae9];exact hi⟩
 have O: ∀i,c2.N i->M.ρ (t i)=c2.ρ i:=fun i hi=>by rw[G,S];simp only;rw[if_neg (by omega),ae9]
 have y: ∀j o,H j=some o->0<o.ext->(c.ρ j).1<c.w.heap.size:=fun j o n he=>(hs.blk j o n he).lt
 have q: ∀j o,H j=some o->j<nx:=fun j o n=>hN j (hs.named j o n)
 have hB: ∀j o,back t H2 Y H j=some o->(∃i g,i<Y/\t i=j/\H2 i=some g/\o=g.rn t)\/H j=some o:=by
  intro j o n;rcases IU t H2 H Y j (fun a b _ _ bb=>by rw[S,S] at bb;omega) with⟨i,p,e,m⟩|⟨p,e⟩
  ·rw[m] at n;simp only[abR] at n;obtain⟨g,h4,rfl⟩:=n;exact .inl ⟨i,g,p,e,h4,rfl⟩
  ·rw[e] at n;exact .inr n
 have L:Step c H M (back t H2 Y H):={
  ρ:=fun j hj=>T j (hN j hj)
  N:=fun j hj=>(q4 j).2 (.inl hj)
  I:=fun b z=>by rw[q2];exact z
  I':=fun b z=>by rw[q2] at z;exact .inl z
  size:=by rw[J,<-Q];exact p2.size
  os:=by rw[J,<-Q];exact p2.os
  tape:=by rw[J,<-Q];exact p2.tape
  output:=by rw[J,<-Q];exact p2.output
  frame:=fun b z _=>by rw[J];exact E b z
  own:=by
   rintro b ⟨j,o,k1,k2,rfl⟩;rcases hB j o k1 with⟨i,g,p,rfl,m,rfl⟩|e;·rw[O i (A.named i g m)];exact .inr (s i g m k2)
   ·exact .inl ⟨j,o,e,k2,by rw[T j (q j o e)]⟩}
 refine⟨v,M,rnD t r,back t H2 Y H,nx+Y,rfl,J,?_,L,?_,by omega,Zk q5 O p6 p5,by rw[ht];exact hK r H2 Y p8⟩
 ·refine {named:= ?_,wf:= ?_,blk:= ?_,cells:= ?_,sep:= ?_,imm:= ?_,old:= ?_}
  ·intro j o n;rcases hB j o n with⟨i,g,p,rfl,m,rfl⟩|e;·exact q5 i (A.named i g m)
   ·exact(q4 j).2 (.inl (hs.named j o e))
  ·intro j o n;rcases hB j o n with⟨i,g,p,rfl,m,rfl⟩|e;·obtain⟨k1,k2⟩:=A.wf i g m;refine⟨by simpa [bM.rn] using k1,fun i r hr=> ?_⟩;simp only[bM.rn,abW,abR] at hr;obtain⟨r0,hr,rfl⟩:=hr;simpa [bM.rn] using k2 i r0 hr
   ·exact hs.wf j o e
  ·intro j o n he;rcases hB j o n with⟨i,g,p,rfl,m,rfl⟩|e;·rw[O i (A.named i g m),J];exact(A.blk i g m he).Te rfl rfl fun _=>by simp[bM.rn]
   ·have:=hs.blk j o e he;rw[<-E _ (y j o e he),<-T j (q j o e),<-J] at this;exact this
  ·intro j o k l r d n hr hd;rcases hB j o n with⟨i,g,p,rfl,m,rfl⟩|e;·simp only[bM.rn,abW,abR] at hr;obtain⟨r0,hr,rfl⟩:=hr;simp only[abW,abR] at hd;obtain⟨d0,hd,rfl⟩:=hd;obtain⟨u,h5,h6⟩:=A.cells i g k l r0 d0 m hr hd;refine⟨u,?_,Mk q5 O (p7 i g m r0 (abV hr) d0 (abV hd)) h6⟩;rw[O i (A.named i g m),J];exact h5
   ·obtain⟨u,h5,h6⟩:=hs.cells j o k l r d e hr hd;have ab:0<o.ext:=by have:=(hs.wf j o e).1;have hk:k<o.rows.length:=(abN.1 hr).1;omega
    refine⟨u,?_,h6.step L hs⟩;rw[<-h5,T j (q j o e),J];exact World.cell?_of_block (w:=c.w) (E _ (y j o e ab))
  ·intro j j' o o' n bh he U ao;rcases hB j o n with⟨i,g,p,rfl,m,rfl⟩|e<;>rcases hB j' o' bh with⟨i',V,bk,rfl,W,rfl⟩|X;·rw[O i (A.named i g m),O i' (A.named i' V W)];exact A.sep i i' g V m W he U fun h=>ao (congrArg t h)
   ·rw[O i (A.named i g m),T j' (q j' o' X)];have a1:=s i g m he;have a2:=y j' o' X U;omega
   ·rw[O i' (A.named i' V W),T j (q j o e)];have a1:=s i' V W U;have a2:=y j o e he;omega
   ·rw[T j (q j o e),T j' (q j' o' X)];exact hs.sep j j' o o' e X he U ao
  ·intro j o n he;rw[q2];rcases hB j o n with⟨i,g,p,rfl,m,rfl⟩|e;·rw[O i (A.named i g m)];intro hI;have a1:=s i g m he;have a2:=hs.old _ hI;omega
   ·rw[T j (q j o e)];exact hs.imm j o e he
  ·intro b z;rw[q2] at z;have a1:=hs.old b z;have a2:=p2.size;rw[Q] at a2;rw[J];omega
 ·intro j hj;rcases(q4 j).1 hj with h|⟨p,e⟩
  ·exact .inl h
  ·right;have:=aw _ e;exact⟨p,by omega⟩
end
end Go.AM
namespace Go.Proofs.YtlncecohbakleaaGreat
open Go Go.AM
def zM:AC:= (SR [RO 3 1,RV 4 (ki 0)] [0,3] (SR [rq 5 (.move (.kv (.int .i64 (-1))))] [0,3,5] (.seq (SR [RD 9 7 3,RC 10 jV [9],RN 11 10,RV 12 (ki 0)] [0,5,10,11,12] (.block 0 (.loop (SR [RB 13 .lss 12 11] [0,5,10,11,12,13] (.seq (.cond 13 .skip (.exit 0)) (.seq (.block 1 (SR [RM 14 12,RI 15 1 10 12,RL 16 15,RM 6 14,RM 7 16] [0,5,6,7,10,11,12] (SR [RM 17 0,RM 18 7,RC 19 EW [17,18],RM 8 19] [0,5,6,8,10,11,12] (.seq (SR [RM 20 8,RB 21 .lss 20 (ki 0),RM 22 21,GM 23 6 22 false,GB 24 .gtr 23 (ki 0) 22 false,GM 25 24 22 false,GM 26 8 25 true,GM 27 5 25 true,GB 28 .neq 26 27 25 true,GQ 29 (.pick 25 28 kF) 22 false,RP 30 22 kT 29] [0,8,10,11,12,30] (.cond 30 (SR [rq 4 (.move (.kv (.int .i64 (-1))))] [4] .ret) .skip)) (RG [RM 31 8,RM 5 31] [0,5,10,11,12]))))) (RG [RB 32 .add 12 (ki 1),RM 12 32] [0,5,10,11,12]))))))) (SR [RM 33 5,RM 4 33] [4] .ret))))
def QG:List aW:=[.tm 4]
theorem jy:aQ afA Tryz.f253 (aX zM)=some (zM,QG):=by kernel_rfl
def iO:AC:= (SR [RV 2 (.kv (.slice none 0 0))] [0] (SR [RM 3 0,RC 4 gA [3],RC 5 gK [4],RM 2 5] [2] .ret))
def qU:List aW:=[.tm 2]
theorem FC:aQ afA Tryz.f260 (aX iO)=some (iO,qU):=by kernel_rfl
def jM:AC:= (SR [RV 2 (.kv (.slice none 0 0))] [0] (SR [RM 3 0,RM 4 0,RN 5 4,RM 6 0,RN 7 6,rq 8 (.slc 1 3 none (some 5) (some 7)),RM 2 8] [2] .ret))
def tV:List aW:=[.tm 2]
theorem HP:aQ afA Tryz.f261 (aX jM)=some (jM,tV):=by kernel_rfl
def iZ:AC:= (SR [RV 2 (.kv (.slice none 0 0))] [0] (.seq (SR [RM 3 0,rq 4 (.xop (.tY false) [3])] [0,4] (.cond 4 (SR [RV 2 (.kv (.slice none 0 0))] [2] .ret) .skip)) (SR [rq 5 (.aU 1 0 [VZ] []),RM 6 0,rq 7 (.append 1 5 6),RM 2 7] [2] .ret)))
def rI:List aW:=[.tm 2]
theorem F1:aQ afA Tryz.f262 (aX iZ)=some (iZ,rI):=by kernel_rfl
def mF:AC:= (SR [RO 1 0,RA 2 [OZ]] [1,2] (SR [rq 3 (.aU 1 0 [VZ] []),RF 4 0 1,RL 5 4,rq 6 (.append 1 3 5),rq 7 (.build [OZ] [(0,1,6)]),WS 1 true 2 7] [2] .ret))
def DZ:List aW:=[.cell 2 1 true]
theorem N3:aQ afA Tryz.f269 (aX mF)=some (mF,DZ):=by kernel_rfl
def AG:AC:= (SR [RO 1 0,RA 2 [VZ,VZ,OZ]] [1,2] (SR [RF 3 0 1,RW 4 3 [4] [] true,RF 5 1 1,RW 6 5 [4] [] true,rq 7 (.aU 1 0 [VZ] []),RF 8 2 1,RW 9 8 [4] [] false,RX 10 (.append 1 7 9) [] [1,3] false,rq 11 (.build [VZ,VZ,OZ] [(0,1,4),(1,1,6),(2,1,10)]),WS 3 true 2 11] [2] .ret))
def PO:List aW:=[.cell 2 3 true]
theorem kk:aQ afA Tryz.f270 (aX AG)=some (AG,PO):=by kernel_rfl
def zC:AC:= (SR [RV 2 kF] [0] (.seq (SR [RM 5 0,RN 6 5,RV 7 (ki 0)] [0,5,6,7] (.block 0 (.loop (SR [RB 8 .lss 7 6] [0,5,6,7,8] (.seq (.cond 8 .skip (.exit 0)) (.seq (.block 1 (SR [RM 9 7,RI 10 4 5 7,RD 11 4 10,RA 4 [VZ,VZ,VZ,(.v (.bool false))],RM 3 9,WS 4 true 4 11] [0,3,4,5,6,7] (SR [RF 12 0 4,RL 13 12,RC 14 dZ [13,(ki 0),(ki 63)],RU 15 14,RM 16 15,GF 17 1 4 16 false,GL 18 17 16 false,GF 19 0 4 16 false,GL 20 19 16 false,GQ 21 (.call dZ [18,20,(ki 63)]) 16 false,GU 22 21 16 false,RP 23 16 kT 22,RM 24 23,GF 25 2 4 24 false,GL 26 25 24 false,GQ 27 (.call dZ [26,(ki 0),(ki 2)]) 24 false,GU 28 27 24 false,RP 29 24 kT 28,RM 30 29,GM 31 0 30 false,GM 32 3 30 false,GQ 33 (.slc 4 31 none (some 32) none) 30 false,GQ 34 (.xop (.FV E5) [4]) 30 false,GQ 35 (.call cS [33,34]) 30 false,RP 36 30 kT 35] [0,5,6,7,36] (.cond 36 (SR [RV 2 kF] [2] .ret) .skip)))) (RG [RB 37 .add 7 (ki 1),RM 7 37] [0,5,6,7]))))))) (SR [RM 38 0,RN 39 38,RB 40 .leq 39 (ki 4),RM 2 40] [2] .ret)))
def QO:List aW:=[.tm 2]
theorem ji:aQ afA Tryz.f271 (aX zC)=some (zC,QO):=by kernel_rfl
def sP:AC:= (SR [RV 2 kF] [0] (SR [RM 3 0,RC 4 dZ [3,(ki 0),(ki 3)],RU 5 4,RM 2 5] [2] .ret))
def KQ:List aW:=[.tm 2]
theorem WZ:aQ afA Tryz.f272 (aX sP)=some (sP,KQ):=by kernel_rfl
def c8:AC:= (SR [RV 4 kF] [0,1] (SR [RM 5 0,RM 6 1,RC 7 eC [5,6],RB 8 .geq 7 (ki 0),RM 4 8] [4] .ret))
def iX:List aW:=[.tm 4]
theorem oQ:aQ afA Tryz.f273 (aX c8)=some (c8,iX):=by kernel_rfl
def sD:AC:= (SR [RV 2 kF] [0] (SR [RM 3 0,RN 4 3,RB 5 .gtr 4 (ki 12),RM 6 5,GM 7 0 6 false,GQ 8 (.call dW [7,(.fn y9)]) 6 false,RP 9 6 kT 8,RM 2 9] [2] .ret))
def KF:List aW:=[.tm 2]
theorem WD:aQ afA Tryz.f274 (aX sD)=some (sD,KF):=by kernel_rfl
def dU:AC:= (SR [RV 4 kF] [0,1] (SR [RM 5 0,RM 6 1,RC 7 eQ [5,6],RB 8 .geq 7 (ki 0),RM 4 8] [4] .ret))
def jO:List aW:=[.tm 4]
theorem qA:aQ afA Tryz.f275 (aX dU)=some (dU,jO):=by kernel_rfl
def oF:AC:= (SR [RO 1 0,RV 2 kF] [1] (SR [RD 3 7 1,RC 4 JR [3],RU 5 4,RM 2 5] [2] .ret))
def FY:List aW:=[.tm 2]
theorem TE:aQ afA Tryz.f276 (aX oF)=some (oF,FY):=by kernel_rfl
def zR:AC:= (SR [RO 1 0,RV 2 kF] [1] (SR [RV 3 (ki 0)] [1,3] (.seq (SR [RD 4 7 1,RC 5 jF [4]] [1,3,5] (.cond 5 (RG [RF 6 3 1,RL 7 6,RM 3 7] [1,3]) .skip)) (SR [RF 8 0 1,RL 9 8,RC 10 dZ [9,(ki 0),(ki 1)],RM 11 10,GF 12 1 1 11 true,GL 13 12 11 true,GQ 14 (.call dZ [13,(ki 1),(ki 4)]) 11 true,RP 15 11 14 kF,RM 16 15,GF 17 2 1 16 true,GL 18 17 16 true,GF 19 3 1 16 true,GL 20 19 16 true,GF 21 4 1 16 true,GL 22 21 16 true,GQ 23 (.call vA [18,20,22]) 16 true,RP 24 16 23 kF,RM 25 24,GF 26 5 1 25 true,GL 27 26 25 true,GQ 28 (.len false 27) 25 true,GM 29 3 25 true,GB 30 .eql 28 29 25 true,RP 31 25 30 kF,RM 32 31,GF 33 6 1 32 true,GL 34 33 32 true,GQ 35 (.len false 34) 32 true,GM 36 3 32 true,GB 37 .eql 35 36 32 true,RP 38 32 37 kF,RM 39 38,GF 40 5 1 39 true,GL 41 40 39 true,GQ 42 (.call nI [41]) 39 true,RP 43 39 42 kF,RM 44 43,GF 45 6 1 44 true,GL 46 45 44 true,GQ 47 (.call cF [46,(.fn EK)]) 44 true,GU 48 47 44 true,RP 49 44 48 kF,RM 50 49,GF 51 1 1 50 true,GL 52 51 50 true,GB 53 .eql 52 (ki 1) 50 true,GM 54 53 50 true,GF 55 1 1 54 false,GL 56 55 54 false,GB 57 .eql 56 (ki 2) 54 false,GQ 58 (.pick 54 kT 57) 50 true,GM 59 58 50 true,GF 60 3 1 59 false,GL 61 60 59 false,GB 62 .eql 61 (ki 1) 59 false,GQ 63 (.pick 59 kT 62) 50 true,RP 64 50 63 kF,RM 2 64] [2] .ret))))
def O2:List aW:=[.tm 2]
theorem kl:aQ afA Tryz.f277 (aX zR)=some (zR,O2):=by kernel_rfl
def AE:AC:= (SR [RO 1 0,RV 2 kF] [1] (SR [RF 3 0 1,RL 4 3,RN 5 4,RB 6 .eql 5 (ki 64),RM 7 6,GF 8 0 1 7 true,GL 9 8 7 true,GQ 10 (.call nI [9]) 7 true,RP 11 7 10 kF,RM 2 11] [2] .ret))
def O0:List aW:=[.tm 2]
theorem oa:aQ afA Tryz.f278 (aX AE)=some (AE,O0):=by kernel_rfl
def sR:AC:= (SR [RV 2 kF] [0] (SR [RM 3 0,RC 4 dZ [3,(.kv (.int .i64 (-1))),(ki 63)],RU 5 4,RM 2 5] [2] .ret))
def J5:List aW:=[.tm 2]
theorem XA:aQ afA Tryz.f279 (aX sR)=some (sR,J5):=by kernel_rfl
def oM:AC:= (SR [RO 3 0,RV 6 (ki 0)] [1,2,3] (SR [RF 7 2 3,RL 8 7,RM 9 1,RI 10 1 8 9,RL 11 10,RM 12 2,RI 13 7 11 12,RF 14 0 13,RL 15 14,RM 6 15] [6] .ret))
def FX:List aW:=[.tm 6]
theorem SM:aQ afA Tryz.f280 (aX oM)=some (oM,FX):=by kernel_rfl
def p9:AC:= (SR [RV 2 kF] [0] (SR [RM 3 0,RC 4 dZ [3,(ki 0),(ki 2)],RM 2 4] [2] .ret))
def HZ:List aW:=[.tm 2]
theorem UM:aQ afA Tryz.f281 (aX p9)=some (p9,HZ):=by kernel_rfl
def AN:AC:= (SR [RO 1 0,RV 2 kF] [1] (SR [RF 3 0 1,RL 4 3,RC 5 dZ [4,(ki 0),(ki 1)],RM 6 5,GF 7 1 1 6 true,GL 8 7 6 true,GQ 9 (.call dZ [8,(ki 1),(ki 4)]) 6 true,RP 10 6 9 kF,RM 11 10,GF 12 2 1 11 true,GL 13 12 11 true,GQ 14 (.len false 13) 11 true,GB 15 .leq 14 (ki 4) 11 true,RP 16 11 15 kF,RM 17 16,GF 18 2 1 17 true,GL 19 18 17 true,GQ 20 (.call nI [19]) 17 true,RP 21 17 20 kF,RM 2 21] [2] .ret))
def PH:List aW:=[.tm 2]
theorem jw:aQ afA Tryz.f283 (aX AN)=some (AN,PH):=by kernel_rfl
def xH:AC:= (SR [RV 2 kF] [0] (.seq (SR [RV 3 (ki 1)] [0,3] (.block 0 (.loop (.seq (SR [RM 4 3,RM 5 0,RN 6 5,RB 7 .lss 4 6] [0,3,7] (.cond 7 .skip (.exit 0))) (.seq (.block 1 (SR [RM 10 0,RM 11 3,RB 12 .sub 11 (ki 1),RI 13 5 10 12,RD 14 5 13,RM 15 0,RM 16 3,RI 17 5 15 16,RD 18 5 17,RC 19 cE [14,18],RB 20 .geq 19 (ki 0)] [0,3,20] (.cond 20 (SR [RV 2 kF] [2] .ret) .skip))) (RG [RM 8 3,RB 9 .add 8 (ki 1),RM 3 9] [0,3])))))) (SR [RV 2 kT] [2] .ret)))
def MK:List aW:=[.tm 2]
theorem YR:aQ afA Tryz.f284 (aX xH)=some (xH,MK):=by kernel_rfl
def mC:AC:= (SR [RO 1 0,RV 2 kF] [1] (SR [RF 3 0 1,RL 4 3,RB 5 .eql 4 (ki 0),RM 6 5,GF 7 1 1 6 true,GL 8 7 6 true,GB 9 .eql 8 (ki 0) 6 true,RP 10 6 9 kF,RM 11 10,GF 12 2 1 11 true,GL 13 12 11 true,GQ 14 (.len false 13) 11 true,GB 15 .eql 14 (ki 0) 11 true,RP 16 11 15 kF,RM 2 16] [2] .ret))
def B5:List aW:=[.tm 2]
theorem OP:aQ afA Tryz.f285 (aX mC)=some (mC,B5):=by kernel_rfl
def gI:AC:= (SR [RV 4 (ki 0)] [0,1] (.seq (SR [RM 6 0,RN 7 6,RV 8 (ki 0)] [0,1,7,8] (.block 0 (.loop (SR [RB 9 .lss 8 7] [0,1,7,8,9] (.seq (.cond 9 .skip (.exit 0)) (.seq (.block 1 (SR [RM 10 8,RM 5 10] [0,1,5,7,8] (SR [RM 11 1,RM 12 0,RM 13 5,RI 14 1 12 13,RL 15 14,rq 16 (.AX 11 [15])] [0,1,5,7,8,16] (.cond 16 (SR [RM 17 5,RM 4 17] [4] .ret) .skip)))) (RG [RB 18 .add 8 (ki 1),RM 8 18] [0,1,7,8]))))))) (SR [rq 4 (.move (.kv (.int .i64 (-1))))] [4] .ret)))
def nW:List aW:=[.tm 4]
theorem BW:aQ afA Tryz.f286 (aX gI)=some (gI,nW):=by kernel_rfl
def sU:AC:= (SR [RV 2 (ki 0)] [0] (SR [RM 3 0,RC 4 aD [3,(ki 4)],RM 5 0,RC 6 aD [5,(ki 4)],RB 7 .add (ki 16) 6,RM 8 0,RC 9 aD [8,(ki 4)],RB 10 .add (ki 32) 9,RM 11 0,RC 12 aD [11,(ki 64)],RM 13 0,RC 14 aD [13,(ki 5)],RB 15 .add (ki 13) 14,RM 16 0,RC 17 aD [16,(ki 4)],RB 18 .add (ki 60) 17,rq 19 (.aU 1 6 [VZ] [(0,1,4),(1,1,7),(2,1,10),(3,1,12),(4,1,15),(5,1,18)]),rq 20 (.aU 1 8 [VZ] [(0,1,(ki 0)),(1,1,(ki 0)),(2,1,(ki 1)),(3,1,(ki 1)),(4,1,(ki 2)),(5,1,(ki 3)),(6,1,(ki 4)),(7,1,(ki 5))]),RM 21 0,RC 22 aD [21,(ki 8)],RI 23 1 20 22,RL 24 23,RI 25 1 19 24,RL 26 25,RM 2 26] [2] .ret))
def K4:List aW:=[.tm 2]
theorem WG:aQ afA Tryz.f287 (aX sU)=some (sU,K4):=by kernel_rfl
def qN:AC:= (SR [RO 1 0,RV 2 kF] [1] (SR [RF 3 1 1,RL 4 3,RB 5 .eql 4 (ki 2),RM 6 5,GF 7 1 1 6 false,GL 8 7 6 false,GB 9 .eql 8 (ki 4) 6 false,RP 10 6 kT 9,RM 2 10] [2] .ret))
def HM:List aW:=[.tm 2]
theorem U5:aQ afA Tryz.f288 (aX qN)=some (qN,HM):=by kernel_rfl
def AR:AC:= (SR [RO 2 0,RV 4 (.kv (.slice none 0 0))] [1,2] (SR [rq 7 (.aU 1 0 [VZ] []),RM 5 7] [1,2,5] (.seq (SR [RV 6 (ki 0)] [1,2,5,6] (.block 0 (.loop (.seq (SR [RM 8 6,RM 9 1,RN 10 9,RB 11 .lss 8 10] [1,2,5,6,11] (.cond 11 .skip (.exit 0))) (.seq (.block 1 (RG [RM 14 5,RF 15 0 2,RL 16 15,RM 17 1,RM 18 6,RI 19 1 17 18,RL 20 19,RI 21 1 16 20,RL 22 21,rq 23 (.aU 1 1 [VZ] [(0,1,22)]),rq 24 (.append 1 14 23),RM 5 24] [1,2,5,6])) (RG [RM 12 6,RB 13 .add 12 (ki 1),RM 6 13] [1,2,5,6])))))) (SR [RM 25 5,RM 4 25] [4] .ret))))
def O3:List aW:=[.tm 4]
theorem iy:aQ afA Tryz.f289 (aX AR)=some (AR,O3):=by kernel_rfl
def zE:AC:= (SR [RO 4 0,RA 8 [OZ]] [1,2,3,4,8] (.seq (SR [RV 9 (ki 0)] [1,2,3,4,8,9] (.block 0 (.loop (.seq (SR [RM 10 9,RM 11 1,RN 12 11,RB 13 .lss 10 12] [1,2,3,4,8,9,13] (.cond 13 .skip (.exit 0))) (.seq (.block 1 (RG [RF 16 0 4,RW 17 16 [] [] true,RM 18 1,RM 19 9,RI 20 1 18 19,RW 21 20 [] [] true,RF 22 0 4,RL 23 22,RM 24 1,RM 25 9,RI 26 1 24 25,RL 27 26,RI 28 1 23 27,RL 29 28,RM 30 2,RM 31 9,RI 32 1 30 31,RL 33 32,RM 34 3,RM 35 9,RI 36 1 34 35,RL 37 36,RX 38 (.call GK [29,33,37]) [] [1,5] false,RI 39 1 17 21,WS 1 false 39 38] [1,2,3,4,8,9])) (RG [RM 14 9,RB 15 .add 14 (ki 1),RM 9 15] [1,2,3,4,8,9])))))) (SR [RD 40 1 4,WS 1 true 8 40] [8] .ret)))
def PC:List aW:=[.cell 8 1 true]
theorem jn:aQ afA Tryz.f290 (aX zE)=some (zE,PC):=by kernel_rfl
def wK:AC:= (SR [RO 2 0,RA 4 [OZ,OZ]] [1,2,4] (.seq (SR [RV 5 (ki 0)] [1,2,4,5] (.block 0 (.loop (.seq (SR [RM 7 5,RF 8 1 2,RL 9 8,RN 10 9,RB 11 .lss 7 10] [1,2,4,5,11] (.cond 11 .skip (.exit 0))) (.seq (.block 1 (SR [RV 6 (ki 0)] [1,2,4,5,6] (.block 2 (.loop (.seq (SR [RM 14 6,RM 15 1,RN 16 15,RB 17 .lss 14 16] [1,2,4,5,6,17] (.cond 17 .skip (.exit 2))) (.seq (.block 3 (SR [RF 20 1 2,RL 21 20,RM 22 5,RI 23 1 21 22,RL 24 23,RM 25 1,RM 26 6,RI 27 1 25 26,RL 28 27,RB 29 .eql 24 28] [1,2,4,5,6,29] (.cond 29 (RG [RF 30 1 2,RL 31 30,RM 32 5,RI 33 1 31 32,rn (.store 1 false 33 (.kv (.int .i64 (-1))))] [1,2,4,5,6]) .skip))) (RG [RM 18 6,RB 19 .add 18 (ki 1),RM 6 19] [1,2,4,5,6]))))))) (RG [RM 12 5,RB 13 .add 12 (ki 1),RM 5 13] [1,2,4,5])))))) (SR [RD 34 2 2,WS 2 true 4 34] [4] .ret)))
def MQ:List aW:=[.cell 4 2 true]
theorem Z4:aQ afA Tryz.f291 (aX wK)=some (wK,MQ):=by kernel_rfl
def pZ:AC:= (SR [RO 2 0,RO 3 1,RV 4 kF] [2,3] (SR [RF 5 0 2,RL 6 5,RF 7 0 3,RL 8 7,RB 9 .lss 6 8,RM 10 9,GF 11 0 2 10 false,GL 12 11 10 false,GF 13 0 3 10 false,GL 14 13 10 false,GB 15 .eql 12 14 10 false,GM 16 15 10 false,GF 17 1 2 16 true,GL 18 17 16 true,GF 19 1 3 16 true,GL 20 19 16 true,GB 21 .lss 18 20 16 true,GQ 22 (.pick 16 21 kF) 10 false,RP 23 10 kT 22,RM 4 23] [4] .ret))
def IC:List aW:=[.tm 4]
theorem T0:aQ afA Tryz.f292 (aX pZ)=some (pZ,IC):=by kernel_rfl
def wY:AC:= (SR [RA 4 [VZ,VZ,VZ,VZ,(.v (.bool false)),OZ,OZ]] [0,1,4] (.seq (.region [RM 7 0 0,RM 9 0 2,RM 12 0 5,rq 14 (.aU 1 4 [VZ] [(0,1,(ki 1)),(1,1,(ki 1)),(2,1,(ki 2)),(3,1,(ki 4))]) 7,RM 15 0 8,RM 19 0 12,RA 5 [VZ,VZ,VZ,VZ,(.v (.bool false)),OZ,OZ] 16,RX 8 (.call aD [7,(ki 2)]) [7,16] [] false 1,RX 10 (.call aD [9,(ki 4)]) [7,16] [] false 3,RB 11 .add (ki 1) 10 4,RX 13 (.call oY [12]) [7,16] [] false 6,RX 16 (.call aD [15,(ki 4)]) [7,16] [] false 9,RI 17 1 14 16 10,RW 18 17 [16] [] true 11,RX 20 (.call aD [19,(ki 3)]) [7,16] [11] false 13,RB 21 .eql 20 (ki 0) 14,rq 22 (.build [VZ,VZ,VZ,VZ,(.v (.bool false)),OZ,OZ] [(0,1,8),(1,1,11),(2,1,13),(3,1,18),(4,1,21)]) 15,WS 7 true 5 22 17] 18 [0,1,4,5]) (.seq (SR [RF 23 1 5,RL 24 23,RB 25 .geq 24 (ki 3)] [0,1,4,5,25] (.cond 25 (SR [RF 26 3 5,WS 1 false 26 (ki 1)] [0,1,4,5] (RG [rq 27 (.aU 1 4 [VZ] [(0,1,(ki 0)),(1,1,(ki 1)),(2,1,(ki 16)),(3,1,(ki 32))]),RM 28 0,RC 29 aD [28,(ki 4)],RI 30 1 27 29,RL 31 30,RF 32 2 5,WS 1 false 32 31] [0,1,4,5])) .skip)) (.seq (SR [RF 33 4 5,RL 34 33,RU 35 34,RM 36 35,GF 37 2 5 36 true,GL 38 37 36 true,GF 39 3 5 36 true,GL 40 39 36 true,GB 41 .add 38 40 36 true,GB 42 .sub 41 (ki 1) 36 true,GB 43 .gtr 42 (ki 63) 36 true,RP 44 36 43 kF] [0,1,4,5,44] (.cond 44 (RG [RF 45 3 5,RL 46 45,RB 47 .sub (ki 63) 46,RB 48 .add 47 (ki 1),RF 49 2 5,WS 1 false 49 48] [0,1,4,5]) .skip)) (.seq (SR [RF 50 1 5,RL 51 50,RB 52 .eql 51 (ki 2),RM 53 52,GF 54 1 5 53 false,GL 55 54 53 false,GB 56 .eql 55 (ki 4) 53 false,RP 57 53 kT 56] [0,1,4,5,57] (.cond 57 (SR [RV 6 (ki 0)] [0,1,4,5,6] (.block 0 (.loop (.seq (SR [RM 58 6,RF 59 3 5,RL 60 59,RB 61 .lss 58 60] [0,1,4,5,6,61] (.cond 61 .skip (.exit 0))) (.seq (.block 1 (.seq (.region [RF 64 5 5 0,RW 65 64 [7,12] [] true 1,RM 66 0 2,RM 69 0 5,RM 72 0 8,RX 67 (.call aD [66,(ki 256)]) [] [1] false 3,RB 68 .mul 67 (ki 257) 4,RX 70 (.call aD [69,(ki 10)]) [] [1] false 6,rq 71 (.aU 1 4 [VZ] [(0,1,68),(1,1,70),(2,1,(ki 65535)),(3,1,(ki 0))]) 7,RX 73 (.call aD [72,(ki 4)]) [7] [1] false 9,RI 74 1 71 73 10,RL 75 74 11,rq 76 (.aU 1 1 [VZ] [(0,1,75)]) 12,rq 77 (.append 1 65 76) 13,RF 78 5 5 14,WS 1 false 78 77 15] 16 [0,1,4,5,6]) (RG [RF 79 6 5,RW 80 79 [2,7] [] true,rq 81 (.aU 1 5 [VZ] [(0,1,(ki 3)),(1,1,(ki 3)),(2,1,(ki 1)),(3,1,(ki 2)),(4,1,(ki 0))]),RM 82 0,RX 83 (.call aD [82,(ki 5)]) [2] [1] false,RI 84 1 81 83,RL 85 84,rq 86 (.aU 1 1 [VZ] [(0,1,85)]),rq 87 (.append 1 80 86),RF 88 6 5,WS 1 false 88 87] [0,1,4,5,6]))) (RG [RM 62 6,RB 63 .add 62 (ki 1),RM 6 63] [0,1,4,5,6])))))) .skip)) (.seq (SR [RM 89 0,RM 90 1,RC 91 cM [89,90]] [0,4,5,91] (.cond 91 (SR [RM 92 0,RC 93 aD [92,(ki 7)]] [0,4,5,93] (.block 2 (SR [RB 107 .eql 93 (ki 0),RM 106 107] [0,4,5,93,106] (.cond 106 (RG [rq 108 (.aU 1 2 [VZ] [(0,1,(.kv (.int .i64 (-1)))),(1,1,(ki 2))]),RM 109 0,RC 110 aD [109,(ki 2)],RI 111 1 108 110,RL 112 111,RF 113 0 5,WS 1 false 113 112] [4,5]) (SR [RB 115 .eql 93 (ki 1),RM 114 115] [0,4,5,93,114] (.cond 114 (RG [rq 116 (.aU 1 2 [VZ] [(0,1,(ki 0)),(1,1,(ki 5))]),RM 117 0,RC 118 aD [117,(ki 2)],RI 119 1 116 118,RL 120 119,RF 121 1 5,WS 1 false 121 120] [4,5]) (SR [RB 123 .eql 93 (ki 2),RM 122 123] [0,4,5,93,122] (.cond 122 (RG [rq 124 (.aU 1 3 [VZ] [(0,1,(.kv (.int .i64 (-1)))),(1,1,(ki 64)),(2,1,(ki 63))]),RM 125 0,RC 126 aD [125,(ki 3)],RI 127 1 124 126,RL 128 127,RF 129 2 5,WS 1 false 129 128] [4,5]) (SR [RB 131 .eql 93 (ki 3),RM 130 131] [0,4,5,93,130] (.cond 130 (RG [rq 132 (.aU 1 4 [VZ] [(0,1,(ki 0)),(1,1,(ki 3)),(2,1,(ki 8)),(3,1,(ki 4))]),RM 133 0,RC 134 aD [133,(ki 4)],RI 135 1 132 134,RL 136 135,RF 137 3 5,WS 1 false 137 136] [4,5]) (SR [RB 139 .eql 93 (ki 4),RM 138 139] [0,4,5,93,138] (.cond 138 (RG [RF 140 5 5,RL 141 140,rq 142 (.aU 1 1 [VZ] [(0,1,(ki 5))]),rq 143 (.append 1 141 142),RF 144 5 5,WS 1 false 144 143] [4,5]) (SR [RB 146 .eql 93 (ki 5),RM 145 146] [0,4,5,145] (.cond 145 (RG [RF 147 6 5,RL 148 147,rq 149 (.aU 1 1 [VZ] [(0,1,(ki 1))]),rq 150 (.append 1 148 149),RF 151 6 5,WS 1 false 151 150] [4,5]) (SR [RF 94 5 5,RL 95 94,RN 96 95,RB 97 .gtr 96 (ki 0)] [0,4,5,97] (.cond 97 (RG [RF 98 5 5,RW 99 98 [2] [] true,rq 100 (.aU 1 2 [VZ] [(0,1,(.kv (.int .i64 (-1)))),(1,1,(ki 65536))]),RM 101 0,RX 102 (.call aD [101,(ki 2)]) [2] [1] false,RI 103 1 100 102,RL 104 103,RI 105 1 99 (ki 0),WS 1 false 105 104] [4,5]) .skip)))))))))))))))) .skip)) (SR [RD 152 7 5,WS 7 true 4 152] [4] .ret)))))))
def wQ:List aW:=[.cell 4 7 true]
theorem cj:aQ afA Tryz.f205 (aX wY)=some (wY,wQ):=by kernel_rfl
def jL:AC:= (SR [RO 1 0,RA 2 [OZ,OZ,OZ,OZ,OZ]] [1,2] (.seq (.region [RF 8 0 1 0,RX 9 (.load 2 true 8) [13] [] false 1,RF 11 2 1 3,RW 12 11 [13] [] true 4,RF 14 3 1 6,RW 15 14 [13] [] true 7,RF 17 4 1 9,RW 18 17 [13] [] true 10,RA 3 [OZ,OZ,OZ,OZ,OZ] 13,RX 10 (.call iG [9]) [13] [4,7,10] false 2,RX 13 (.call iP [12]) [13] [7,10] false 5,RX 16 (.call iD [15]) [13] [10] false 8,RX 19 (.call iI [18]) [13] [] false 11,rq 20 (.build [OZ,OZ,OZ,OZ,OZ] [(0,2,10),(2,1,13),(3,1,16),(4,1,19)]) 12,WS 5 true 3 20 14] 15 [1,2,3]) (.seq (SR [RF 21 2 1,RL 22 21,RN 23 22,RV 24 (ki 0)] [1,2,3,22,23,24] (.block 0 (.loop (SR [RB 25 .lss 24 23] [1,2,3,22,23,24,25] (.seq (.cond 25 .skip (.exit 0)) (.seq (.block 1 (SR [RM 26 24,RI 27 4 22 24,RD 28 4 27,RA 5 [VZ,OZ,OZ,VZ],RM 4 26,WS 4 true 5 28] [1,2,3,4,5,22,23,24] (.region [RF 29 2 3 0,RW 30 29 [] [] true 1,RM 31 4 2,RF 32 2 3 3,RW 33 32 [] [] true 4,RM 34 4 5,RF 35 1 5 6,RL 36 35 7,RF 38 2 5 9,RW 39 38 [] [] true 10,RX 37 (.call gW [36]) [] [1,4,10] false 8,RX 40 (.call gH [39]) [] [1,4] false 11,RI 41 4 30 31 12,RF 42 1 41 13,RY none (.store 1 false 42 37) none [] [4] false 14,RI 43 4 33 34 15,RF 44 2 43 16,WS 1 false 44 40 17] 18 [1,2,3,22,23,24]))) (RG [RB 45 .add 24 (ki 1),RM 24 45] [1,2,3,22,23,24]))))))) (.seq (SR [RF 46 3 1,RL 47 46,RN 48 47,RV 49 (ki 0)] [2,3,47,48,49] (.block 2 (.loop (SR [RB 50 .lss 49 48] [2,3,47,48,49,50] (.seq (.cond 50 .skip (.exit 2)) (.seq (.block 3 (SR [RM 51 49,RI 52 3 47 49,RD 53 3 52,RA 7 [OZ,OZ,VZ],RM 6 51,WS 3 true 7 53] [2,3,6,7,47,48,49] (.region [RF 54 3 3 0,RW 55 54 [] [] true 1,RM 56 6 2,RF 57 3 3 3,RW 58 57 [] [] true 4,RM 59 6 5,RF 60 0 7 6,RL 61 60 7,RF 63 1 7 9,RW 64 63 [] [] true 10,RX 62 (.call gH [61]) [] [1,4,10] false 8,RX 65 (.call iI [64]) [] [1,4] false 11,RI 66 3 55 56 12,RF 67 0 66 13,RY none (.store 1 false 67 62) none [] [4] false 14,RI 68 3 58 59 15,RF 69 1 68 16,WS 1 false 69 65 17] 18 [2,3,47,48,49]))) (RG [RB 70 .add 49 (ki 1),RM 49 70] [2,3,47,48,49]))))))) (SR [RD 71 5 3,WS 5 true 2 71] [2] .ret)))))
def tW:List aW:=[.cell 2 5 true]
theorem HI:aQ afA Tryz.f96 (aX jL)=some (jL,tW):=by kernel_rfl
def iF:AC:= (SR [RV 2 (.kv (.slice none 0 0))] [0] (SR [RM 3 0,RC 4 fG [3],RC 5 fU [4],RM 2 5] [2] .ret))
def pD:List aW:=[.tm 2]
theorem D4:aQ afA Tryz.f182 (aX iF)=some (iF,pD):=by kernel_rfl
def gY:AC:= (SR [RV 2 (.kv (.slice none 0 0))] [0] (SR [RM 3 0,RC 4 eO [3],RC 5 eY [4],RM 2 5] [2] .ret))
def oE:List aW:=[.tm 2]
theorem DK:aQ afA Tryz.f183 (aX gY)=some (gY,oE):=by kernel_rfl
def iQ:AC:= (SR [RV 2 (.kv (.slice none 0 0))] [0] (SR [RM 3 0,RC 4 fZ [3],RC 5 gJ [4],RM 2 5] [2] .ret))
def qT:List aW:=[.tm 2]
theorem FD:aQ afA Tryz.f186 (aX iQ)=some (iQ,qT):=by kernel_rfl
def fK:AC:= (SR [RV 2 (.kv (.slice none 0 0))] [0] (SR [RM 3 0,RM 4 0,RN 5 4,RM 6 0,RN 7 6,rq 8 (.slc 4 3 none (some 5) (some 7)),RM 2 8] [2] .ret))
def l5:List aW:=[.tm 2]
theorem xQ:aQ afA Tryz.f256 (aX fK)=some (fK,l5):=by kernel_rfl
def fA:AC:= (SR [RV 2 (.kv (.slice none 0 0))] [0] (.seq (SR [RM 3 0,rq 4 (.xop (.tY false) [3])] [0,4] (.cond 4 (SR [RV 2 (.kv (.slice none 0 0))] [2] .ret) .skip)) (SR [rq 5 (.aU 4 0 [VZ,OZ,OZ,VZ] []),RM 6 0,rq 7 (.append 4 5 6),RM 2 7] [2] .ret)))
def lJ:List aW:=[.tm 2]
theorem vV:aQ afA Tryz.f257 (aX fA)=some (fA,lJ):=by kernel_rfl
def eP:AC:= (SR [RV 2 (.kv (.slice none 0 0))] [0] (SR [RM 3 0,RM 4 0,RN 5 4,RM 6 0,RN 7 6,rq 8 (.slc 3 3 none (some 5) (some 7)),RM 2 8] [2] .ret))
def kX:List aW:=[.tm 2]
theorem tZ:aQ afA Tryz.f258 (aX eP)=some (eP,kX):=by kernel_rfl
def eJ:AC:= (SR [RV 2 (.kv (.slice none 0 0))] [0] (.seq (SR [RM 3 0,rq 4 (.xop (.tY false) [3])] [0,4] (.cond 4 (SR [RV 2 (.kv (.slice none 0 0))] [2] .ret) .skip)) (SR [rq 5 (.aU 3 0 [OZ,OZ,VZ] []),RM 6 0,rq 7 (.append 3 5 6),RM 2 7] [2] .ret)))
def kM:List aW:=[.tm 2]
theorem tJ:aQ afA Tryz.f259 (aX eJ)=some (eJ,kM):=by kernel_rfl
def gC:AC:= (SR [RV 2 (.kv (.slice none 0 0))] [0] (SR [RM 3 0,RM 4 0,RN 5 4,RM 6 0,RN 7 6,rq 8 (.slc 3 3 none (some 5) (some 7)),RM 2 8] [2] .ret))
def mX:List aW:=[.tm 2]
theorem AU:aQ afA Tryz.f263 (aX gC)=some (gC,mX):=by kernel_rfl
def fQ:AC:= (SR [RV 2 (.kv (.slice none 0 0))] [0] (.seq (SR [RM 3 0,rq 4 (.xop (.tY false) [3])] [0,4] (.cond 4 (SR [RV 2 (.kv (.slice none 0 0))] [2] .ret) .skip)) (SR [rq 5 (.aU 3 0 [VZ,VZ,VZ] []),RM 6 0,rq 7 (.append 3 5 6),RM 2 7] [2] .ret)))
def mO:List aW:=[.tm 2]
theorem yJ:aQ afA Tryz.f264 (aX fQ)=some (fQ,mO):=by kernel_rfl
def zD:AC:= (SR [RO 1 0,RV 2 kF] [1] (.seq (SR [RF 4 0 1,RL 5 4,RC 6 DD [5],RU 7 6,RM 8 7,GF 9 1 1 8 false,GL 10 9 8 false,GQ 11 (.len false 10) 8 false,GB 12 .neq 11 (ki 4) 8 false,RP 13 8 kT 12,RM 14 13,GF 15 1 1 14 false,GL 16 15 14 false,GQ 17 (.call nE [16,(ki 0),(ki 3)]) 14 false,GU 18 17 14 false,RP 19 14 kT 18,RM 20 19,GF 21 2 1 20 false,GL 22 21 20 false,GQ 23 (.len false 22) 20 false,GB 24 .neq 23 (ki 3) 20 false,RP 25 20 kT 24] [1,25] (.cond 25 (SR [RV 2 kF] [2] .ret) .skip)) (.seq (SR [RV 3 (ki 0)] [1,3] (.block 0 (.loop (.seq (SR [RM 26 3,RB 27 .lss 26 (ki 3)] [1,3,27] (.cond 27 .skip (.exit 0))) (.seq (.block 1 (SR [RF 30 2 1,RL 31 30,RM 32 3,RI 33 1 31 32,RL 34 33,RN 35 34,RB 36 .gtr 35 (ki 12),RM 37 36,GF 38 2 1 37 false,GL 39 38 37 false,GM 40 3 37 false,GI 41 1 39 40 37 false,GL 42 41 37 false,GQ 43 (.call GA [42]) 37 false,GU 44 43 37 false,RP 45 37 kT 44] [1,3,45] (.cond 45 (SR [RV 2 kF] [2] .ret) .skip))) (RG [RM 28 3,RB 29 .add 28 (ki 1),RM 3 29] [1,3])))))) (SR [RV 2 kT] [2] .ret))))
def P5:List aW:=[.tm 2]
theorem mc:aQ afA Tryz.f73 (aX zD)=some (zD,P5):=by kernel_rfl
def AT:AC:= (SR [RV 6 kF] [0,1,2] (.seq (SR [RV 7 (ki 0)] [0,1,2,7] (.block 0 (.loop (.seq (SR [RM 8 7,RM 9 0,RN 10 9,RB 11 .lss 8 10] [0,1,2,7,11] (.cond 11 .skip (.exit 0))) (.seq (.block 1 (SR [RM 14 0,RM 15 7,RI 16 1 14 15,RL 17 16,RM 18 1,RM 19 2,RC 20 bY [17,18,19],RU 21 20] [0,1,2,7,21] (.cond 21 (SR [RV 6 kF] [6] .ret) .skip))) (RG [RM 12 7,RB 13 .add 12 (ki 1),RM 7 13] [0,1,2,7])))))) (SR [RV 6 kT] [6] .ret)))
def PA:List aW:=[.tm 6]
theorem lp:aQ afA Tryz.f114 (aX AT)=some (AT,PA):=by kernel_rfl
def z8:AC:= (SR [RO 1 0,RV 2 kF] [1] (SR [RF 3 0 1,RD 4 1 3,RC 5 JQ [4],RM 6 5,GF 7 1 1 6 true,GL 8 7 6 true,GQ 9 (.len false 8) 6 true,GB 10 .eql 9 (ki 6) 6 true,RP 11 6 10 kF,RM 12 11,GF 13 1 1 12 true,GL 14 13 12 true,GQ 15 (.call nE [14,(.kv (.int .i64 (-1))),(ki 63)]) 12 true,RP 16 12 15 kF,RM 2 16] [2] .ret))
def PZ:List aW:=[.tm 2]
theorem nv:aQ afA Tryz.f126 (aX z8)=some (z8,PZ):=by kernel_rfl
def AP:AC:= (SR [RV 2 kF] [0] (.seq (SR [RM 6 0,RN 7 6,RB 8 .gtr 7 (ki 4)] [0,8] (.cond 8 (SR [RV 2 kF] [2] .ret) .skip)) (.seq (SR [RV 3 (ki 0)] [0,3] (.block 0 (.loop (.seq (SR [RM 9 3,RM 10 0,RN 11 10,RB 12 .lss 9 11] [0,3,12] (.cond 12 .skip (.exit 0))) (.seq (.block 1 (SR [RM 15 0,RM 16 3,RI 17 4 15 16,RD 18 4 17,RA 4 [VZ,VZ,VZ,(.v (.bool false))],WS 4 true 4 18] [0,3,4] (.seq (SR [RF 19 0 4,RL 20 19,RF 21 1 4,RL 22 21,RC 23 bY [20,(ki 0),22],RU 24 23,RM 25 24,GF 26 1 4 25 false,GL 27 26 25 false,GB 28 .gtr 27 (ki 63) 25 false,RP 29 25 kT 28,RM 30 29,GF 31 2 4 30 false,GL 32 31 30 false,GQ 33 (.call bY [32,(ki 0),(ki 2)]) 30 false,GU 34 33 30 false,RP 35 30 kT 34] [0,3,4,35] (.cond 35 (SR [RV 2 kF] [2] .ret) .skip)) (SR [RV 5 (ki 0)] [0,3,4,5] (.block 2 (.loop (.seq (SR [RM 36 5,RM 37 3,RB 38 .lss 36 37] [0,3,4,5,38] (.cond 38 .skip (.exit 2))) (.seq (.block 3 (SR [RF 41 0 4,RL 42 41,RM 43 0,RM 44 5,RI 45 4 43 44,RF 46 1 45,RL 47 46,RB 48 .leq 42 47,RM 49 48,GM 50 0 49 true,GM 51 5 49 true,GI 52 4 50 51 49 true,GF 53 0 52 49 true,GL 54 53 49 true,GF 55 1 4 49 true,GL 56 55 49 true,GB 57 .leq 54 56 49 true,RP 58 49 57 kF] [0,3,4,5,58] (.cond 58 (SR [RV 2 kF] [2] .ret) .skip))) (RG [RM 39 5,RB 40 .add 39 (ki 1),RM 5 40] [0,3,4,5]))))))))) (RG [RM 13 3,RB 14 .add 13 (ki 1),RM 3 14] [0,3])))))) (SR [RV 2 kT] [2] .ret))))
def QC:List aW:=[.tm 2]
theorem jr:aQ afA Tryz.f164 (aX AP)=some (AP,QC):=by kernel_rfl
def vQ:AC:= (SR [RV 2 kF] [0] (.seq (SR [RV 3 (ki 0)] [0,3] (.block 0 (.loop (.seq (SR [RM 4 3,RM 5 0,RN 6 5,RB 7 .lss 4 6] [0,3,7] (.cond 7 .skip (.exit 0))) (.seq (.block 1 (SR [RM 10 0,RM 11 3,RI 12 7 10 11,RD 13 7 12,RC 14 CL [13],RU 15 14] [0,3,15] (.cond 15 (SR [RV 2 kF] [2] .ret) .skip))) (RG [RM 8 3,RB 9 .add 8 (ki 1),RM 3 9] [0,3])))))) (SR [RV 2 kT] [2] .ret)))
def N4:List aW:=[.tm 2]
theorem X8:aQ afA Tryz.f165 (aX vQ)=some (vQ,N4):=by kernel_rfl
def zO:AC:= (SR [RO 1 0,RV 2 kF] [1] (.seq (SR [RF 4 0 1,RL 5 4,RN 6 5,RB 7 .neq 6 (ki 64)] [1,7] (.cond 7 (SR [RV 2 kF] [2] .ret) .skip)) (.seq (SR [RV 3 (ki 0)] [1,3] (.block 0 (.loop (.seq (SR [RM 8 3,RF 9 0 1,RL 10 9,RN 11 10,RB 12 .lss 8 11] [1,3,12] (.cond 12 .skip (.exit 0))) (.seq (.block 1 (SR [RF 15 0 1,RL 16 15,RM 17 3,RI 18 1 16 17,RL 19 18,RC 20 bY [19,(ki 0),(ki 65535)],RU 21 20] [1,3,21] (.cond 21 (SR [RV 2 kF] [2] .ret) .skip))) (RG [RM 13 3,RB 14 .add 13 (ki 1),RM 3 14] [1,3])))))) (SR [RV 2 kT] [2] .ret))))
def QM:List aW:=[.tm 2]
theorem lh:aQ afA Tryz.f211 (aX zO)=some (zO,QM):=by kernel_rfl
def zZ:AC:= (SR [RO 1 0,RV 2 kF] [1] (SR [RF 3 0 1,RL 4 3,RC 5 bY [4,(ki 0),(ki 1)],RM 6 5,GF 7 1 1 6 true,GL 8 7 6 true,GQ 9 (.call bY [8,(ki 1),(ki 4)]) 6 true,RP 10 6 9 kF,RM 11 10,GF 12 2 1 11 true,GL 13 12 11 true,GQ 14 (.len false 13) 11 true,GB 15 .leq 14 (ki 4) 11 true,RP 16 11 15 kF,RM 17 16,GF 18 2 1 17 true,GL 19 18 17 true,GQ 20 (.call nE [19,(ki 0),(ki 65535)]) 17 true,RP 21 17 20 kF,RM 2 21] [2] .ret))
def PL:List aW:=[.tm 2]
theorem lx:aQ afA Tryz.f213 (aX zZ)=some (zZ,PL):=by kernel_rfl
def AJ:AC:= (SR [RO 1 0,RV 2 kF] [1] (.seq (SR [RF 3 0 1,RL 4 3,RC 5 bY [4,(ki 0),(ki 1)],RU 6 5,RM 7 6,GF 8 1 1 7 false,GL 9 8 7 false,GQ 10 (.call bY [9,(ki 1),(ki 4)]) 7 false,GU 11 10 7 false,RP 12 7 kT 11,RM 13 12,GF 14 2 1 13 false,GL 15 14 13 false,GF 16 3 1 13 false,GL 17 16 13 false,GF 18 4 1 13 false,GL 19 18 13 false,GQ 20 (.call CN [15,17,19]) 13 false,GU 21 20 13 false,RP 22 13 kT 21] [1,22] (.cond 22 (SR [RV 2 kF] [2] .ret) .skip)) (.seq (SR [RF 23 1 1,RL 24 23,RB 25 .geq 24 (ki 3),RM 26 25,GF 27 3 1 26 true,GL 28 27 26 true,GB 29 .neq 28 (ki 1) 26 true,RP 30 26 29 kF] [1,30] (.cond 30 (SR [RV 2 kF] [2] .ret) .skip)) (.seq (SR [RD 31 7 1,RC 32 sK [31],RU 33 32] [1,33] (.cond 33 (SR [RF 34 5 1,RL 35 34,RN 36 35,RB 37 .eql 36 (ki 0),RM 38 37,GF 39 6 1 38 true,GL 40 39 38 true,GQ 41 (.len false 40) 38 true,GB 42 .eql 41 (ki 0) 38 true,RP 43 38 42 kF,RM 2 43] [2] .ret) .skip)) (SR [RF 44 5 1,RL 45 44,RN 46 45,RF 47 3 1,RL 48 47,RB 49 .eql 46 48,RM 50 49,GF 51 6 1 50 true,GL 52 51 50 true,GQ 53 (.len false 52) 50 true,GF 54 3 1 50 true,GL 55 54 50 true,GB 56 .eql 53 55 50 true,RP 57 50 56 kF,RM 58 57,GF 59 5 1 58 true,GL 60 59 58 true,GQ 61 (.call nE [60,(ki 0),(ki 65535)]) 58 true,RP 62 58 61 kF,RM 63 62,GF 64 6 1 63 true,GL 65 64 63 true,GQ 66 (.call nE [65,(ki 0),(ki 3)]) 63 true,RP 67 63 66 kF,RM 2 67] [2] .ret)))))
def QP:List aW:=[.tm 2]
theorem ld:aQ afA Tryz.f247 (aX AJ)=some (AJ,QP):=by kernel_rfl
def pC:AC:= (SR [RO 3 0,RO 4 1,RA 6 [OZ,OZ,OZ,OZ,OZ]] [2,3,4,6] (.seq (SR [RD 10 3 3,RD 11 5 4,RM 12 2,RC 13 BC [10,11,12],RU 14 13] [2,3,4,6,14] (.cond 14 (SR [rq 15 (.build [OZ,OZ,OZ,OZ,OZ] []),WS 5 true 6 15] [6] .ret) .skip)) (SR [RD 16 5 4,RC 17 dH [16],RA 7 [OZ,OZ,OZ,OZ,OZ],WS 5 true 7 17] [2,3,6,7] (.seq (SR [RM 18 2,RN 19 18,RV 20 (ki 0)] [3,6,7,18,19,20] (.block 0 (.loop (SR [RB 21 .lss 20 19] [3,6,7,18,19,20,21] (.seq (.cond 21 .skip (.exit 0)) (.seq (.block 1 (SR [RI 22 3 18 20,RD 23 3 22,RA 9 [OZ,OZ,OZ],WS 3 true 9 23] [3,6,7,9,18,19,20] (RG [RD 24 3 3,RD 25 3 9,RC 26 gQ [7,24,25]] [3,6,7,18,19,20]))) (RG [RB 27 .add 20 (ki 1),RM 20 27] [3,6,7,18,19,20]))))))) (SR [RD 28 5 7,RC 29 dH [28],WS 5 true 6 29] [6] .ret)))))
def M5:List aW:=[.cell 6 5 true]
theorem cz:aQ afA Tryz.f27 (aX pC)=some (pC,M5):=by kernel_rfl
def mG:AC:= (SR [RO 3 0,RO 4 1,RV 6 (.kv (.slice none 0 0))] [2,3,4] (.seq (SR [RD 11 3 3,RD 12 5 4,RM 13 2,RC 14 BC [11,12,13],RU 15 14] [2,3,4,15] (.cond 15 (SR [RV 6 (.kv (.slice none 0 0))] [6] .ret) .skip)) (SR [RD 16 5 4,RC 17 dH [16],RA 7 [OZ,OZ,OZ,OZ,OZ],WS 5 true 7 17] [2,3,7] (SR [RV 8 (.kv (.slice none 0 0))] [2,3,7,8] (.seq (SR [RM 18 2,RN 19 18,RV 20 (ki 0)] [3,7,8,18,19,20] (.block 0 (.loop (SR [RB 21 .lss 20 19] [3,7,8,18,19,20,21] (.seq (.cond 21 .skip (.exit 0)) (.seq (.block 1 (SR [RI 22 3 18 20,RD 23 3 22,RA 10 [OZ,OZ,OZ],WS 3 true 10 23] [3,7,8,10,18,19,20] (RG [RM 24 8,RD 25 3 3,RD 26 3 10,RC 27 gQ [7,25,26],rq 28 (.field 0 1 false 27),rq 29 (.append 3 24 28),RM 8 29] [3,7,8,18,19,20]))) (RG [RB 30 .add 20 (ki 1),RM 20 30] [3,7,8,18,19,20]))))))) (SR [RM 31 8,RC 32 dL [31],RM 6 32] [6] .ret))))))
def IS:List aW:=[.tm 6]
theorem VA:aQ afA Tryz.f28 (aX mG)=some (mG,IS):=by kernel_rfl
def nK:AC:= (SR [RO 3 0,RO 4 1,RO 5 2,RA 6 [OZ,OZ,OZ,OZ,OZ]] [3,4,5,6] (.seq (SR [RD 8 3 3,RD 9 5 4,RC 10 qK [8,9],RU 11 10,RM 12 11,GQ 13 (.load 3 true 5) 12 false,GQ 14 (.call A3 [13]) 12 false,GU 15 14 12 false,RP 16 12 kT 15] [3,4,5,6,16] (.cond 16 (SR [rq 17 (.build [OZ,OZ,OZ,OZ,OZ] []),WS 5 true 6 17] [6] .ret) .skip)) (SR [RD 18 5 4,RC 19 dH [18],RA 7 [OZ,OZ,OZ,OZ,OZ],WS 5 true 7 19] [3,5,6,7] (SR [RD 20 3 3,RD 21 3 5,RC 22 gQ [7,20,21]] [6,7] (SR [RD 23 5 7,RC 24 dH [23],WS 5 true 6 24] [6] .ret)))))
def K2:List aW:=[.cell 6 5 true]
theorem WO:aQ afA Tryz.f35 (aX nK)=some (nK,K2):=by kernel_rfl
def wL:AC:= (SR [RV 4 (.kv (.slice none 0 0))] [0,1] (SR [rq 8 (.aU 3 0 [OZ,OZ,OZ] []),RM 5 8] [0,1,5] (SR [rq 9 (.aU 1 4 [VZ] [(0,1,(ki 2)),(1,1,(ki 3)),(2,1,(ki 5)),(3,1,(ki 20))]),RM 10 0,RC 11 aD [10,(ki 4)],RI 12 1 9 11,RL 13 12,RM 6 13] [0,1,5,6] (.seq (SR [RM 14 0,RM 15 1,RC 16 aD [14,15],RM 7 16] [0,5,6,7] (.block 0 (.loop (.seq (SR [RM 17 7,RB 18 .gtr 17 (ki 0)] [0,5,6,7,18] (.cond 18 .skip (.exit 0))) (.seq (.block 1 (RG [RM 21 5,RM 22 0,RM 23 6,RC 24 JZ [22,23],rq 25 (.aU 3 1 [OZ,OZ,OZ] [(0,3,24)]),rq 26 (.append 3 21 25),RM 5 26] [0,5,6,7])) (RG [RM 19 7,RB 20 .sub 19 (ki 1),RM 7 20] [0,5,6,7])))))) (SR [RM 27 5,RM 4 27] [4] .ret)))))
def NL:List aW:=[.tm 4]
theorem Z0:aQ afA Tryz.f93 (aX wL)=some (wL,NL):=by kernel_rfl
def zS:AC:= (SR [RA 0 [OZ,OZ,OZ]] [0] (SR [rq 1 (.aU 1 3 [(.v (.bool false))] [(0,1,kT),(1,1,kT),(2,1,kT)]),rq 2 (.aU 1 4 [(.v (.bool false))] [(0,1,kF),(1,1,kF),(2,1,kF),(3,1,kF)]),rq 3 (.aU 1 3 [(.v (.bool false))] [(0,1,kT),(1,1,kT),(2,1,kT)]),rq 4 (.build [OZ,OZ,OZ] [(0,1,1),(1,1,2),(2,1,3)]),WS 3 true 0 4] [0] .ret))
def QL:List aW:=[.cell 0 3 true]
theorem mg:aQ afA Tryz.f95 (aX zS)=some (zS,QL):=by kernel_rfl
def AL:AC:= (SR [RA 4 [OZ,OZ,OZ]] [0,1,4] (SR [RC 8 wM [],RA 5 [OZ,OZ,OZ],WS 3 true 5 8] [0,1,4,5] (.seq (SR [RV 6 (ki 0)] [0,1,4,5,6] (.block 0 (.loop (.seq (SR [RM 9 6,RB 10 .lss 9 (ki 3)] [0,1,4,5,6,10] (.cond 10 .skip (.exit 0))) (.seq (.block 1 (SR [RF 13 0 5,RW 14 13 [] [] true,RM 15 6,RM 16 0,RM 17 1,RX 18 (.call aD [16,17]) [] [1] false,RB 19 .gtr 18 (ki 0),RI 20 1 14 15,WS 1 false 20 19] [0,1,4,5,6] (RG [RF 21 2 5,RW 22 21 [] [] true,RM 23 6,RM 24 0,RM 25 1,RX 26 (.call aD [24,25]) [] [1] false,RB 27 .gtr 26 (ki 0),RI 28 1 22 23,WS 1 false 28 27] [0,1,4,5,6]))) (RG [RM 11 6,RB 12 .add 11 (ki 1),RM 6 12] [0,1,4,5,6])))))) (.seq (SR [RV 7 (ki 0)] [0,1,4,5,7] (.block 2 (.loop (.seq (SR [RM 29 7,RB 30 .leq 29 (ki 3)] [0,1,4,5,7,30] (.cond 30 .skip (.exit 2))) (.seq (.block 3 (RG [RF 33 1 5,RW 34 33 [] [] true,RM 35 7,RM 36 0,RM 37 1,RX 38 (.call aD [36,37]) [] [1] false,RB 39 .eql 38 (ki 0),RI 40 1 34 35,WS 1 false 40 39] [0,1,4,5,7])) (RG [RM 31 7,RB 32 .add 31 (ki 1),RM 7 32] [0,1,4,5,7])))))) (SR [RD 41 3 5,WS 3 true 4 41] [4] .ret)))))
def QH:List aW:=[.cell 4 3 true]
theorem gv:aQ afA Tryz.f109 (aX AL)=some (AL,QH):=by kernel_rfl
def pP:AC:= (SR [RA 4 [OZ,OZ,OZ]] [0,1,4] (SR [RM 6 0,RC 7 rP [6,(ki 6)],RA 5 [OZ,OZ,OZ],WS 3 true 5 7] [0,1,4,5] (.seq (SR [RM 8 0,RM 9 1,RC 10 cM [8,9]] [0,4,5,10] (.cond 10 (SR [RM 11 0,RC 12 aD [11,(ki 5)]] [0,4,5,12] (.block 0 (SR [RB 25 .eql 12 (ki 0),RM 24 25] [0,4,5,12,24] (.cond 24 (RG [RM 26 0,RC 27 lY [26,(ki 1)],RF 28 0 5,WS 1 false 28 27] [4,5]) (SR [RB 30 .eql 12 (ki 1),RM 29 30] [0,4,5,12,29] (.cond 29 (.region [RF 31 1 5 0,RW 32 31 [4] [] true 1,RM 33 0 2,rq 35 (.aU 1 2 [VZ] [(0,1,(.kv (.int .i64 (-1)))),(1,1,(ki 4))]) 4,RM 36 0 5,RX 34 (.call aD [33,(ki 4)]) [4] [1] false 3,RX 37 (.call aD [36,(ki 2)]) [4] [1] false 6,RI 38 1 35 37 7,RL 39 38 8,RI 40 1 32 34 9,WS 1 false 40 39 10] 11 [4,5]) (SR [RB 42 .eql 12 (ki 2),RM 41 42] [0,4,5,12,41] (.cond 41 (RG [RF 43 1 5,RL 44 43,rq 45 (.slc 1 44 (some (ki 1)) none none),RF 46 1 5,WS 1 false 46 45] [4,5]) (SR [RB 48 .eql 12 (ki 3),RM 47 48] [0,4,5,47] (.cond 47 (RG [RF 49 2 5,RL 50 49,rq 51 (.slc 1 50 (some (ki 1)) none none),RF 52 2 5,WS 1 false 52 51] [4,5]) (RG [RF 13 2 5,RW 14 13 [8] [] true,RF 15 2 5,RW 16 15 [8] [] true,RI 17 1 16 (ki 0),RW 18 17 [8] [] true,RM 19 0,RX 20 (.call lS [19,(ki 1)]) [] [1,3,5] false,rq 21 (.aU 7 1 [VZ,VZ,VZ,VZ,(.v (.bool false)),OZ,OZ] [(0,7,20)]),RX 22 (.append 7 18 21) [] [1] false,RI 23 1 14 (ki 0),WS 1 false 23 22] [4,5]))))))))))) .skip)) (SR [RD 53 3 5,WS 3 true 4 53] [4] .ret))))
def IL:List aW:=[.cell 4 3 true]
theorem UG:aQ afA Tryz.f117 (aX pP)=some (pP,IL):=by kernel_rfl
def wN:AC:= (SR [RA 4 [OZ,OZ]] [0,1,4] (SR [RC 7 nX [],RA 5 [OZ,OZ],WS 2 true 5 7] [0,1,4,5] (SR [RM 8 0,RC 9 r6 [8,(ki 99999)],RF 10 0 5,WS 1 true 10 9] [0,1,4,5] (.seq (SR [RV 6 (ki 0)] [0,1,4,5,6] (.block 0 (.loop (.seq (SR [RM 11 6,RF 12 1 5,RL 13 12,RN 14 13,RB 15 .lss 11 14] [0,1,4,5,6,15] (.cond 15 .skip (.exit 0))) (.seq (.block 1 (RG [RF 18 1 5,RW 19 18 [3] [] true,RM 20 6,rq 21 (.aU 1 5 [VZ] [(0,1,(.kv (.int .i64 (-1)))),(1,1,(ki 0)),(2,1,(ki 1)),(3,1,(ki 16)),(4,1,(ki 32))]),RM 22 0,RX 23 (.call aD [22,(ki 5)]) [3] [1] false,RI 24 1 21 23,RL 25 24,RI 26 1 19 20,WS 1 false 26 25] [0,1,4,5,6])) (RG [RM 16 6,RB 17 .add 16 (ki 1),RM 6 17] [0,1,4,5,6])))))) (.seq (SR [RM 27 0,RM 28 1,RC 29 cM [27,28]] [0,4,5,29] (.cond 29 (SR [RM 30 0,RC 31 aD [30,(ki 3)]] [0,4,5,31] (.block 2 (SR [RB 41 .eql 31 (ki 0),RM 40 41] [0,4,5,31,40] (.cond 40 (RG [RM 42 0,RC 43 r6 [42,(ki 1)],RF 44 0 5,WS 1 true 44 43] [4,5]) (SR [RB 46 .eql 31 (ki 1),RM 45 46] [0,4,5,45] (.cond 45 (RG [RF 47 1 5,RL 48 47,rq 49 (.slc 1 48 (some (ki 1)) none none),RF 50 1 5,WS 1 false 50 49] [4,5]) (RG [RF 32 1 5,RW 33 32 [2] [] true,rq 34 (.aU 1 2 [VZ] [(0,1,(.kv (.int .i64 (-2)))),(1,1,(ki 64))]),RM 35 0,RX 36 (.call aD [35,(ki 2)]) [2] [1] false,RI 37 1 34 36,RL 38 37,RI 39 1 33 (ki 0),WS 1 false 39 38] [4,5]))))))) .skip)) (SR [RD 51 2 5,WS 2 true 4 51] [4] .ret))))))
def vH:List aW:=[.cell 4 2 true]
theorem fy:aQ afA Tryz.f179 (aX wN)=some (wN,vH):=by kernel_rfl
def xF:AC:= (SR [RA 4 [VZ,VZ,OZ]] [0,1,4] (SR [RM 7 0,RC 8 aD [7,(ki 2)],RM 9 0,RC 10 aD [9,(ki 4)],RB 11 .add (ki 1) 10,rq 12 (.build [VZ,VZ,OZ] [(0,1,8),(1,1,11)]),RA 5 [VZ,VZ,OZ],WS 3 true 5 12] [0,1,4,5] (.seq (SR [RM 13 0,RC 14 aD [13,(ki 5)],RM 6 14] [0,1,4,5,6] (.block 0 (.loop (.seq (SR [RM 15 6,RB 16 .gtr 15 (ki 0)] [0,1,4,5,6,16] (.cond 16 .skip (.exit 0))) (.seq (.block 1 (RG [RF 19 2 5,RW 20 19 [4] [] true,RM 21 0,RX 22 (.call aD [21,(ki 300)]) [] [1] false,rq 23 (.aU 1 1 [VZ] [(0,1,22)]),rq 24 (.append 1 20 23),RF 25 2 5,WS 1 false 25 24] [0,1,4,5,6])) (RG [RM 17 6,RB 18 .sub 17 (ki 1),RM 6 18] [0,1,4,5,6])))))) (.seq (SR [RM 26 0,RM 27 1,RC 28 cM [26,27]] [0,4,5,28] (.cond 28 (SR [RM 29 0,RC 30 aD [29,(ki 4)]] [0,4,5,30] (.block 2 (SR [RB 34 .eql 30 (ki 0),RM 33 34] [0,4,5,30,33] (.cond 33 (RG [rq 35 (.aU 1 2 [VZ] [(0,1,(.kv (.int .i64 (-1)))),(1,1,(ki 2))]),RM 36 0,RC 37 aD [36,(ki 2)],RI 38 1 35 37,RL 39 38,RF 40 0 5,WS 1 false 40 39] [4,5]) (SR [RB 42 .eql 30 (ki 1),RM 41 42] [0,4,5,30,41] (.cond 41 (RG [rq 43 (.aU 1 2 [VZ] [(0,1,(ki 0)),(1,1,(ki 5))]),RM 44 0,RC 45 aD [44,(ki 2)],RI 46 1 43 45,RL 47 46,RF 48 1 5,WS 1 false 48 47] [4,5]) (SR [RB 50 .eql 30 (ki 2),RM 49 50] [4,5,49] (.cond 49 (RG [rq 51 (.aU 1 1 [VZ] [(0,1,(.kv (.int .i64 (-1))))]),RF 52 2 5,WS 1 false 52 51] [4,5]) (RG [rq 31 (.aU 1 5 [VZ] [(0,1,(ki 1)),(1,1,(ki 2)),(2,1,(ki 3)),(3,1,(ki 4)),(4,1,(ki 5))]),RF 32 2 5,WS 1 false 32 31] [4,5]))))))))) .skip)) (SR [RD 53 3 5,WS 3 true 4 53] [4] .ret)))))
def vD:List aW:=[.cell 4 3 true]
theorem ZR:aQ afA Tryz.f180 (aX xF)=some (xF,vD):=by kernel_rfl
def uR:AC:= (SR [RA 4 [OZ]] [0,1,4] (SR [RC 7 lV [],RA 5 [OZ],WS 1 true 5 7] [0,1,4,5] (.seq (SR [RM 8 0,RC 9 aD [8,(ki 8)],RM 6 9] [0,1,4,5,6] (.block 0 (.loop (.seq (SR [RM 10 6,RB 11 .gtr 10 (ki 0)] [0,1,4,5,6,11] (.cond 11 .skip (.exit 0))) (.seq (.block 1 (.region [RF 14 0 5 0,RW 15 14 [] [] true 1,RM 16 0 2,RM 18 0 4,RX 17 (.call oY [16]) [] [1] false 3,RX 19 (.call aD [18,(ki 256)]) [] [1] false 5,RB 20 .mul 19 (ki 257) 6,RI 21 1 15 17 7,WS 1 false 21 20 8] 9 [0,1,4,5,6])) (RG [RM 12 6,RB 13 .sub 12 (ki 1),RM 6 13] [0,1,4,5,6])))))) (.seq (SR [RM 22 0,RM 23 1,RC 24 cM [22,23]] [0,4,5,24] (.cond 24 (SR [RM 25 0,RC 26 aD [25,(ki 3)]] [0,4,5,26] (.block 2 (SR [RB 33 .eql 26 (ki 0),RM 32 33] [0,4,5,26,32] (.cond 32 (RG [RF 34 0 5,RL 35 34,rq 36 (.slc 1 35 (some (ki 1)) none none),RF 37 0 5,WS 1 false 37 36] [4,5]) (SR [RB 39 .eql 26 (ki 1),RM 38 39] [0,4,5,38] (.cond 38 (.region [RF 40 0 5 0,RW 41 40 [4] [] true 1,RM 42 0 2,rq 44 (.aU 1 2 [VZ] [(0,1,(.kv (.int .i64 (-1)))),(1,1,(ki 65536))]) 4,RM 45 0 5,RX 43 (.call aD [42,(ki 64)]) [4] [1] false 3,RX 46 (.call aD [45,(ki 2)]) [4] [1] false 6,RI 47 1 44 46 7,RL 48 47 8,RI 49 1 41 43 9,WS 1 false 49 48 10] 11 [4,5]) (RG [RF 27 0 5,RL 28 27,rq 29 (.aU 1 1 [VZ] [(0,1,(ki 0))]),rq 30 (.append 1 28 29),RF 31 0 5,WS 1 false 31 30] [4,5]))))))) .skip)) (SR [RD 50 1 5,WS 1 true 4 50] [4] .ret)))))
def wJ:List aW:=[.cell 4 1 true]
theorem bg:aQ afA Tryz.f255 (aX uR)=some (uR,wJ):=by kernel_rfl
def zW:AC:= (SR [RO 2 0,RO 3 1,RV 4 kF] [2,3] (.seq (SR [RD 9 3 2,RC 10 DE [9],RU 11 10,RM 12 11,GF 13 0 3 12 false,GQ 14 (.load 2 true 13) 12 false,GQ 15 (.call DB [14]) 12 false,GU 16 15 12 false,RP 17 12 kT 16,RM 18 17,GF 19 2 3 18 false,GL 20 19 18 false,GQ 21 (.len false 20) 18 false,GB 22 .neq 21 (ki 3) 18 false,RP 23 18 kT 22] [2,3,23] (.cond 23 (SR [RV 4 kF] [4] .ret) .skip)) (SR [RV 5 (ki 0)] [2,3,5] (.seq (SR [RV 6 (ki 0)] [2,3,5,6] (.block 0 (.loop (.seq (SR [RM 24 6,RB 25 .lss 24 (ki 3)] [2,3,5,6,25] (.cond 25 .skip (.exit 0))) (.seq (.block 1 (.seq (SR [RF 28 2 3,RL 29 28,RM 30 6,RI 31 1 29 30,RL 32 31,RF 33 2 2,RL 34 33,RM 35 6,RI 36 1 34 35,RL 37 36,RN 38 37,RC 39 bY [32,(ki 0),38],RU 40 39] [2,3,5,6,40] (.cond 40 (SR [RV 4 kF] [4] .ret) .skip)) (RG [RM 41 5,RF 42 2 3,RL 43 42,RM 44 6,RI 45 1 43 44,RL 46 45,RB 47 .add 41 46,RM 5 47] [2,3,5,6]))) (RG [RM 26 6,RB 27 .add 26 (ki 1),RM 6 27] [2,3,5,6])))))) (.seq (SR [RD 48 3 2,RF 49 2 3,RL 50 49,RF 51 3 3,RL 52 51,RC 53 nZ [48,50,52,kF],RU 54 53,RM 55 54,GQ 56 (.load 3 true 2) 55 false,GF 57 2 3 55 false,GL 58 57 55 false,GF 59 4 3 55 false,GL 60 59 55 false,GQ 61 (.call nZ [56,58,60,kT]) 55 false,GU 62 61 55 false,RP 63 55 kT 62,RM 64 63,GQ 65 (.load 3 true 2) 64 false,GQ 66 (.load 6 true 3) 64 false,GQ 67 (.call G4 [65,66]) 64 false,GU 68 67 64 false,RP 69 64 kT 68,RM 70 69,GF 71 3 3 70 false,GL 72 71 70 false,GQ 73 (.len false 72) 70 false,GF 74 4 3 70 false,GL 75 74 70 false,GQ 76 (.len false 75) 70 false,GB 77 .add 73 76 70 false,GF 78 5 3 70 false,GL 79 78 70 false,GQ 80 (.len false 79) 70 false,GB 81 .add 77 80 70 false,GM 82 5 70 false,GB 83 .neq 81 82 70 false,RP 84 70 kT 83] [3,84] (.cond 84 (SR [RV 4 kF] [4] .ret) .skip)) (.seq (SR [RV 7 (ki 0)] [3,7] (.block 2 (.loop (.seq (SR [RM 85 7,RF 86 5 3,RL 87 86,RN 88 87,RB 89 .lss 85 88] [3,7,89] (.cond 89 .skip (.exit 2))) (.seq (.block 3 (SR [RF 92 3 3,RL 93 92,RF 94 5 3,RL 95 94,RM 96 7,RI 97 5 95 96,RF 98 0 97,RL 99 98,RF 100 5 3,RL 101 100,RM 102 7,RI 103 5 101 102,RF 104 1 103,RL 105 104,RC 106 tQ [93,99,105],RB 107 .geq 106 (ki 0),RM 108 107,GF 109 4 3 108 false,GL 110 109 108 false,GF 111 5 3 108 false,GL 112 111 108 false,GM 113 7 108 false,GI 114 5 112 113 108 false,GF 115 0 114 108 false,GL 116 115 108 false,GF 117 5 3 108 false,GL 118 117 108 false,GM 119 7 108 false,GI 120 5 118 119 108 false,GF 121 1 120 108 false,GL 122 121 108 false,GQ 123 (.call tQ [110,116,122]) 108 false,GB 124 .geq 123 (ki 0) 108 false,RP 125 108 kT 124] [3,7,125] (.cond 125 (SR [RV 4 kF] [4] .ret) .skip))) (RG [RM 90 7,RB 91 .add 90 (ki 1),RM 7 91] [3,7])))))) (.seq (SR [RV 8 (ki 0)] [3,8] (.block 4 (.loop (.seq (SR [RM 126 8,RF 127 4 3,RL 128 127,RN 129 128,RB 130 .lss 126 129] [3,8,130] (.cond 130 .skip (.exit 4))) (.seq (.block 5 (SR [RF 133 3 3,RL 134 133,RF 135 4 3,RL 136 135,RM 137 8,RI 138 5 136 137,RF 139 0 138,RL 140 139,RF 141 4 3,RL 142 141,RM 143 8,RI 144 5 142 143,RF 145 1 144,RL 146 145,RC 147 tQ [134,140,146],RB 148 .geq 147 (ki 0)] [3,8,148] (.cond 148 (SR [RV 4 kF] [4] .ret) .skip))) (RG [RM 131 8,RB 132 .add 131 (ki 1),RM 8 132] [3,8])))))) (SR [RV 4 kT] [4] .ret))))))))
def O4:List aW:=[.tm 4]
theorem gz:aQ afA Tryz.f129 (aX zW)=some (zW,O4):=by kernel_rfl
def xA:AC:= (SR [RO 4 0,RV 8 kF] [1,2,3,4] (.seq (SR [RV 9 (ki 0)] [1,2,3,4,9] (.block 0 (.loop (.seq (SR [RM 11 9,RM 12 2,RN 13 12,RB 14 .lss 11 13] [1,2,3,4,9,14] (.cond 14 .skip (.exit 0))) (.seq (.block 1 (SR [RM 17 2,RM 18 9,RI 19 5 17 18,RD 20 5 19,RA 10 [VZ,VZ,VZ,VZ,OZ],WS 5 true 10 20] [1,2,3,4,9,10] (.seq (SR [RF 21 0 10,RL 22 21,RC 23 bY [22,(ki 0),(ki 2)],RU 24 23,RM 25 24,GF 26 1 10 25 false,GL 27 26 25 false,GM 28 1 25 false,GF 29 0 10 25 false,GL 30 29 25 false,GI 31 1 28 30 25 false,GL 32 31 25 false,GB 33 .sub 32 (ki 1) 25 false,GQ 34 (.call bY [27,(ki 0),33]) 25 false,GU 35 34 25 false,RP 36 25 kT 35,RM 37 36,GM 38 9 37 false,GB 39 .gtr 38 (ki 0) 37 false,GM 40 39 37 false,GM 41 2 40 true,GM 42 9 40 true,GB 43 .sub 42 (ki 1) 40 true,GI 44 5 41 43 40 true,GQ 45 (.load 5 true 44) 40 true,GQ 46 (.load 5 true 10) 40 true,GQ 47 (.call sH [45,46]) 40 true,GU 48 47 40 true,GQ 49 (.pick 40 48 kF) 37 false,RP 50 37 kT 49] [1,2,3,4,9,10,50] (.cond 50 (SR [RV 8 kF] [8] .ret) .skip)) (SR [RM 51 3,RM 52 51,GF 53 2 10 52 true,GQ 54 (.load 3 true 53) 52 true,GQ 55 (.call pR [54]) 52 true,GU 56 55 52 true,GM 57 56 52 true,GF 58 2 10 57 false,GF 59 0 58 57 false,GL 60 59 57 false,GF 61 2 4 57 false,GL 62 61 57 false,GF 63 0 10 57 false,GL 64 63 57 false,GI 65 1 62 64 57 false,GL 66 65 57 false,GF 67 1 10 57 false,GL 68 67 57 false,GI 69 7 66 68 57 false,GF 70 0 69 57 false,GL 71 70 57 false,GB 72 .neq 60 71 57 false,GQ 73 (.pick 57 kT 72) 52 true,RP 74 52 73 kF,RM 75 74,GM 76 3 75 false,GU 77 76 75 false,GM 78 77 75 false,GF 79 2 10 78 true,GF 80 0 79 78 true,GL 81 80 78 true,GB 82 .neq 81 (ki 0) 78 true,GM 83 82 78 true,GF 84 2 10 83 false,GF 85 1 84 83 false,GL 86 85 83 false,GB 87 .neq 86 (ki 0) 83 false,GQ 88 (.pick 83 kT 87) 78 true,GM 89 88 78 true,GF 90 2 10 89 false,GF 91 2 90 89 false,GL 92 91 89 false,GQ 93 (.len false 92) 89 false,GB 94 .neq 93 (ki 0) 89 false,GQ 95 (.pick 89 kT 94) 78 true,GQ 96 (.pick 78 95 kF) 75 false,RP 97 75 kT 96] [1,2,3,4,9,97] (.cond 97 (SR [RV 8 kF] [8] .ret) .skip))))) (RG [RM 15 9,RB 16 .add 15 (ki 1),RM 9 16] [1,2,3,4,9])))))) (SR [RV 8 kT] [8] .ret)))
def LS:List aW:=[.tm 8]
theorem YW:aQ afA Tryz.f214 (aX xA)=some (xA,LS):=by kernel_rfl
def uY:AC:= (SR [RO 2 0,RO 3 1,RV 4 kF] [2,3] (.seq (SR [RV 5 (ki 0)] [2,3,5] (.block 0 (.loop (.seq (SR [RM 7 5,RF 8 5 3,RL 9 8,RN 10 9,RB 11 .lss 7 10] [2,3,5,11] (.cond 11 .skip (.exit 0))) (.seq (.block 1 (SR [RF 14 5 3,RL 15 14,RM 16 5,RI 17 5 15 16,RD 18 5 17,RA 6 [VZ,VZ,VZ,VZ,OZ],WS 5 true 6 18] [2,3,5,6] (SR [RF 19 0 6,RL 20 19,RC 21 bY [20,(ki 0),(ki 2)],RU 22 21,RM 23 22,GF 24 1 6 23 false,GL 25 24 23 false,GF 26 2 3 23 false,GL 27 26 23 false,GF 28 0 6 23 false,GL 29 28 23 false,GI 30 1 27 29 23 false,GL 31 30 23 false,GB 32 .sub 31 (ki 1) 23 false,GQ 33 (.call bY [25,(ki 0),32]) 23 false,GU 34 33 23 false,RP 35 23 kT 34,RM 36 35,GF 37 2 6 36 false,GQ 38 (.load 3 true 37) 36 false,GQ 39 (.call pR [38]) 36 false,GU 40 39 36 false,RP 41 36 kT 40,RM 42 41,GF 43 2 6 42 false,GF 44 0 43 42 false,GL 45 44 42 false,GF 46 2 2 42 false,GL 47 46 42 false,GF 48 0 6 42 false,GL 49 48 42 false,GI 50 1 47 49 42 false,GL 51 50 42 false,GF 52 1 6 42 false,GL 53 52 42 false,GI 54 7 51 53 42 false,GF 55 0 54 42 false,GL 56 55 42 false,GB 57 .neq 45 56 42 false,RP 58 42 kT 57,RM 59 58,GF 60 5 3 59 false,GL 61 60 59 false,GM 62 5 59 false,GQ 63 (.slc 5 61 none (some 62) none) 59 false,GF 64 0 6 59 false,GL 65 64 59 false,GF 66 1 6 59 false,GL 67 66 59 false,GQ 68 (.call tQ [63,65,67]) 59 false,GB 69 .geq 68 (ki 0) 59 false,RP 70 59 kT 69] [2,3,5,70] (.cond 70 (SR [RV 4 kF] [4] .ret) .skip)))) (RG [RM 12 5,RB 13 .add 12 (ki 1),RM 5 13] [2,3,5])))))) (SR [RV 4 kT] [4] .ret)))
def MN:List aW:=[.tm 4]
theorem YB:aQ afA Tryz.f215 (aX uY)=some (uY,MN):=by kernel_rfl
def zG:AC:= (SR [RO 2 0,RO 3 1,RV 4 kF] [2,3] (.seq (SR [RD 8 3 2,RC 9 DE [8],RU 10 9,RM 11 10,GF 12 0 3 11 false,GQ 13 (.load 2 true 12) 11 false,GQ 14 (.call DB [13]) 11 false,GU 15 14 11 false,RP 16 11 kT 15,RM 17 16,GF 18 2 3 17 false,GL 19 18 17 false,GQ 20 (.len false 19) 17 false,GB 21 .neq 20 (ki 3) 17 false,RP 22 17 kT 21,RM 23 22,GF 24 3 3 23 false,GL 25 24 23 false,GQ 26 (.len false 25) 23 false,GB 27 .neq 26 (ki 4) 23 false,RP 28 23 kT 27] [2,3,28] (.cond 28 (SR [RV 4 kF] [4] .ret) .skip)) (SR [RV 5 (ki 0)] [2,3,5] (.seq (SR [RV 6 (ki 0)] [2,3,5,6] (.block 0 (.loop (.seq (SR [RM 29 6,RB 30 .lss 29 (ki 3)] [2,3,5,6,30] (.cond 30 .skip (.exit 0))) (.seq (.block 1 (.seq (SR [RD 33 3 2,RD 34 5 3,RM 35 6,RC 36 F9 [33,34,35],RU 37 36] [2,3,5,6,37] (.cond 37 (SR [RV 4 kF] [4] .ret) .skip)) (RG [RM 38 5,RF 39 2 3,RL 40 39,RM 41 6,RI 42 4 40 41,RF 43 2 42,RL 44 43,RN 45 44,RB 46 .add 38 45,RM 5 46] [2,3,5,6]))) (RG [RM 31 6,RB 32 .add 31 (ki 1),RM 6 32] [2,3,5,6])))))) (.seq (SR [RV 7 (ki 0)] [2,3,5,7] (.block 2 (.loop (.seq (SR [RM 47 7,RB 48 .leq 47 (ki 3)] [2,3,5,7,48] (.cond 48 .skip (.exit 2))) (.seq (.block 3 (.seq (SR [RD 51 3 2,RD 52 5 3,RM 53 7,RC 54 D5 [51,52,53],RU 55 54] [2,3,5,7,55] (.cond 55 (SR [RV 4 kF] [4] .ret) .skip)) (RG [RM 56 5,RF 57 3 3,RL 58 57,RM 59 7,RI 60 3 58 59,RF 61 0 60,RL 62 61,RN 63 62,RB 64 .sub 56 63,RF 65 3 3,RL 66 65,RM 67 7,RI 68 3 66 67,RF 69 1 68,RL 70 69,RN 71 70,RB 72 .sub 64 71,RM 5 72] [2,3,5,7]))) (RG [RM 49 7,RB 50 .add 49 (ki 1),RM 7 50] [2,3,5,7])))))) (SR [RM 73 5,RB 74 .eql 73 (ki 0),RM 75 74,RY (some 76) (.load 3 true 2) (some (75,true)) [] [] true,GQ 77 (.load 5 true 3) 75 true,RY (some 78) (.call F8 [77]) (some (75,true)) [] [3] false,GQ 79 (.call I8 [76,78]) 75 true,RP 80 75 79 kF,RM 4 80] [4] .ret))))))
def QK:List aW:=[.tm 4]
theorem kz:aQ afA Tryz.f48 (aX zG)=some (zG,QK):=by kernel_rfl
def uW:AC:= (SR [RO 3 0,RO 4 1,RV 6 kF] [2,3,4] (SR [RF 12 2 4,RL 13 12,RM 14 2,RI 15 4 13 14,RD 16 4 15,RA 7 [VZ,OZ,OZ,VZ],WS 4 true 7 16] [2,3,7] (.seq (SR [RF 17 0 7,RL 18 17,RF 19 2 3,RL 20 19,RM 21 2,RI 22 1 20 21,RL 23 22,RN 24 23,RC 25 bY [18,(ki 0),24],RU 26 25,RM 27 26,GF 28 1 7 27 false,GL 29 28 27 false,GQ 30 (.len false 29) 27 false,GB 31 .gtr 30 (ki 2) 27 false,RP 32 27 kT 31,RM 33 32,GF 34 1 7 33 false,GL 35 34 33 false,GQ 36 (.len false 35) 33 false,GF 37 0 7 33 false,GL 38 37 33 false,GB 39 .gtr 36 38 33 false,RP 40 33 kT 39,RM 41 40,GF 42 2 7 41 false,GL 43 42 41 false,GQ 44 (.len false 43) 41 false,GB 45 .gtr 44 (ki 4) 41 false,RP 46 41 kT 45,RM 47 46,GF 48 3 7 47 false,GL 49 48 47 false,GQ 50 (.call bY [49,(ki 0),(ki 3)]) 47 false,GU 51 50 47 false,RP 52 47 kT 51] [2,3,7,52] (.cond 52 (SR [RV 6 kF] [6] .ret) .skip)) (.seq (SR [RV 8 (ki 0)] [2,3,7,8] (.block 0 (.loop (.seq (SR [RM 53 8,RF 54 1 7,RL 55 54,RN 56 55,RB 57 .lss 53 56] [2,3,7,8,57] (.cond 57 .skip (.exit 0))) (.seq (.block 1 (SR [RF 60 1 7,RL 61 60,RM 62 8,RI 63 1 61 62,RL 64 63,RF 65 0 7,RL 66 65,RF 67 1 7,RL 68 67,RN 69 68,RB 70 .sub 66 69,RM 71 8,RB 72 .add 70 71,RB 73 .neq 64 72] [2,3,7,8,73] (.cond 73 (SR [RV 6 kF] [6] .ret) .skip))) (RG [RM 58 8,RB 59 .add 58 (ki 1),RM 8 59] [2,3,7,8])))))) (.seq (SR [RV 9 (ki 0)] [2,3,7,9] (.block 2 (.loop (.seq (SR [RM 74 9,RF 75 2 7,RL 76 75,RN 77 76,RB 78 .lss 74 77] [2,3,7,9,78] (.cond 78 .skip (.exit 2))) (.seq (.block 3 (SR [RF 81 2 7,RL 82 81,RM 83 9,RI 84 3 82 83,RD 85 3 84,RA 10 [VZ,VZ,VZ],WS 3 true 10 85] [2,3,7,9,10] (.seq (SR [RF 86 0 10,RL 87 86,RM 88 2,RB 89 .neq 87 88,RM 90 89,GF 91 1 10 90 false,GL 92 91 90 false,GF 93 0 7 90 false,GL 94 93 90 false,GF 95 1 7 90 false,GL 96 95 90 false,GQ 97 (.len false 96) 90 false,GB 98 .sub 94 97 90 false,GB 99 .sub 98 (ki 1) 90 false,GQ 100 (.call bY [92,(ki 0),99]) 90 false,GU 101 100 90 false,RP 102 90 kT 101,RM 103 102,GM 104 9 103 false,GB 105 .gtr 104 (ki 0) 103 false,GM 106 105 103 false,GF 107 2 7 106 true,GL 108 107 106 true,GM 109 9 106 true,GB 110 .sub 109 (ki 1) 106 true,GI 111 3 108 110 106 true,GF 112 1 111 106 true,GL 113 112 106 true,GF 114 1 10 106 true,GL 115 114 106 true,GB 116 .geq 113 115 106 true,GQ 117 (.pick 106 116 kF) 103 false,RP 118 103 kT 117,RM 119 118,GF 120 2 10 119 false,RY (some 121) (.load 1 false 120) (some (119,false)) [] [] true,GF 122 0 3 119 false,GL 123 122 119 false,GF 124 2 3 119 false,GL 125 124 119 false,GM 126 2 119 false,GI 127 1 125 126 119 false,GL 128 127 119 false,GF 129 1 10 119 false,GL 130 129 119 false,GI 131 7 128 130 119 false,GQ 132 (.load 7 true 131) 119 false,RY (some 133) (.call sM [123,132]) (some (119,false)) [] [35] false,GB 134 .neq 121 133 119 false,RP 135 119 kT 134] [2,3,7,9,10,135] (.cond 135 (SR [RV 6 kF] [6] .ret) .skip)) (SR [RV 11 (ki 0)] [2,3,7,9,10,11] (.block 4 (.loop (.seq (SR [RM 136 11,RM 137 9,RB 138 .lss 136 137] [2,3,7,9,10,11,138] (.cond 138 .skip (.exit 4))) (.seq (.block 5 (SR [RF 141 2 3,RL 142 141,RM 143 2,RI 144 1 142 143,RL 145 144,RF 146 2 7,RL 147 146,RM 148 11,RI 149 3 147 148,RF 150 1 149,RL 151 150,RI 152 7 145 151,RF 153 0 152,RL 154 153,RF 155 2 3,RL 156 155,RM 157 2,RI 158 1 156 157,RL 159 158,RF 160 1 10,RL 161 160,RI 162 7 159 161,RF 163 0 162,RL 164 163,RB 165 .eql 154 164,RM 166 165,GF 167 2 7 166 true,GL 168 167 166 true,GM 169 11 166 true,GI 170 3 168 169 166 true,GF 171 2 170 166 true,GL 172 171 166 true,GF 173 2 10 166 true,GL 174 173 166 true,GB 175 .neq 172 174 166 true,RP 176 166 175 kF] [2,3,7,9,10,11,176] (.cond 176 (SR [RV 6 kF] [6] .ret) .skip))) (RG [RM 139 11,RB 140 .add 139 (ki 1),RM 11 140] [2,3,7,9,10,11]))))))))) (RG [RM 79 9,RB 80 .add 79 (ki 1),RM 9 80] [2,3,7,9])))))) (SR [RV 6 kT] [6] .ret))))))
def M9:List aW:=[.tm 6]
theorem Y2:aQ afA Tryz.f127 (aX uW)=some (uW,M9):=by kernel_rfl
def sJ:AC:= (SR [RO 3 0,RO 4 1,RV 6 kF] [2,3,4] (SR [RF 15 3 4,RL 16 15,RM 17 2,RI 18 3 16 17,RD 19 3 18,RA 7 [OZ,OZ,VZ],WS 3 true 7 19] [2,3,4,7] (.seq (SR [RF 20 0 7,RL 21 20,RN 22 21,RB 23 .gtr 22 (ki 2),RM 24 23,GF 25 1 7 24 false,GL 26 25 24 false,GQ 27 (.len false 26) 24 false,GB 28 .gtr 27 (ki 2) 24 false,RP 29 24 kT 28,RM 30 29,GF 31 2 7 30 false,GL 32 31 30 false,GQ 33 (.call bY [32,(ki 0),(ki 2)]) 30 false,GU 34 33 30 false,RP 35 30 kT 34] [2,3,4,7,35] (.cond 35 (SR [RV 6 kF] [6] .ret) .skip)) (SR [rq 36 (.aU 5 0 [VZ,VZ,VZ,VZ,OZ] []),RM 8 36] [2,3,4,7,8] (.seq (SR [RV 9 (ki 0)] [2,3,4,7,8,9] (.block 0 (.loop (.seq (SR [RM 37 9,RF 38 1 7,RL 39 38,RN 40 39,RB 41 .lss 37 40] [2,3,4,7,8,9,41] (.cond 41 .skip (.exit 0))) (.seq (.block 1 (SR [RF 44 1 7,RL 45 44,RM 46 9,RI 47 5 45 46,RD 48 5 47,RA 10 [VZ,VZ,VZ,VZ,OZ],WS 5 true 10 48] [2,3,4,7,8,9,10] (.seq (SR [RD 49 5 4,RF 50 0 10,RL 51 50,RF 52 1 10,RL 53 52,RM 54 2,RC 55 wG [49,51,53,54],RU 56 55,RM 57 56,GF 58 2 10 57 false,GQ 59 (.load 3 true 58) 57 false,GQ 60 (.call pR [59]) 57 false,GU 61 60 57 false,RP 62 57 kT 61,RM 63 62,GF 64 2 10 63 false,GF 65 0 64 63 false,GL 66 65 63 false,GF 67 2 3 63 false,GL 68 67 63 false,GF 69 0 10 63 false,GL 70 69 63 false,GI 71 1 68 70 63 false,GL 72 71 63 false,GF 73 1 10 63 false,GL 74 73 63 false,GI 75 7 72 74 63 false,GF 76 0 75 63 false,GL 77 76 63 false,GB 78 .neq 66 77 63 false,RP 79 63 kT 78] [2,3,4,7,8,9,10,79] (.cond 79 (SR [RV 6 kF] [6] .ret) .skip)) (RG [RM 80 8,RF 81 0 10,RL 82 81,RF 83 1 10,RL 84 83,rq 85 (.build [VZ,VZ,VZ,VZ,OZ] [(0,1,82),(1,1,84)]),rq 86 (.aU 5 1 [VZ,VZ,VZ,VZ,OZ] [(0,5,85)]),rq 87 (.append 5 80 86),RM 8 87] [2,3,4,7,8,9])))) (RG [RM 42 9,RB 43 .add 42 (ki 1),RM 9 43] [2,3,4,7,8,9])))))) (.seq (SR [RV 11 (ki 0)] [2,3,4,7,8,11] (.block 2 (.loop (.seq (SR [RM 88 11,RF 89 0 7,RL 90 89,RN 91 90,RB 92 .lss 88 91] [2,3,4,7,8,11,92] (.cond 92 .skip (.exit 2))) (.seq (.block 3 (SR [RF 95 0 7,RL 96 95,RM 97 11,RI 98 3 96 97,RD 99 3 98,RA 12 [VZ,VZ,VZ],WS 3 true 12 99] [2,3,4,7,8,11,12] (.seq (SR [RD 100 5 4,RF 101 0 12,RL 102 101,RF 103 1 12,RL 104 103,RM 105 2,RC 106 wG [100,102,104,105],RU 107 106,RM 108 107,GF 109 2 12 108 false,GL 110 109 108 false,GF 111 1 3 108 false,GL 112 111 108 false,GM 113 2 108 false,GI 114 1 112 113 108 false,GL 115 114 108 false,GQ 116 (.call bY [110,(ki 0),115]) 108 false,GU 117 116 108 false,RP 118 108 kT 117,RM 119 118,GM 120 11 119 false,GB 121 .gtr 120 (ki 0) 119 false,GM 122 121 119 false,GF 123 2 12 122 true,GL 124 123 122 true,GF 125 1 3 122 true,GL 126 125 122 true,GM 127 2 122 true,GI 128 1 126 127 122 true,GL 129 128 122 true,GB 130 .neq 124 129 122 true,GQ 131 (.pick 122 130 kF) 119 false,RP 132 119 kT 131] [2,3,4,7,8,11,12,132] (.cond 132 (SR [RV 6 kF] [6] .ret) .skip)) (RG [RM 133 8,RF 134 0 12,RL 135 134,RF 136 1 12,RL 137 136,rq 138 (.build [VZ,VZ,VZ,VZ,OZ] [(0,1,135),(1,1,137)]),rq 139 (.aU 5 1 [VZ,VZ,VZ,VZ,OZ] [(0,5,138)]),rq 140 (.append 5 133 139),RM 8 140] [2,3,4,7,8,11])))) (RG [RM 93 11,RB 94 .add 93 (ki 1),RM 11 94] [2,3,4,7,8,11])))))) (.seq (SR [RV 13 (ki 0)] [8,13] (.block 4 (.loop (.seq (SR [RM 141 13,RM 142 8,RN 143 142,RB 144 .lss 141 143] [8,13,144] (.cond 144 .skip (.exit 4))) (.seq (.block 5 (SR [RV 14 (ki 0)] [8,13,14] (.block 6 (.loop (.seq (SR [RM 147 14,RM 148 13,RB 149 .lss 147 148] [8,13,14,149] (.cond 149 .skip (.exit 6))) (.seq (.block 7 (SR [RM 152 8,RM 153 14,RI 154 5 152 153,RF 155 0 154,RL 156 155,RM 157 8,RM 158 13,RI 159 5 157 158,RF 160 0 159,RL 161 160,RB 162 .eql 156 161,RM 163 162,GM 164 8 163 true,GM 165 14 163 true,GI 166 5 164 165 163 true,GF 167 1 166 163 true,GL 168 167 163 true,GM 169 8 163 true,GM 170 13 163 true,GI 171 5 169 170 163 true,GF 172 1 171 163 true,GL 173 172 163 true,GB 174 .geq 168 173 163 true,RP 175 163 174 kF] [8,13,14,175] (.cond 175 (SR [RV 6 kF] [6] .ret) .skip))) (RG [RM 150 14,RB 151 .add 150 (ki 1),RM 14 151] [8,13,14]))))))) (RG [RM 145 13,RB 146 .add 145 (ki 1),RM 13 146] [8,13])))))) (SR [RV 6 kT] [6] .ret))))))))
def KC:List aW:=[.tm 6]
theorem V9:aQ afA Tryz.f128 (aX sJ)=some (sJ,KC):=by kernel_rfl
def wB:AC:= (SR [RO 1 0,RA 2 [OZ,OZ,OZ,OZ,OZ,OZ]] [1,2] (.seq (.region [RF 9 0 1 0,RX 10 (.load 2 true 9) [7] [] false 1,RF 12 4 1 3,RW 13 12 [7] [] true 4,RA 3 [OZ,OZ,OZ,OZ,OZ,OZ] 7,RX 11 (.call lX [10]) [7] [4] false 2,RX 14 (.call gG [13]) [7] [] false 5,rq 15 (.build [OZ,OZ,OZ,OZ,OZ,OZ] [(0,2,11),(5,1,14)]) 6,WS 6 true 3 15 8] 9 [1,2,3]) (.seq (SR [RV 4 (ki 0)] [1,2,3,4] (.block 0 (.loop (.seq (SR [RM 16 4,RF 17 2 1,RL 18 17,RN 19 18,RB 20 .lss 16 19] [1,2,3,4,20] (.cond 20 .skip (.exit 0))) (.seq (.block 1 (SR [RF 23 2 3,RW 24 23 [8] [] false,RF 25 2 1,RL 26 25,RM 27 4,RI 28 4 26 27,RF 29 0 28,RL 30 29,rq 31 (.aU 1 1 [VZ] [(0,1,30)]),rq 32 (.append 1 24 31),RF 33 2 3,WS 1 false 33 32] [1,2,3,4] (SR [RV 5 (ki 0)] [1,2,3,4,5] (.block 2 (.loop (.seq (SR [RM 34 5,RF 35 2 1,RL 36 35,RM 37 4,RI 38 4 36 37,RF 39 1 38,RL 40 39,RN 41 40,RB 42 .lss 34 41] [1,2,3,4,5,42] (.cond 42 .skip (.exit 2))) (.seq (.block 3 (RG [RF 45 3 3,RL 46 45,RM 47 4,RF 48 2 1,RL 49 48,RM 50 4,RI 51 4 49 50,RF 52 1 51,RL 53 52,RM 54 5,RI 55 1 53 54,RL 56 55,rq 57 (.build [VZ,VZ,VZ,VZ,OZ] [(0,1,47),(1,1,56)]),RC 58 nA [46,57],RF 59 3 3,WS 1 false 59 58] [1,2,3,4,5])) (RG [RM 43 5,RB 44 .add 43 (ki 1),RM 5 44] [1,2,3,4,5])))))))) (RG [RM 21 4,RB 22 .add 21 (ki 1),RM 4 22] [1,2,3,4])))))) (.seq (SR [RV 6 (ki 0)] [1,2,3,6] (.block 4 (.loop (.seq (SR [RM 60 6,RF 61 3 1,RL 62 61,RN 63 62,RB 64 .lss 60 63] [1,2,3,6,64] (.cond 64 .skip (.exit 4))) (.seq (.block 5 (.seq (SR [RV 7 (ki 0)] [1,2,3,6,7] (.block 6 (.loop (.seq (SR [RM 67 7,RF 68 3 1,RL 69 68,RM 70 6,RI 71 3 69 70,RF 72 0 71,RL 73 72,RN 74 73,RB 75 .lss 67 74] [1,2,3,6,7,75] (.cond 75 .skip (.exit 6))) (.seq (.block 7 (RG [RF 78 3 3,RL 79 78,RF 80 3 1,RL 81 80,RM 82 6,RI 83 3 81 82,RF 84 0 83,RL 85 84,RM 86 7,RI 87 3 85 86,RF 88 0 87,RL 89 88,RF 90 3 1,RL 91 90,RM 92 6,RI 93 3 91 92,RF 94 0 93,RL 95 94,RM 96 7,RI 97 3 95 96,RF 98 1 97,RL 99 98,rq 100 (.build [VZ,VZ,VZ,VZ,OZ] [(0,1,89),(1,1,99)]),RC 101 nA [79,100],RF 102 3 3,WS 1 false 102 101] [1,2,3,6,7])) (RG [RM 76 7,RB 77 .add 76 (ki 1),RM 7 77] [1,2,3,6,7])))))) (SR [RV 8 (ki 0)] [1,2,3,6,8] (.block 8 (.loop (.seq (SR [RM 103 8,RF 104 3 1,RL 105 104,RM 106 6,RI 107 3 105 106,RF 108 1 107,RL 109 108,RN 110 109,RB 111 .lss 103 110] [1,2,3,6,8,111] (.cond 111 .skip (.exit 8))) (.seq (.block 9 (RG [RF 114 4 3,RL 115 114,RF 116 3 1,RL 117 116,RM 118 6,RI 119 3 117 118,RF 120 1 119,RL 121 120,RM 122 8,RI 123 5 121 122,RD 124 5 123,RC 125 nA [115,124],RF 126 4 3,WS 1 false 126 125] [1,2,3,6,8])) (RG [RM 112 8,RB 113 .add 112 (ki 1),RM 8 113] [1,2,3,6,8])))))))) (RG [RM 65 6,RB 66 .add 65 (ki 1),RM 6 66] [1,2,3,6])))))) (SR [RD 127 6 3,RC 128 G8 [127],WS 6 true 2 128] [2] .ret)))))
def NC:List aW:=[.cell 2 6 true]
theorem ea:aQ afA Tryz.f130 (aX wB)=some (wB,NC):=by kernel_rfl
def sG:AC:= (SR [RO 4 0,RV 8 kF] [1,2,3,4] (.seq (SR [RM 11 1,RC 12 bY [11,(ki 0),(ki 2)],RU 13 12] [1,2,3,4,13] (.cond 13 (SR [RV 8 kF] [8] .ret) .skip)) (SR [RF 14 2 4,RL 15 14,RM 16 1,RI 17 4 15 16,RF 18 2 17,RL 19 18,RM 9 19] [2,3,9] (.seq (SR [RV 10 (ki 0)] [2,3,9,10] (.block 0 (.loop (.seq (SR [RM 20 10,RM 21 9,RN 22 21,RB 23 .lss 20 22] [2,3,9,10,23] (.cond 23 .skip (.exit 0))) (.seq (.block 1 (SR [RM 26 9,RM 27 10,RI 28 3 26 27,RF 29 1 28,RL 30 29,RM 31 2,RB 32 .eql 30 31,RM 33 32,GM 34 9 33 true,GM 35 10 33 true,GI 36 3 34 35 33 true,GF 37 2 36 33 true,GL 38 37 33 true,GM 39 3 33 true,GB 40 .eql 38 39 33 true,RP 41 33 40 kF] [2,3,9,10,41] (.cond 41 (SR [RV 8 kT] [8] .ret) .skip))) (RG [RM 24 10,RB 25 .add 24 (ki 1),RM 10 25] [2,3,9,10])))))) (SR [RV 8 kF] [8] .ret)))))
def KH:List aW:=[.tm 8]
theorem W8:aQ afA Tryz.f212 (aX sG)=some (sG,KH):=by kernel_rfl
def qE:AC:= (SR [RV 4 kF] [0,1] (.seq (SR [RM 6 0,RN 7 6,RM 8 1,RN 9 8,RB 10 .neq 7 9] [0,1,10] (.cond 10 (SR [RV 4 kF] [4] .ret) .skip)) (.seq (SR [RV 5 (ki 0)] [0,1,5] (.block 0 (.loop (.seq (SR [RM 11 5,RM 12 0,RN 13 12,RB 14 .lss 11 13] [0,1,5,14] (.cond 14 .skip (.exit 0))) (.seq (.block 1 (SR [RM 17 0,RM 18 5,RI 19 3 17 18,RD 20 3 19,RM 21 1,RM 22 5,RI 23 3 21 22,RD 24 3 23,rq 25 (.xop (.aeq true 3) [20,24])] [0,1,5,25] (.cond 25 (SR [RV 4 kF] [4] .ret) .skip))) (RG [RM 15 5,RB 16 .add 15 (ki 1),RM 5 16] [0,1,5])))))) (SR [RV 4 kT] [4] .ret))))
def IE:List aW:=[.tm 4]
theorem VG:aQ afA Tryz.f31 (aX qE)=some (qE,IE):=by kernel_rfl
end Go.Proofs.YtlncecohbakleaaGreat
