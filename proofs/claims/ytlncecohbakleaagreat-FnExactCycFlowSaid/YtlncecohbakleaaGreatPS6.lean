/- Texts laid together by a program: rules, contracts and the walk that leads to the law. -/
import Derived.Test.YtlncecohbakleaaGreatPS3
set_option linter.unusedVariables false
set_option linter.unusedSimpArgs false
set_option linter.unusedSectionVars false
set_option maxRecDepth 100000
set_option maxHeartbeats 8000000
namespace Go.AM
open Go.RowKit
def aaS(e' e:Env):Prop:=∀t,e' t=e t\/e' t= .dead
theorem aaS.refl(e:Env):aaS e e:=fun _=>.inl rfl
theorem ER.le{c:Cf}{T:Nat}{e e':Env}{a:Act}(he:ER c T e a)(h:aaS e' e):ER c T e' a:=by
 refine⟨he.1,he.2.1,fun t=> ?_⟩;rcases h t with b|b;·rw[b];exact he.2.2 t
 ·rw[b];exact trivial
section
variable{P:Program}{T:Nat}{e:Env}{H:aA}{nx:Nat}{Q:AQ}
theorem AWP.le{x:AC}{e':Env}(bPQ:aaS e' e)(h:AWP P T x e' H nx Q):AWP P T x e H nx Q:=fun code hc c a hs he l2=>h code hc c a hs (he.le bPQ) l2
theorem aM.le{x:AC}{zs:List AC}{e':Env}(bPQ:aaS e' e)(h:aM P T (x::zs) e' H nx Q):aM P T (x::zs) e H nx Q:=AWP.le bPQ h
theorem aB.ofH{f:FuncId}{fn:Func}{code:Code}{ac:AC}{rs:List aW}{cs l:List Cert}{args:List D}{K:bNX}
 (m:qY P f=true) (y:P.funcs[f]?=some fn) (z:fn.body=some code) (hc:compile P fn.ntmps code cs=some (ac,l)) (hr:AJ P fn.results.toList=some rs) (hl:args.length<=fn.ntmps)
 (h: ∀Q:AQ,(∀ex e' H' nx' d,ex= .normal\/ex= .ret->yT H' e' rs=some d->K d H' nx'->Q ex e' H' nx')->AWP P fn.ntmps ac (Env.args 0 args) H nx Q):aB P f args H nx K:=by
 refine⟨m,fun c vs hs l2 hlen j=> ?_⟩
 apply calls_of_wp y z
 have n:=JA _ _ _ _ hc
 have o:ER c fn.ntmps (Env.args 0 args) {tmps:=vs.toArray++Array.replicate (fn.ntmps-vs.toArray.size) undef,defers:=[]}:=by
  refine⟨by simp;omega,rfl,fun t=> ?_⟩;rw[Env.ML];simp only[bxY,if_true,Nat.sub_zero]
  cases k:args[t]? with
  |none=>exact trivial
  |some d=>have q:t<vs.length:=(by rw[hlen];exact(m3.1 k).1);have p:(vs.toArray++Array.replicate (fn.ntmps-vs.toArray.size) undef).getD t undef=vs[t]:=(by rw[boK,Y6];simp[q]);rw[p];exact j t d _ k (n1 q)
 refine wp_mono (h _ (fun ex e' H' nx' d A B k9=>(⟨A,d,B,k9⟩:(ex= .normal\/ex= .ret)/\ ∃d,yT H' e' rs=some d/\K d H' nx')) code n c _ hs o l2) ?_
 rintro ex a w ⟨C,e',H',nx',c',rfl,rfl,s,E,u,F,G,I,d,J,L⟩
 obtain⟨v,p,k⟩:=aa3 s u hr J
 have e:a.defers=[]/\ ∃v,(results fn a.tmps).run P c'.w= .ok v c'.w/\ ∃x b r g nx',Ending.returned v= .returned x/\b.w=c'.w/\St b g/\Step c H b g/\(∀i,b.N i->c.N i\/(nx<=i/\i<nx'))/\nx<=nx'/\fD b r x/\K r g nx':=⟨u.2.1,v,p,v,c',d,H',nx',rfl,rfl,s,E,F,G,k,L⟩
 rcases I with rfl|rfl
 ·exact e
 ·exact e
def cJ(P:Program)(f:FuncId)(fn:Func)(ac:AC)(rs:List aW):Prop:=
 ∀{args:List D} {H:aA} {nx:Nat} {b:bNX} (_hl:Nat.ble args.length fn.ntmps=true)
  (_h: ∀Q:AQ,(∀ex c H2 a d,ex= .normal\/ex= .ret->yT H2 c rs=some d->b d H2 a->Q ex c H2 a)->aM P fn.ntmps [ac] (Env.args 0 args) H nx Q),aB P f args H nx b
theorem cJ.mk{P:Program}{f:FuncId}{fn:Func}{ac:AC}{rs:List aW}{cs:List Cert}
 (c:P.funcs[f]?=some fn) (a:qY P f=true) (hc:aO P fn cs=some (ac,rs)):cJ P f fn ac rs:=by
 intro args H nx m hl h
 unfold aO at hc
 split at hc
 ·rename_i b d;split at hc;·rename_i e g i j k;simp only[Option.some.injEq,Prod.mk.injEq] at hc;obtain⟨rfl,rfl⟩:=hc;exact aB.ofH a c d j k (boM hl) fun Q l=>(h Q l).run
  ·simp at hc
 ·simp at hc
end
def CvX(F:Nat->Prop)(nx:Nat)(H H':aA):Prop:=∀i o',H' i=some o'->¬F i/\ ∃o,H i=some o/\(o'=o\/CvO H F id nx o' o)
variable{nx:Nat}
theorem MR{c:Cf}{I':Nat->Prop}(bOV: ∀b,c.I b->I' b)(l2: ∀i,c.N i->i<nx){d:D1}{x:Value}(h:Rel c d x):Rel (c.conv nx nx id I') d x:=by
 have g: ∀d x,bY c d x->bY (c.conv nx nx id I') d x:=by
  intro d x h
  cases d<;>simp only[bY] at h ⊢ <;>first
   |exact h.wT bOV (fun _ _=>rfl)
   |exact⟨h.1,h.2.imp (fun h=>h) fun⟨e,a,j⟩=>⟨e,.inl ⟨l2 _ a,a⟩,j⟩⟩
   |exact⟨.inl ⟨l2 _ h.1,h.1⟩,h.2⟩
   |exact h
 cases d with
 |clo f caps=>obtain⟨vs,k,hl,l⟩:=h;exact⟨vs,k,hl,fun i d u e a=>g _ _ (l i d u e a)⟩
 |_=>simp only[Rel] at h ⊢;exact g _ _ h
theorem ac6{c:Cf}{I':Nat->Prop}(bOV: ∀b,c.I b->I' b)(l2: ∀i,c.N i->i<nx){d:D}{x:Value}(h:fD c d x):fD (c.conv nx nx id I') d x:=by
 have bPP: ∀d x,jZ c d x->jZ (c.conv nx nx id I') d x:=by
  intro d x h
  cases d with
  |c d=>exact MR bOV l2 h
  |agg cs=>obtain⟨vs,a,hl,e⟩:=h;exact⟨vs,a,hl,fun i d u f g=>MR bOV l2 (e i d u f g)⟩
 cases d with
 |one d=>exact bPP d x h
 |tup j=>obtain⟨vs,a,hl,e⟩:=h;exact⟨vs,a,hl,fun i d u f g=>bPP d u (e i d u f g)⟩
 |dead=>trivial
theorem YO{c c0:Cf}{H H0 H':aA}{F:Nat->Prop}(hs:St c H)(a:Step c0 H0 c H)(l2: ∀i,c.N i->i<nx)(bO5:CvX F nx H H'):
 St (c.conv nx nx id (c.frI H F)) H'/\Step c0 H0 (c.conv nx nx id (c.frI H F)) H':=by
 have boT: ∀{i:Nat} {o':bA},H' i=some o'->¬F i/\ ∃o,H i=some o/\o'.n=o.n/\o'.ext=o.ext/\o'.rows.length<=o.rows.length/\(o.n=0->o'.rows=[]->o.rows=[]):=by
  intro i o' h;obtain⟨m,o,e,rfl|g⟩:=bO5 i o' h;·exact⟨m,_,e,rfl,rfl,m5 _,fun _ h=>h⟩
  ·exact⟨m,o,e,g.1,g.2.1,g.2.2.1,g.2.2.2.1⟩
 refine⟨?_,?_⟩
 ·refine {named:= ?_,wf:= ?_,blk:= ?_,cells:= ?_,sep:= ?_,imm:= ?_,old:= ?_};·intro id o' h;obtain⟨_,o,e,_⟩:=boT h;exact .inl ⟨l2 _ (hs.named _ o e),hs.named _ o e⟩
  ·intro id o' h;obtain⟨_,o,e,rfl|⟨g,k9,l1,_,bOW⟩⟩:=bO5 id o' h;·exact hs.wf _ _ e
   ·obtain⟨t,k⟩:=hs.wf _ o e;refine⟨by omega,fun i r hr=> ?_⟩;obtain⟨v,bO2,bPH⟩:=bOW i r hr;rw[bPH.1,k i v bO2,g]
  ·intro id o' h he;obtain⟨_,o,e,g,k9,l1,bO2⟩:=boT h;exact(hs.blk _ o e (by omega)).arW g k9 fun z=>⟨bO2 z,fun hr=>by rw[hr] at l1;exact H4.1 (by simpa using l1)⟩
  ·intro id o' i j r d h m e;obtain⟨_,o,k,rfl|⟨bPC,bPD,bPE,_,bPF⟩⟩:=bO5 id o' h;·obtain⟨u,bPK,p⟩:=hs.cells _ _ i j r d k m e;exact⟨u,bPK,MR (fun b h=>.inl h) l2 p⟩
   ·obtain⟨v,bPI,bPJ⟩:=bPF i r m;have w:j<v.length:=(by rw[<-bPJ.1];exact(m3.1 e).1);obtain⟨u,bPK,p⟩:=hs.cells _ o i j v _ k bPI (n1 w);refine⟨u,by rw[bPC];exact bPK,?_⟩;exact PM hs (fun b h=>.inl h) (fun id o m e g=>.inr ⟨id,o,m,e,g,rfl⟩) (fun _ _=>rfl) (bPJ.2 j d _ e (n1 w)) p
  ·intro i j o o' hi w he A q;obtain⟨_,B,k,bPC,bPD,_⟩:=boT hi;obtain⟨_,s,bPF,bPI,bPJ,_⟩:=boT w;exact hs.sep i j B s k bPF (by omega) (by omega) q
  ·intro i o' h he;obtain⟨x,o,e,g,k9,_⟩:=boT h;rintro(bOV|⟨f,s,t,k,bPC,bPD⟩);·exact hs.imm _ o e (by omega) bOV
   ·have q:f≠i:=(by rintro rfl;exact x t);exact hs.sep f i s o k e bPC (by omega) q bPD
  ·rintro b (bOV|⟨f,s,t,k,bPC,rfl⟩);·exact hs.old b bOV
   ·exact(hs.blk f s k bPC).lt
 ·exact {
   ρ:=fun i l=>a.ρ i l
   N:=fun i l=>.inl ⟨l2 i (a.N i l),a.N i l⟩
   I:=fun b y=>.inl (a.I b y)
   I':=by
    rintro b (bOV|⟨f,s,t,k,bPC,rfl⟩);·exact a.I' b bOV
    ·exact .inr (a.own _ ⟨f,s,k,bPC,rfl⟩)
   size:=a.size
   os:=a.os
   tape:=a.tape
   output:=a.output
   frame:=a.frame
   own:=by rintro b ⟨id,o',h,he,y⟩;obtain⟨_,o,e,g,k9,_⟩:=boT h;exact a.own b ⟨id,o,e,by omega,y⟩}
theorem aK{H:aA}:CvX noF nx H H:=fun _ o h=>⟨fun h=>h,o,h,.inl rfl⟩
theorem aM.gP{P:Program}{T:Nat}{e:Env}{H:aA}{Q:AQ}{x:AC}{zs:List AC}{β:Type}(E:β->Env)(Φ:β->aA->Nat->Prop)(μ:β->Nat)(boW:β)(C: ∃F H1,CvE H F id nx (E boW) e/\CvX F nx H H1/\Φ boW H1 nx)
 (h: ∀b H1 d,nx<=d->Φ b H1 d->∀K:Env->aA->Nat->Prop,(∀e' H' nx' f F H2,d<=nx'->μ f<μ b->CvE H' F id nx' (E f) e'->CvX F nx' H' H2->Φ f H2 nx'->K e' H' nx')->aM P T [x] (E b) H1 d (AQ.then K Q)):aM P T (.loop x::zs) e H nx Q:=by
 intro code hc c a hs he l2
 obtain⟨bp6,H0,D,G,I⟩:=C
 have k: ∀{bPB:Cf} {H1 H2:aA} {d:Nat} {F:Nat->Prop} {p q:Env} {a:Act},St bPB H1->Step c H bPB H1->(∀i,bPB.N i->i<d)->ER bPB T p a->CvE H1 F id d q p->CvX F d H1 H2->
  ∃c2:Cf,c2.w=bPB.w/\St c2 H2/\Step c H c2 H2/\ER c2 T q a/\ ∀i,c2.N i->bPB.N i:=by
  intro bPB H1 H2 d F p q a A J bPC bPD bPE bPF
  obtain⟨B,r⟩:=YO A J bPC bPF
  refine⟨bPB.conv d d id (bPB.frI H1 F),rfl,B,r,⟨bPD.1,bPD.2.1,fun t=>zD A (fun b h=>.inl h) (fun id o j l m=>.inr ⟨id,o,j,l,m,rfl⟩) (fun _ _=>rfl) (bPE t) (bPD.2.2 t)⟩,fun i hi=> ?_⟩
  rcases hi with⟨_,hi⟩|⟨j,l,m⟩
  ·exact hi
  ·omega
 cases hc with
 |loop j=>
  obtain⟨bPB,L,M,O,R,S⟩:=k hs (Step.refl c H) l2 he D G;refine wp_loop_ghost (fun n a w=>∃b bPB H1 d,μ b=n/\bPB.w=w/\St bPB H1/\ER bPB T (E b) a/\Step c H bPB H1/\(∀i,bPB.N i->c.N i\/(nx<=i/\i<d))/\nx<=d/\Φ b H1 d) (μ boW) ⟨boW,bPB,H0,nx,rfl,L,M,R,O,fun i hi=>.inl (S i hi),m5 _,I⟩ ?_;rintro n a w ⟨b,bPB,H1,d,rfl,rfl,bO8,bO9,bPL,bPM,bPR,bPS⟩;refine wp_mono (h b H1 d bPR bPS (fun e' H' nx'=>∃f F H2,d<=nx'/\μ f<μ b/\CvE H' F id nx' (E f) e'/\CvX F nx' H' H2/\Φ f H2 nx') (fun _ _ _ f F H2 j l m k9 l1=>⟨f,F,H2,j,l,m,k9,l1⟩) _ j bPB a bO8 bO9 fun i hi=> ?_) fun ex Y Z ⟨s,e',H',nx',c',hp⟩=> ?_
  ·rcases bPM i hi with h|h;·have:=l2 i h;omega
   ·omega
  ·obtain⟨rfl,rfl,u,v,y,U,p5,z⟩:=hp
   have g: ∀i,c'.N i->c.N i\/(nx<=i/\i<nx'):=by
    intro i hi;rcases U i hi with h|h
    ·rcases bPM i h with h|h;·exact .inl h
     ·exact .inr ⟨h.1,by omega⟩
    ·exact .inr ⟨by omega,h.2⟩
   cases s with
   |normal=>obtain⟨f,F,H2,B,r,V,W,X⟩:=z;obtain⟨c2,s1,s2,bp7,bp8,bp9⟩:=k u (bPL.trans v) (fun i hi=>by rcases g i hi with h|h;have:=l2 i h;omega;exact h.2) y V W;exact⟨μ f,r,f,c2,H2,nx',rfl,s1,s2,bp8,bp7,fun i hi=>g i (bp9 i hi),by omega,X⟩
   |exit id=>exact⟨.exit id,e',H',nx',c',rfl,rfl,u,bPL.trans v,y,g,by omega,z⟩
   |ret=>exact⟨.ret,e',H',nx',c',rfl,rfl,u,bPL.trans v,y,g,by omega,z⟩
theorem aB.tW{P:Program}{f:FuncId}{args:List D}{H:aA}{nx:Nat}{K:bNX}
 (h:aB P f args H nx fun r H' e=>∃a H2 F,CvD H' F id e a r/\CvX F e H' H2/\K a H2 e):aB P f args H nx K:=by
 refine⟨h.1,fun c vs hs l2 hl hr=> ?_⟩
 refine(h.2 c vs hs l2 hl hr).mono ?_
 rintro x B ⟨v,c2,r,H2,d,rfl,rfl,j,p,k,q,s,a,t,F,u,w,y⟩
 have g: ∀i,c2.N i->i<d:=fun i hi=>by
  rcases k i hi with h|h;·have:=l2 i h;omega
  ·exact h.2
 obtain⟨z,A⟩:=YO j p g w
 refine⟨v,c2.conv d d id (c2.frI H2 F),a,t,d,rfl,rfl,z,A,fun i hi=> ?_,q,zD j (fun b h=>.inl h) (fun id o l m n=>.inr ⟨id,o,l,m,n,rfl⟩) (fun _ _=>rfl) u s,y⟩
 rcases hi with⟨_,hi⟩|⟨l,m,n⟩
 ·exact k i hi
 ·omega
section
variable{P:Program}{T:Nat}{e:Env}{H:aA}{nx:Nat}{Q:AQ}
theorem AWP.tW{x:AC}(e':Env)(H':aA)(F:Nat->Prop)(bPQ: ∀t,e' t=e t\/CvD H F id nx (e' t) (e t))(bO5:CvX F nx H H')(h:AWP P T x e' H' nx Q):AWP P T x e H nx Q:=by
 intro code hc c a hs he l2;obtain⟨k,l⟩:=YO hs (Step.refl c H) l2 bO5;refine wp_mono (h code hc (c.conv nx nx id (c.frI H F)) a k ⟨he.1,he.2.1,fun t=> ?_⟩ fun i hi=> ?_) ?_
 ·rcases bPQ t with d|d;·rw[d];exact ac6 (fun b h=>.inl h) l2 (he.2.2 t)
  ·exact zD hs (fun b h=>.inl h) (fun id o d f g=>.inr ⟨id,o,d,f,g,rfl⟩) (fun _ _=>rfl) d (he.2.2 t)
 ·rcases hi with⟨_,hi⟩|⟨d,f,g⟩
  ·exact l2 i hi
  ·omega
 ·rintro ex a w ⟨j,e',H',nx',c',rfl,rfl,m,n,p,q,r,s⟩;refine⟨j,e',H',nx',c',rfl,rfl,m,l.trans n,p,fun i hi=> ?_,r,s⟩;rcases q i hi with h|h
  ·rcases h with⟨_,hi⟩|⟨d,f,g⟩
   ·exact .inl hi
   ·omega
  ·exact .inr h
theorem aM.tW{x:AC}{zs:List AC}(e':Env)(H':aA)(F:Nat->Prop)(bPQ: ∀t,e' t=e t\/CvD H F id nx (e' t) (e t))(bO5:CvX F nx H H')(h:aM P T (x::zs) e' H' nx Q):aM P T (x::zs) e H nx Q:=AWP.tW e' H' F bPQ bO5 h
theorem AWP.BW{x:AC}(h:(∀i,nx<=i->H i=none)->AWP P T x e H nx Q):AWP P T x e H nx Q:=
 fun code hc c a hs he l2=>h (fun i hi=>by
  cases b:H i with
  |none=>rfl
  |some o=>have:=l2 i (hs.named i o b);omega) code hc c a hs he l2
theorem aM.BW{x:AC}{zs:List AC}(h:(∀i,nx<=i->H i=none)->aM P T (x::zs) e H nx Q):aM P T (x::zs) e H nx Q:=AWP.BW h
variable{l:List Nat}
theorem BV{b:Nat}{H:aA}(h: ∀i,nx<=i->H i=none)(a:nx<=b):msk b l H=H:=by
 funext i;simp only[msk];split;·rename_i hi;obtain⟨j,_,rfl⟩:=CF.1 hi;exact(h _ (by omega)).symm
 ·rfl
theorem umS{b i:Nat}{H G:aA}{o:bA}:dT b l (H.set i o) G=if i∈l.map (b+ ·) then (dT b l H G).set i o else dT b l H G:=by
 split
 ·rename_i h;funext j;simp only[dT,aA.set];by_cases a:j=i;·subst a;simp only[h,if_true]
  ·simp only[a,if_false]
 ·rename_i h;funext j;simp only[dT,aA.set];by_cases a:j=i;·subst a;simp only[h,if_false]
  ·simp only[a,if_false]
theorem umD{b i:Nat}{H G:aA}:dT b l (H.del i) G=if i∈l.map (b+ ·) then (dT b l H G).del i else dT b l H G:=by
 split
 ·rename_i h;funext j;simp only[dT,aA.del];by_cases a:j=i;·subst a;simp only[h,if_true]
  ·simp only[a,if_false]
 ·rename_i h;funext j;simp only[dT,aA.del];by_cases a:j=i;·subst a;simp only[h,if_false]
  ·simp only[a,if_false]
theorem umB{b:Nat}{G:aA}:dT b l G G=G:=by funext j;simp only[dT];split<;>rfl
end
def D1.free:D1->Bool
 | .v _| .osl .. | .ptr .. | .dead=>true
 | .isl rows=>rows.isEmpty
 |_=>false
def D.free:D->Bool
 | .one x=>x.cells.all D1.free
 | .tup xs=>xs.all fun x=>x.cells.all D1.free
 | .dead=>true
def bE9(H:aA):Prop:=∀i o,H i=some o->∀r∈o.rows,∀d∈r,d.free=true
section
variable{P:Program}{H:aA}
theorem bE7{c2 bPO:Cf}{t:Nat->Nat}(l2: ∀i,c2.N i->bPO.N (t i))(c: ∀i,c2.N i->bPO.ρ (t i)=c2.ρ i){d:D1}(g:d.free=true){x:Value}(h:Rel c2 d x):Rel bPO (rn1 t d) x:=by
 cases d<;>simp only[D1.free,CC] at g
 case v y=>
  simp only[Rel,bY] at h;simp only[rn1,rn0,Rel,bY]
  cases h with
  |v _ h=>exact .v _ h
 case isl rows=>
  have hr:rows=[]:=List.isEmpty_iff.1 g;subst hr;simp only[Rel,bY] at h;simp only[rn1,rn0,Rel,bY]
  cases h with
  |isl _ a cap n b o f p e q hc hr=>exact .isl [] a cap 0 0 0 (fun _ _=>undef) (by simp) e (by simp) (by simp) (by simp)
 case osl n id off len cap=>simp only[Rel,bY] at h;simp only[rn1,rn0,Rel,bY];exact⟨h.1,h.2.imp (fun h=>h) fun⟨k,j,l⟩=>⟨k,l2 _ j,by rw[c _ j];exact l⟩⟩
 case ptr n id row m=>simp only[Rel,bY] at h;simp only[rn1,rn0,Rel,bY];exact⟨l2 _ h.1,by rw[c _ h.1];exact h.2⟩
 case dead=>simp only[Rel,bY] at h;simp only[rn1,rn0,Rel,bY];exact h
theorem bFO{c2 bPO:Cf}{t:Nat->Nat}(l2: ∀i,c2.N i->bPO.N (t i))(a: ∀i,c2.N i->bPO.ρ (t i)=c2.ρ i){d:DV}(e:d.cells.all D1.free=true){x:Value}(h:jZ c2 d x):jZ bPO (rnV t d) x:=by
 cases d with
 |c d=>exact bE7 l2 a (by simpa [DV.cells] using e) h
 |agg l=>obtain⟨vs,g,hl,j⟩:=h;refine⟨vs,g,by simp[hl],fun i d u b k=> ?_⟩;simp only[p0,m4] at b;obtain⟨f,b,rfl⟩:=b;exact bE7 l2 a (w2.1 e f (s3 b)) (j i f u b k)
theorem bFW{c2 bPO:Cf}{t:Nat->Nat}(l2: ∀i,c2.N i->bPO.N (t i))(a: ∀i,c2.N i->bPO.ρ (t i)=c2.ρ i){d:D}(c:d.free=true){x:Value}(h:fD c2 d x):fD bPO (rnD t d) x:=by
 cases d with
 |one d=>exact bFO l2 a c h
 |dead=>trivial
 |tup k=>obtain⟨vs,f,hl,g⟩:=h;refine⟨vs,f,by simp[hl],fun i d u b j=> ?_⟩;simp only[p0,m4] at b;obtain⟨e,b,rfl⟩:=b;exact bFO l2 a (w2.1 c e (s3 b)) (g i e u b j)
theorem aB.forget{f:FuncId}{args:List D}{K:bNX}(h:aB P f args .nil 0 fun r H' _=>∃a,CvD H' (fun _=>True) id 0 a r/\K a .nil 0):aB P f args .nil 0 K:=by refine⟨h.1,fun c vs hs l2 hl hr=> ?_⟩;refine(h.2 c vs hs l2 hl hr).mono ?_;rintro x t ⟨v,c2,r,H2,u,rfl,rfl,d,l,w,y,m,a,n,p⟩;obtain⟨q,s⟩:=adN (nx:=0) (nh:=0) (σ:=id) (F:=fun _=>True) (H':=.nil) d l l2 (m5 0) (fun i hi=>rfl) ⟨fun id o h=>(by cases h),fun i j o o' h=>(by cases h)⟩;refine⟨v,c2.conv 0 0 id (c2.frI H2 fun _=>True),a,.nil,0,rfl,rfl,q,s,fun i hi=> ?_,m5 _,zD d (fun b h=>.inl h) (fun id o e g k=>.inr ⟨id,o,e,g,k,rfl⟩) (fun _ _=>rfl) n m,p⟩;rcases hi with⟨_,hi⟩|⟨e,g,k⟩<;>omega
theorem aB.bFZ{f:FuncId}{args0 args:List D}{nx:Nat}{K:bNX}{R:bNX}(h:aB P f args0 .nil 0 fun r H' n'=>(r.free=true/\bE9 H')/\R r H' n')(hlen:args.length=args0.length)
 (Y: ∀(i:Nat) (Z d:D),args0[i]?=some Z->args[i]?=some d->CvD H (fun _=>True) id 0 Z d) (bPN: ∀r H' n',R r H' n'->K (rnD (fun i=>nx+i) r) (back (fun i=>nx+i) H' n' H) (nx+n')):aB P f args H nx K:=by
 refine⟨h.1,fun c vs hs l2 hl hr=> ?_⟩
 have aa:Step {c with N:=fun _=>False} H c H:={
  ρ:=fun id h=>h.elim
  N:=fun id h=>h.elim
  I:=fun b h=>h
  I':=fun b h=>.inl h
  size:=m5 _
  os:=rfl
  tape:=rfl
  output:=rfl
  frame:=fun _ _ _=>rfl
  own:=fun b h=>.inl h}
 have ad:=(adN (nx:=0) (nh:=0) (σ:=id) (F:=fun _=>True) (H':=.nil) hs aa (fun _ h=>h.elim) (m5 0) (fun i hi=>rfl) ⟨fun id o h=>(by cases h),fun i j o o' h=>(by cases h)⟩).1
 obtain⟨bPB,B⟩: ∃bPB,bPB=c.conv 0 0 id (c.frI H fun _=>True):=⟨_,rfl⟩
 rw[<-B] at ad
 have O:bPB.w=c.w:=by rw[B];rfl
 have e2: ∀b,c.I b->bPB.I b:=fun b z=>by rw[B];exact .inl z
 have e4: ∀i,¬bPB.N i:=fun i hi=>by rw[B] at hi;rcases hi with⟨h,_⟩|⟨_,p,_⟩<;>omega
 have C:=h.2 bPB vs ad (fun i hi=>(e4 i hi).elim) (by rw[hl,hlen]) (fun i Z v p e=>by
  have hi:i<args.length:=by rw[hlen];exact(m3.1 p).1
  have:=zD (nx:=0) hs (I':=c.frI H fun _=>True) (fun b h=>.inl h) (fun id o p e m=>.inr ⟨id,o,p,e,m,rfl⟩) (fun i hi=>rfl) (Y i Z _ p (n1 hi)) (hr i _ v (n1 hi) e)
  rw[B];exact this)
 rw[O] at C
 apply C.mono
 rintro x w' ⟨v,c2,r,H2,X,rfl,rfl,A,p2,p3,p4,p5,⟨p6,p7⟩,bk9⟩
 have ae: ∀b,¬uG bPB .nil b:=by rintro b ⟨id,o,h,_⟩;cases h
 have E: ∀b,b<c.w.heap.size->c2.w.heap[b]?=c.w.heap[b]?:=fun b z=>by rw[<-O];exact p2.frame b (by rw[O];exact z) (ae b)
 have s: ∀i o,H2 i=some o->0<o.ext->c.w.heap.size<=(c2.ρ i).1:=fun i o p e=>by
  rcases p2.own _ ⟨i,o,p,e,rfl⟩ with h|h;·exact(ae _ h).elim
  ·rw[<-O];exact h
 obtain⟨t,ht⟩: ∃t:Nat->Nat,t=fun i=>nx+i:=⟨_,rfl⟩
 have Q: ∀i,t i=nx+i:=fun i=>by rw[ht]
 have ag: ∀i,c2.N i->i<X:=fun i hi=>(p3 i hi).elim (fun h=>(e4 i h).elim) fun h=>h.2
 obtain⟨bPO,G⟩: ∃bPO:Cf,bPO= {ρ:=fun j=>if j<nx then c.ρ j else c2.ρ (j-nx),N:=fun j=>c.N j\/(nx<=j/\c2.N (j-nx)),I:=c.I,w:=c2.w}:=⟨_,rfl⟩
 have J:bPO.w=c2.w:=by rw[G]
 have q2:bPO.I=c.I:=by rw[G]
 have S: ∀j,j<nx->bPO.ρ j=c.ρ j:=fun j hj=>by rw[G];simp only;rw[if_pos hj]
 have q4: ∀j,bPO.N j↔c.N j\/(nx<=j/\c2.N (j-nx)):=fun j=>by rw[G]
 have q5: ∀i,c2.N i->bPO.N (t i):=fun i hi=>by rw[q4,Q];exact .inr ⟨by omega,by rw[bGU];exact hi⟩
 have M: ∀i,c2.N i->bPO.ρ (t i)=c2.ρ i:=fun i hi=>by rw[G,Q];simp only;rw[if_neg (by omega),bGU]
 have y: ∀j o,H j=some o->0<o.ext->(c.ρ j).1<c.w.heap.size:=fun j o n he=>(hs.blk j o n he).lt
 have q: ∀j o,H j=some o->j<nx:=fun j o n=>l2 j (hs.named j o n)
 have hB: ∀j o,back t H2 X H j=some o->(∃i g,i<X/\t i=j/\H2 i=some g/\o=g.rn t)\/H j=some o:=by
  intro j o n;rcases WM t H2 H X j (fun a b _ _ ah=>by rw[Q,Q] at ah;omega) with⟨i,p,e,m⟩|⟨p,e⟩
  ·rw[m] at n;simp only[m4] at n;obtain⟨g,k9,rfl⟩:=n;exact .inl ⟨i,g,p,e,k9,rfl⟩
  ·rw[e] at n;exact .inr n
 have L:Step c H bPO (back t H2 X H):={
  ρ:=fun j hj=>S j (l2 j hj)
  N:=fun j hj=>(q4 j).2 (.inl hj)
  I:=fun b z=>by rw[q2];exact z
  I':=fun b z=>by rw[q2] at z;exact .inl z
  size:=by rw[J,<-O];exact p2.size
  os:=by rw[J,<-O];exact p2.os
  tape:=by rw[J,<-O];exact p2.tape
  output:=by rw[J,<-O];exact p2.output
  frame:=fun b z _=>by rw[J];exact E b z
  own:=by
   rintro b ⟨j,o,k1,k2,rfl⟩;rcases hB j o k1 with⟨i,g,p,rfl,m,rfl⟩|e;·rw[M i (A.named i g m)];exact .inr (s i g m k2)
   ·exact .inl ⟨j,o,e,k2,by rw[S j (q j o e)]⟩}
 refine⟨v,bPO,rnD t r,back t H2 X H,nx+X,rfl,J,?_,L,?_,by omega,bFW q5 M p6 p5,by rw[ht];exact bPN r H2 X bk9⟩
 ·refine {named:= ?_,wf:= ?_,blk:= ?_,cells:= ?_,sep:= ?_,imm:= ?_,old:= ?_}
  ·intro j o n;rcases hB j o n with⟨i,g,p,rfl,m,rfl⟩|e;·exact q5 i (A.named i g m)
   ·exact(q4 j).2 (.inl (hs.named j o e))
  ·intro j o n;rcases hB j o n with⟨i,g,p,rfl,m,rfl⟩|e;·obtain⟨k1,k2⟩:=A.wf i g m;refine⟨by simpa [bA.rn] using k1,fun i r hr=> ?_⟩;simp only[bA.rn,p0,m4] at hr;obtain⟨r0,hr,rfl⟩:=hr;simpa [bA.rn] using k2 i r0 hr
   ·exact hs.wf j o e
  ·intro j o n he;rcases hB j o n with⟨i,g,p,rfl,m,rfl⟩|e;·rw[M i (A.named i g m),J];exact(A.blk i g m he).arW rfl rfl fun _=>by simp[bA.rn]
   ·have:=hs.blk j o e he;rw[<-E _ (y j o e he),<-S j (q j o e),<-J] at this;exact this
  ·intro j o k l r d n hr hd;rcases hB j o n with⟨i,g,p,rfl,m,rfl⟩|e;·simp only[bA.rn,p0,m4] at hr;obtain⟨r0,hr,rfl⟩:=hr;simp only[p0,m4] at hd;obtain⟨Z,hd,rfl⟩:=hd;obtain⟨u,l1,bOW⟩:=A.cells i g k l r0 Z m hr hd;refine⟨u,?_,bE7 q5 M (p7 i g m r0 (s3 hr) Z (s3 hd)) bOW⟩;rw[M i (A.named i g m),J];exact l1
   ·obtain⟨u,l1,bOW⟩:=hs.cells j o k l r d e hr hd;have ab:0<o.ext:=by have:=(hs.wf j o e).1;have hk:k<o.rows.length:=(m3.1 hr).1;omega
    refine⟨u,?_,bOW.step L hs⟩;rw[<-l1,S j (q j o e),J];exact World.cell?_of_block (w:=c.w) (E _ (y j o e ab))
  ·intro j j' o o' n ai he T af;rcases hB j o n with⟨i,g,p,rfl,m,rfl⟩|e<;>rcases hB j' o' ai with⟨i',U,aj,rfl,V,rfl⟩|W;·rw[M i (A.named i g m),M i' (A.named i' U V)];exact A.sep i i' g U m V he T fun h=>af (congrArg t h)
   ·rw[M i (A.named i g m),S j' (q j' o' W)];have az9:=s i g m he;have az2:=y j' o' W T;omega
   ·rw[M i' (A.named i' U V),S j (q j o e)];have az9:=s i' U V T;have az2:=y j o e he;omega
   ·rw[S j (q j o e),S j' (q j' o' W)];exact hs.sep j j' o o' e W he T af
  ·intro j o n he;rw[q2];rcases hB j o n with⟨i,g,p,rfl,m,rfl⟩|e;·rw[M i (A.named i g m)];intro bOV;have az9:=s i g m he;have az2:=hs.old _ bOV;omega
   ·rw[S j (q j o e)];exact hs.imm j o e he
  ·intro b z;rw[q2] at z;have az9:=hs.old b z;have az2:=p2.size;rw[O] at az2;rw[J];omega
 ·intro j hj;rcases(q4 j).1 hj with h|⟨p,e⟩
  ·exact .inl h
  ·right;have:=ag _ e;exact⟨p,by omega⟩
end
end Go.AM
namespace Go.AM
def FzL(H:aA)(a b:List D1):Prop:=a.length=b.length/\ ∀(i:Nat) (x y:D1),a[i]?=some x->b[i]?=some y->Frz H (fun _=>True) x y
variable{H:aA}
theorem bDK:FzL H [] []:=⟨rfl,fun i x y h=>by simp at h⟩
theorem byR{x y:D1}{xs ys:List D1}(h:Frz H (fun _=>True) x y)(e:FzL H xs ys):FzL H (x::xs) (y::ys):=
 ⟨by simp[e.1],fun i a b c d=>by
  cases i with
  |zero=>simp at c d;subst c;subst d;exact h
  |succ i=>exact e.2 i a b (by simpa using c) (by simpa using d)⟩
theorem bFF{xs:List D1}(h:xs.all D1.dQ=true):FzL H xs xs:=⟨rfl,fun i a b c d=>by rw[c] at d;cases d;exact .same a (w2.1 h a (s3 c))⟩
theorem FzL.cvL{xs ys:List D1}{σ:Nat->Nat}{nh:Nat}(h:FzL H xs ys):CvL H (fun _=>True) σ nh xs ys:=⟨h.1,fun i x y a b=>.frz (h.2 i x y a b)⟩
abbrev bAT(α:Type):=aA->List D1->α->(Nat->Prop)->Prop
def rng(n:Nat)(f:Nat->List D1):List (List D1):=(List.range n).map f
variable{n:Nat}{f:Nat->List D1}
theorem byN:(rng n f).length=n:=by simp[rng]
theorem by6{i:Nat}(h:i<n):(rng n f)[i]?=some (f i):=by simp[rng,h]
def bB4(f:Nat->List D1)(i:Nat)(r:List D1):Nat->List D1:=fun j=>if j=i then r else f j
theorem byL{i:Nat}{r:List D1}:bB4 f i r i=r:=if_pos rfl
theorem bEM{i j:Nat}{r:List D1}(h:j≠i):bB4 f i r j=f j:=if_neg h
theorem byM{i:Nat}{r r':List D1}:bB4 (bB4 f i r) i r'=bB4 f i r':=by funext j;unfold bB4;split<;>rfl
theorem byT{i:Nat}{r:List D1}:(rng n f).set i r=rng n (bB4 f i r):=by
 refine bGR fun j=> ?_;rw[D0];by_cases b:j<n
 ·rw[by6 b,by6 b];by_cases a:i=j;·subst a;simp[byN,b,bB4]
  ·rw[if_neg a];simp[Ne.symm a,bB4]
 ·have e: ∀g,(rng n g)[j]?=none:=fun g=>by rw[Z3];rw[byN];omega
  rw[e,e];split;·rename_i h;subst h;simp[byN,b]
  ·rfl
theorem bFT{g:Nat->List D1}(h: ∀i,i<n->f i=g i):rng n f=rng n g:=by unfold rng;exact brC fun i hi=>h i (C2.1 hi)
structure aUO{α:Type}(RowP:bAT α)(H:aA)(n id m:Nat)(f:Nat->List D1)(G:Nat->Nat->Prop)(l:List α)(F:Nat->Prop):Prop where
 blk:H id=some ⟨n,m,rng l.length f⟩
 self:F id
 row: ∀i x,l[i]?=some x->RowP H (f i) x (G i)
 sub: ∀i j,i<l.length->G i j->F j/\j≠id
 sep: ∀i i' j,i<l.length->i'<l.length->i'≠i->G i j->¬G i' j
def SlS{α:Type}(n:Nat)(RowP:bAT α)(H:aA)(d:D1)(l:List α)(F:Nat->Prop):Prop:=(l=[]/\ ∃a id off,d= .osl a id off 0 0)\/ ∃id m cap,d= .osl n id 0 l.length cap/\0<cap/\l.length<=cap/\cap<=m/\ ∃f G,aUO RowP H n id m f G l F
def Frm{α:Type}(RowP:bAT α):Prop:=∀(H H':aA) (r:List D1) (x:α) (F:Nat->Prop),RowP H r x F->(∀j,F j->H' j=H j)->RowP H' r x F
def Fzb{α:Type}(n:Nat)(e:α->List D1)(RowP:bAT α):Prop:=∀(H:aA) (r:List D1) (x:α) (F:Nat->Prop),RowP H r x F->(e x).length=n/\FzL H (e x) r
section
variable{α:Type}{RowP:bAT α}{H H':aA}{n id m:Nat}{f:Nat -> List D1}{G:Nat -> Nat -> Prop}{l:List α}{F F':Nat -> Prop}{d:D1}
theorem aUO.frame(c:Frm RowP)(h:aUO RowP H n id m f G l F)(a: ∀j,F j->H' j=H j):aUO RowP H' n id m f G l F where
 blk:=(a id h.self).trans h.blk
 self:=h.self
 row i x b:=c _ _ _ _ _ (h.row i x b) fun j d=>a j (h.sub i j (m3.1 b).1 d).1
 sub:=h.sub
 sep:=h.sep
theorem SlS.frame(a:Frm RowP)(h:SlS n RowP H d l F)(b: ∀j,F j->H' j=H j):SlS n RowP H' d l F:=by exact h.imp (fun h=>h) fun⟨id,m,cap,e,c,g,i,f,G,k⟩=>⟨id,m,cap,e,c,g,i,f,G,k.frame a b⟩
theorem SlS.frz{e:α->List D1}(p:Fzb n e RowP)(h:SlS n RowP H d l F):Frz H (fun _=>True) (.isl (l.map e)) d:=by
 rcases h with⟨rfl,r,id,off,rfl⟩|⟨id,m,cap,rfl,s,b,c,f,G,k⟩
 ·exact .nil ..
 ·have hl:(l.map e).length=l.length:=bqW _;have a: ∀(i:Nat) (r':List D1),(l.map e)[i]?=some r'->i<l.length/\r'.length=n/\FzL H r' (f i):=fun i r' hr=>by rw[p0,m4] at hr;obtain⟨x,o,rfl⟩:=hr;exact⟨(m3.1 o).1,(p _ _ _ _ (k.row i x o)).1,(p _ _ _ _ (k.row i x o)).2⟩
  have key:=Frz.frz (H:=H) (F:=fun _=>True) (l.map e) n id 0 cap ⟨n,m,rng l.length f⟩ (fun i j=>((f i)[j]?).getD .dead) trivial k.blk rfl (by rw[hl];simp[byN]) (by rw[hl];exact b) (fun i r' hr=>(a i r' hr).2.1)
   (fun i j r' q b c=>by
    obtain⟨az9,az2,aAD⟩:=a i r' b
    refine⟨f i,by rw[Y4];exact by6 az9,?_⟩
    have g:j<(f i).length:=aAD.1▸(m3.1 c).1
    rw[n1 g];rfl)
   (fun i j r' q b c=>by
    obtain⟨az9,az2,aAD⟩:=a i r' b
    have g:j<(f i).length:=aAD.1▸(m3.1 c).1
    rw[n1 g]
    exact aAD.2 j q _ c (n1 g))
  rw[hl] at key;exact key
def byQ(e:α->List D1):bAT α:=fun _ r x _=>r=e x
theorem bp1{e:α->List D1}:Frm (byQ e):=fun _ _ _ _ _ h _=>h
theorem bEV{e:α->List D1}(h: ∀x,(e x).length=n/\(e x).all D1.dQ=true):Fzb n e (byQ e):=fun H r x F hr=>by unfold byQ at hr;subst hr;exact⟨(h x).1,bFF (h x).2⟩
theorem bE8{e:α->List D1}(b:H id=some ⟨n,m,l.map e⟩)(c:F id)(a:α):aUO (byQ e) H n id m (fun i=>e (l.getD i a)) (fun _ _=>False) l F where
 blk:=by
  rw[b];congr 2;refine bGR fun i=> ?_;by_cases hi:i<l.length;·rw[by6 hi,p0,n1 hi];simp[List.getD,n1 hi]
  ·rw[Z3 (by rw[bqW];omega),Z3 (by rw[byN];omega)]
 self:=c
 row i x d:=by unfold byQ;simp only[List.getD,d,Option.getD_some]
 sub i j _ h:=h.elim
 sep i f j _ _ _ h:=h.elim
end
def bAJ{α:Type}(sz:α->Nat):List α->Nat->Nat
 | [],_=>0
 |_::_,0=>0
 |x::l,i+1=>sz x+bAJ sz l i
def marks{α:Type}(sz:α->Nat)(mk:Int->α->α):Int->List α->List α
 |_,[]=>[]
 |k,x::l=>mk k x::marks sz mk (k+sz x) l
def total{α:Type}(sz:α->Nat)(l:List α):Nat:=bAJ sz l l.length
def mixed{α:Type}(sz:α->Nat)(mk:Int->α->α):Int->Nat->List α->List α
 |_,0,l=>l
 |_,_+1,[]=>[]
 |k,j+1,x::l=>mk k x::mixed sz mk (k+sz x) j l
section
variable{α:Type}{sz:α -> Nat}{mk:Int -> α -> α}
theorem bDZ: ∀{l:List α} {k:Int},(marks sz mk k l).length=l.length
 | [],_=>rfl
 |x::l,k=>by simp[marks,bDZ]
theorem bp2: ∀{l:List α} {k:Int} {j:Nat},(mixed sz mk k j l).length=l.length
 |_,_,0=>rfl
 | [],_,j+1=>rfl
 |x::l,k,j+1=>by simp[mixed,bp2]
theorem bA4: ∀{l:List α} {k:Int},mixed sz mk k l.length l=marks sz mk k l
 | [],_=>rfl
 |x::l,k=>by simp[mixed,marks,bA4]
theorem bzX: ∀{l:List α} {i:Nat} {x:α},l[i]?=some x->bAJ sz l (i+1)=bAJ sz l i+sz x
 | [],i,x,h=>by simp at h
 |y::l,0,x,h=>by simp at h;subst h;cases l<;>simp[bAJ]
 |y::l,i+1,x,h=>by simp only[List.getElem?_cons_succ] at h;simp only[bAJ];rw[bzX h];omega
theorem bzS: ∀{l:List α} {k:Int} {j:Nat} {x:α},l[j]?=some x->(mixed sz mk k j l)[j]?=some x
 | [],_,j,x,h=>by simp at h
 |y::l,k,0,x,h=>h
 |y::l,k,j+1,x,h=>by simp only[mixed,List.getElem?_cons_succ] at h ⊢;exact bzS h
theorem bAN: ∀{l:List α} {k:Int} {j:Nat} {x:α},l[j]?=some x->mixed sz mk k (j+1) l=(mixed sz mk k j l).set j (mk (k+bAJ sz l j) x)
 | [],_,j,x,h=>by simp at h
 |y::l,k,0,x,h=>by simp at h;subst h;simp[mixed,bAJ]
 |y::l,k,j+1,x,h=>by simp only[List.getElem?_cons_succ] at h;have e:=bAN (k:=k+sz y) h;simp only[mixed,List.set_cons_succ,bAJ] at e ⊢;rw[e];congr 3;push_cast;omega
theorem bEG[Inhabited α]: ∀{l:List α} {k:Int} {j:Nat} {x:α},l[j]?=some x->(marks sz mk k l).getD j default=mk (k+bAJ sz l j) x
 | [],_,j,x,h=>by simp at h
 |y::l,k,0,x,h=>by simp at h;subst h;simp[marks,bAJ,List.getD]
 |y::l,k,j+1,x,h=>by simp only[List.getElem?_cons_succ] at h;have e:=bEG (k:=k+sz y) h;simp only[marks,byG,bAJ] at e ⊢;rw[e];congr 1;push_cast;omega
theorem bE3: ∀{l:List α} {i:Nat},i<=l.length->bAJ sz l i<=total sz l
 | [],_,_=>by simp[bAJ]
 |x::l,0,_=>by simp[bAJ]
 |x::l,i+1,h=>by have:=bE3 (l:=l) (i:=i) (by simpa using h);unfold total at*;simp only[List.length_cons,bAJ];omega
theorem bBL{l:List α}{i:Nat}{x:α}(h:l[i]?=some x):bAJ sz l i+sz x<=total sz l:=by rw[<-bzX h];exact bE3 (by have:=(m3.1 h).1;omega)
theorem bER{l:List α}:bAJ sz l l.length=total sz l:=rfl
theorem bAM: ∀{l:List α},bAJ sz l 0=0
 | []=>rfl
 |_::_=>rfl
end
section
variable{α:Type}{RowP:bAT α}{H H':aA}{n id m len cap:Nat}{f:Nat -> List D1}{G:Nat -> Nat -> Prop}{l:List α}{F:Nat -> Prop}
theorem SlS.get{a off:Nat}(h:SlS n RowP H (.osl a id off len cap) l F){i:Nat}(hi:i<l.length):(a=n/\off=0)/\ ∃m f G,l.length<=cap/\cap<=m/\0<cap/\aUO RowP H n id m f G l F:=by
 rcases h with⟨rfl,_⟩|⟨c,m,b,e,d,g,j,f,G,k⟩
 ·simp at hi
 ·cases e;exact⟨⟨rfl,rfl⟩,m,f,G,g,j,d,k⟩
theorem SlS.put(a:0<cap)(b:l.length<=cap)(c:cap<=m)(hl:len=l.length)(h:aUO RowP H n id m f G l F):SlS n RowP H (.osl n id 0 len cap) l F:=
 .inr ⟨id,m,cap,by rw[hl],a,b,c,f,G,h⟩
theorem SlS.form{d:D1}(h:SlS n RowP H d l F): ∃a id off cap,d= .osl a id off l.length cap:=by
 rcases h with⟨rfl,a,id,off,rfl⟩|⟨id,m,cap,rfl,_⟩
 ·exact⟨a,id,off,0,rfl⟩
 ·exact⟨n,id,0,cap,rfl⟩
theorem aUO.upd(t:Frm RowP){i:Nat}{x p:α}{r':List D1}(h:aUO RowP H n id m f G l F)(u:l[i]?=some x)(v:H' id=some ⟨n,m,rng l.length (bB4 f i r')⟩)(hr:RowP H' r' p (G i))(w: ∀j,j≠id->F j->¬G i j->H' j=H j):
 aUO RowP H' n id m (bB4 f i r') G (l.set i p) F:=by
 have d:i<l.length:=(m3.1 u).1
 refine⟨by rw[Y5];exact v,h.self,fun j y c=> ?_,fun j e a=>h.sub j e (by rw[Y5] at a;exact a),fun j e g r s=>h.sep j e g (by rw[Y5] at r;exact r) (by rw[Y5] at s;exact s)⟩
 rw[D0] at c
 by_cases a:i=j
 ·subst a;rw[if_pos rfl,if_pos d] at c;cases c;rw[byL];exact hr
 ·rw[if_neg a] at c;have b:j<l.length:=(m3.1 c).1;rw[bEM (Ne.symm a)];exact t _ _ _ _ _ (h.row j y c) fun q k=>w q (h.sub j q b k).2 (h.sub j q b k).1 fun o=>h.sep i j q d b (Ne.symm a) o k
end
section
variable{α:Type}{RowP:bAT α}{H:aA}{n id len cap nh nx:Nat}{l:List α}{F:Nat -> Prop}{σ:Nat -> Nat}
theorem bBF{off:Nat}(h:id<nh\/(len=0/\cap=0)):Cv1 H F _root_.id nh (.osl n id off len cap) (.osl n id off len cap):=by
 rcases h with h|⟨rfl,rfl⟩
 ·exact an2 h rfl
 ·exact .VS ..
theorem bz5{a b:Int}(h:a=b):CvD H F σ nh (boP a) (boP b):=by rw[h];exact aE rfl
theorem SlS.bEI{a off:Nat}(h:SlS n RowP H (.osl a id off len cap) l F)(c: ∀j,F j->j<nx):id<nx\/(len=0/\cap=0):=by
 rcases h with⟨rfl,a,id,off,e⟩|⟨d,m,b,e,i,k,o,f,G,g⟩
 ·cases e;exact .inr ⟨rfl,rfl⟩
 ·cases e;exact .inl (c _ g.self)
theorem bFU{a b:Int}(h:a=b):some (boP a)=some (boP b):=by rw[h]
end
structure bD5{α:Type}(RowP:bAT α)(H:aA)(n id m:Nat)(Z:Nat->List D1)(f:Nat->List D1)(G:Nat->Nat->Prop)(l:List α)(u lo hi:Nat):Prop where
 blk:H id=some ⟨n,m,rng l.length f⟩
 row: ∀i x,i<u->l[i]?=some x->RowP H (f i) x (G i)
 zero: ∀i,u<=i->f i=Z i
 sub: ∀i j,i<u->G i j->(lo<=j/\j<hi)/\j≠id
 sep: ∀i i' j,i<u->i'<u->i'≠i->G i j->¬G i' j
section
variable{α:Type}{RowP:bAT α}{H H':aA}{n id m:Nat}{Z:Nat -> List D1}{f:Nat -> List D1}{G:Nat -> Nat -> Prop}{l:List α}{u lo hi hi':Nat}
theorem bC6{k:Nat}{z:List D1}:rng k (fun _=>z)=List.replicate k z:=by
 refine bGR fun i=> ?_;by_cases hi:i<k;·rw[by6 hi,boJ,if_pos hi]
 ·rw[Z3 (by rw[byN];omega),Z3 (by rw[bx0];omega)]
theorem bFM[Inhabited α]{e:α->List D1}:rng l.length (fun i=>e (l.getD i default))=l.map e:=by
 refine bGR fun i=> ?_;by_cases hi:i<l.length;·rw[by6 hi,p0,n1 hi];simp[List.getD,n1 hi]
 ·rw[Z3 (by rw[byN];omega),Z3 (by rw[bqW];omega)]
theorem bBK(h:H id=some ⟨n,m,rng l.length Z⟩):bD5 RowP H n id m Z Z (fun _ _=>False) l 0 lo hi:=⟨h,fun i x hi=>by omega,fun _ _=>rfl,fun i j hi=>by omega,fun i a j hi=>by omega⟩
theorem bD5.step(g:Frm RowP)(h:bD5 RowP H n id m Z f G l u lo hi){x:α}{r:List D1}{G':Nat->Prop}(k:l[u]?=some x)(o:H' id=some ⟨n,m,rng l.length (bB4 f u r)⟩)(hr:RowP H' r x G')(bqK: ∀j,G' j->hi<=j/\j<hi')(p:id<hi)(q:lo<=hi)(v:hi<=hi')(s: ∀j,j<hi->j≠id->H' j=H j):
 bD5 RowP H' n id m Z (bB4 f u r) (fun i=>if i=u then G' else G i) l (u+1) lo hi':=by
 refine⟨o,fun i y hi e=> ?_,fun i hi=>by rw[bEM (by omega)];exact h.zero i (by omega),fun i j hi c=> ?_,fun i d j w z t k9 l1=> ?_⟩
 ·by_cases a:i=u;·subst a;rw[k] at e;cases e;rw[byL];simp only[if_true];exact hr
  ·rw[bEM a];simp only[if_neg a];exact g _ _ _ _ _ (h.row i y (by omega) e) fun j c=>s j (h.sub i j (by omega) c).1.2 (h.sub i j (by omega) c).2
 ·by_cases a:i=u;·simp only[if_pos a] at c;have:=bqK j c;exact⟨⟨by omega,by omega⟩,by omega⟩
  ·simp only[if_neg a] at c;have:=h.sub i j (by omega) c;exact⟨⟨by omega,by omega⟩,this.2⟩
 ·by_cases a:i=u
  ·simp only[if_pos a] at k9;by_cases b:d=u;·omega
   ·simp only[if_neg b] at l1;have az9:=bqK j k9;have az2:=h.sub d j (by omega) l1;omega
  ·simp only[if_neg a] at k9;by_cases b:d=u;·simp only[if_pos b] at l1;have az9:=bqK j l1;have az2:=h.sub i j (by omega) k9;omega
   ·simp only[if_neg b] at l1;exact h.sep i d j (by omega) (by omega) t k9 l1
theorem bD5.done{cap:Nat}(h:bD5 RowP H n id m Z f G l l.length lo hi)(d:lo<=id)(e:id<hi)(hc:l.length<=cap)(hm:cap<=m)(g:l=[]->cap=0):SlS n RowP H (.osl n id 0 l.length cap) l fun j=>lo<=j/\j<hi:=by
 by_cases hl:l=[]
 ·refine .inl ⟨hl,n,id,0,?_⟩;rw[g hl,hl];rfl
 ·have hp:0<l.length:=bGS.2 hl;refine .inr ⟨id,m,cap,rfl,by omega,hc,hm,f,G,h.blk,⟨d,e⟩,fun i x c=>h.row i x (m3.1 c).1 c,fun i j hi k=>h.sub i j hi k,fun i o j a b=>h.sep i o j a b⟩
end
def Fre{α:Type}(RowP:bAT α):Prop:=∀(H:aA) (r:List D1) (x:α) (F:Nat->Prop),RowP H r x F->r.all D1.free=true/\ ∃bp6:Nat->Prop,(∀j,bp6 j->F j)/\RowP H r x bp6/\ ∀j o,bp6 j->H j=some o->∀row∈o.rows,∀d∈row,d.free=true
section
variable{α:Type}{RowP:bAT α}{H:aA}{n:Nat}{l:List α}{F:Nat -> Prop}{d:D1}
theorem bFB{e:α->List D1}(h: ∀x,(e x).all D1.free=true):Fre (byQ e):=fun H r x F hr=>by unfold byQ at hr;subst hr;exact⟨h x,fun _=>False,fun j h=>h.elim,rfl,fun j o h=>h.elim⟩
theorem SlS.fre(w:Fre RowP)(h:SlS n RowP H d l F):d.free=true/\ ∃bp6:Nat->Prop,(∀j,bp6 j->F j)/\SlS n RowP H d l bp6/\ ∀j o,bp6 j->H j=some o->∀row∈o.rows,∀d∈row,d.free=true:=by
 rcases h with⟨rfl,z,id,off,rfl⟩|⟨id,m,cap,rfl,A,B,C,f,G,boT⟩
 ·exact⟨rfl,fun _=>False,fun j h=>h.elim,.inl ⟨rfl,z,id,off,rfl⟩,fun j o h=>h.elim⟩
 ·refine⟨rfl,?_⟩
  have r: ∀i:Nat,∃bqO:Nat->Prop,∀x,l[i]?=some x->(f i).all D1.free=true/\(∀j,bqO j->G i j)/\RowP H (f i) x bqO/\ ∀j o,bqO j->H j=some o->∀row∈o.rows,∀d∈row,d.free=true:=fun i=>by
   cases k:l[i]? with
   |none=>exact⟨fun _=>False,fun x h=>by cases h⟩
   |some x=>obtain⟨az9,bp6,az2,aAD,aAE⟩:=w _ _ _ _ (boT.row i x k);exact⟨bp6,fun y D=>by cases D;exact⟨az9,az2,aAD,aAE⟩⟩
  obtain⟨bqO,p⟩:=Classical.axiomOfChoice r;have q: ∀i,i<l.length->∃x,l[i]?=some x:=fun i hi=>⟨_,n1 hi⟩
  have e: ∀i j,i<l.length->bqO i j->G i j:=fun i j hi g=>by obtain⟨x,k⟩:=q i hi;exact(p i x k).2.1 j g
  refine⟨fun j=>j=id\/ ∃i,i<l.length/\bqO i j,?_,.inr ⟨id,m,cap,rfl,A,B,C,f,bqO,boT.blk,.inl rfl,fun i x k=>(p i x k).2.2.1,fun i j hi g=>⟨.inr ⟨i,hi,g⟩,(boT.sub i j hi (e i j hi g)).2⟩,fun i u j a b c g s=>boT.sep i u j a b c (e i j a g) (e u j b s)⟩,?_⟩
  ·rintro j (rfl|⟨i,hi,g⟩);·exact boT.self
   ·exact(boT.sub i j hi (e i j hi g)).1
  ·rintro j o (rfl|⟨i,hi,g⟩) t row hr d v;·rw[boT.blk] at t;cases t;unfold rng at hr;obtain⟨i,hi,rfl⟩:=CF.1 hr;obtain⟨x,k⟩:=q i (C2.1 hi);exact w2.1 (p i x k).1 d v
   ·obtain⟨x,k⟩:=q i hi;exact(p i x k).2.2.2 j o g t row hr d v
end
def Cvs{α:Type}(RowP:bAT α):Prop:=∀(H:aA) (r:List D1) (x:α) (F:Nat->Prop) (nh:Nat) (F':Nat->Prop),RowP H r x F->(∀j,F j->j<nh)->CvL H F' _root_.id nh r r
theorem SlS.cv{α:Type}{RowP:bAT α}{nh:Nat}{d:D1}{l:List α}{F F':Nat->Prop}(h:SlS n RowP H d l F)(a: ∀j,F j->j<nh):Cv1 H F' _root_.id nh d d:=by
 rcases h with⟨rfl,c,id,off,rfl⟩|⟨id,m,cap,rfl,e,g,i,f,G,b⟩
 ·exact .VS ..
 ·exact an2 (a _ b.self) rfl
theorem bBC{e:Env}{t id m:Nat}{cs:List D1}(he:e t= .one (.c (.ptr n id 0 0)))(a:H id=some ⟨n,m,[cs]⟩)(hl:cs.length=n):yT H e [.cell t n true]=some (boR cs):=by subst hl;simp[yT,VP,he,tT,a,mkV]
end Go.AM
namespace Go.Proofs.YtlncecohbakleaaGreat
open Go Go.AM
def z5:AC:= (boG [dO 6 boD] [0,1,2] (boG [RM 7 1,dI 8 .eql 7 (ki 1),RM 9 8,hG 10 1 9 false,hO 11 .eql 10 (ki 2) 9 false,f3 12 9 boE 11,RM 13 12,hG 14 1 13 false,hO 15 .eql 14 (ki 4) 13 false,f3 16 13 boE 15,RM 17 16,hG 18 0 17 true,GQ 19 (.call cQ [18,(ki 0),(ki 63)]) 17 true,f3 20 17 19 boD,RM 21 20,hG 22 2 21 true,hG 23 22 21 true,hG 24 0 23 false,hG 25 1 23 false,hO 26 .add 24 25 23 false,hO 27 .sub 26 (ki 1) 23 false,hO 28 .leq 27 (ki 63) 23 false,GQ 29 (.pick 23 boE 28) 21 true,f3 30 21 29 boD,RM 6 30] [6] .ret))
def IN:List aW:=[.tm 6]
theorem VH:aO bNV Tryz.f104 (bnD z5)=some (z5,IN):=by kernel_rfl
def JX:AC:= (boG [dO 6 boD] [0,1,2] (boG [RM 7 0,RM 8 1,dI 9 .geq 7 8,RM 10 9,hG 11 0 10 true,hG 12 2 10 true,hO 13 .leq 11 12 10 true,f3 14 10 13 boD,RM 6 14] [6] .ret))
def SP:List aW:=[.tm 6]
theorem acJ:aO bNV Tryz.f112 (bnD JX)=some (JX,SP):=by kernel_rfl
def kD:AC:= (boG [f5 1 0,f7 2 [OZ,OZ,OZ,OZ,OZ,OZ]] [1,2] (.seq (.region [RF 3 0 1 0,f8 4 2 3 1,RF 6 2 1 3,g8 7 6 [] [] true 4,RF 9 3 1 6,g8 10 9 [] [] true 7,RF 12 4 1 9,g8 13 12 [] [] true 10,RF 15 5 1 12,g8 16 15 [] [] true 13,boF 5 (.call fL [4]) [] [4,7,10,13] false 2,boF 8 (.call eX [7]) [] [7,10,13] false 5,boF 11 (.call eO [10]) [] [10,13] false 8,boF 14 (.call eO [13]) [] [13] false 11,f6 17 eO [16] 14,rq 18 (.build [OZ,OZ,OZ,OZ,OZ,OZ] [(0,2,5),(2,1,8),(3,1,11),(4,1,14),(5,1,17)]) 15,g0 6 true 2 18 16] 17 [2]) .ret))
def pT:List aW:=[.cell 2 6 true]
theorem A3:aO bNV Tryz.f132 (bnD kD)=some (kD,pT):=by kernel_rfl
def nP:AC:= (boG [f5 2 0,f5 3 1,dO 4 (ki 0)] [2,3] (.seq (.region [RF 5 0 2 0,RL 6 5 1,RF 7 0 3 2,RL 8 7 3,RF 10 1 2 5,g8 11 10 [10] [] true 6,RF 12 1 3 7,g8 13 12 [10] [] true 8,boF 9 (.call jC [6,8]) [] [6,8] false 4,f6 14 jC [11,13] 9,rq 15 (.bC 1 2 [VZ] [(0,1,9),(1,1,14)]) 10,f6 16 wC [15] 11,RM 4 16 12] 13 [4]) .ret))
def vV:List aW:=[.tm 4]
theorem HE:aO bNV Tryz.f136 (bnD nP)=some (nP,vV):=by kernel_rfl
def kI:AC:= (boG [f5 1 0,f7 2 [OZ,OZ]] [1,2] (.seq (.region [RF 3 0 1 0,RF 4 0 3 1,RL 5 4 2,RF 8 1 1 5,g8 9 8 [] [] true 6,boF 6 (.call eX [5]) [] [6] false 3,rq 7 (.build [OZ] [(0,1,6)]) 4,f6 10 eX [9] 7,rq 11 (.build [OZ,OZ] [(0,1,7),(1,1,10)]) 8,g0 2 true 2 11 9] 10 [2]) .ret))
def pS:List aW:=[.cell 2 2 true]
theorem BE:aO bNV Tryz.f181 (bnD kI)=some (kI,pS):=by kernel_rfl
def tD:AC:= (boG [dO 2 (.kv (.slice none 0 0))] [0] (boG [RM 6 0,f6 7 gG [6],RM 3 7] [3] (.seq (boG [RM 8 3,f1 9 8,dO 10 (ki 0)] [3,8,9,10] (.block 0 (.loop (boG [dI 11 .lss 10 9] [3,8,9,10,11] (.seq (.cond 11 .skip (.exit 0)) (.seq (.block 1 (boG [RM 12 10,e0 13 5 8 10,f8 14 5 13,f7 5 [VZ,VZ,VZ,VZ,OZ],RM 4 12,g0 5 true 5 14] [3,4,5,8,9,10] (m2 [RM 15 3,RM 16 4,RF 17 2 5,RF 18 2 17,RL 19 18,f6 20 eX [19],e0 21 5 15 16,RF 22 2 21,RF 23 2 22,g0 1 false 23 20] [3,8,9,10]))) (m2 [dI 24 .add 10 (ki 1),RM 10 24] [3,8,9,10]))))))) (boG [RM 25 3,RM 2 25] [2] .ret))))
def BL:List aW:=[.tm 2]
theorem MI:aO bNV Tryz.f184 (bnD tD)=some (tD,BL):=by kernel_rfl
def rI:AC:= (boG [dO 2 (.kv (.slice none 0 0))] [0] (boG [RM 3 0,f6 4 gO [3],f6 5 iD [4],RM 2 5] [2] .ret))
def zA:List aW:=[.tm 2]
theorem KH:aO bNV Tryz.f185 (bnD rI)=some (rI,zA):=by kernel_rfl
def aJH:AC:= (boG [f5 1 0,f7 2 [OZ,OZ]] [1,2] (.seq (.region [RF 3 0 1 0,boF 4 (.load 1 true 3) [3] [] false 1,rq 6 (.bC 1 0 [VZ] []) 3,RF 7 1 1 4,g8 8 7 [3] [] true 5,boF 5 (.call aIW [4]) [3] [5] false 2,rq 9 (.append 1 6 8) 6,rq 10 (.build [OZ,OZ] [(0,1,5),(1,1,9)]) 7,g0 2 true 2 10 8] 9 [2]) .ret))
def aJ4:List aW:=[.cell 2 2 true]
theorem aLG:aO bNV Tryz.f192 (bnD aJH)=some (aJH,aJ4):=by kernel_rfl
def aJF:AC:= (boG [dO 2 (.kv (.slice none 0 0))] [0] (boG [rq 5 (.bC 5 0 [VZ,VZ,VZ,VZ,OZ] []),RM 3 5] [0,3] (.seq (boG [dO 4 (ki 0)] [0,3,4] (.block 0 (.loop (.seq (boG [RM 6 4,RM 7 0,f1 8 7,dI 9 .lss 6 8] [0,3,4,9] (.cond 9 .skip (.exit 0))) (.seq (.block 1 (m2 [RM 12 3,RM 13 0,RM 14 4,e0 15 5 13 14,RF 16 0 15,g8 17 16 [18] [] true,RM 18 0,RM 19 4,e0 20 5 18 19,RF 21 1 20,g8 22 21 [18] [] true,RM 23 0,RM 24 4,e0 25 5 23 24,RF 26 2 25,f8 27 3 26,boF 28 (.call aI8 [27]) [] [5,10] false,rq 29 (.build [VZ,VZ,VZ,VZ,OZ] [(0,1,17),(1,1,22),(2,3,28)]),rq 30 (.bC 5 1 [VZ,VZ,VZ,VZ,OZ] [(0,5,29)]),rq 31 (.append 5 12 30),RM 3 31] [0,3,4])) (m2 [RM 10 4,dI 11 .add 10 (ki 1),RM 4 11] [0,3,4])))))) (boG [RM 32 3,RM 2 32] [2] .ret))))
def aJZ:List aW:=[.tm 2]
theorem aLH:aO bNV Tryz.f193 (bnD aJF)=some (aJF,aJZ):=by kernel_rfl
def z4:AC:= (boG [f5 1 0,dO 2 boD] [1] (boG [RF 3 0 1,RL 4 3,f6 5 wR [4],RM 6 5,g9 7 1 1 6 true,hD 8 7 6 true,GQ 9 (.len false 8) 6 true,hO 10 .eql 9 (ki 4) 6 true,f3 11 6 10 boD,RM 12 11,g9 13 1 1 12 true,hD 14 13 12 true,GQ 15 (.call bN [14,(.fn qK)]) 12 true,hP 16 15 12 true,f3 17 12 16 boD,RM 18 17,g9 19 2 1 18 true,hD 20 19 18 true,GQ 21 (.len false 20) 18 true,hO 22 .eql 21 (ki 3) 18 true,f3 23 18 22 boD,RM 24 23,g9 25 2 1 24 true,hD 26 25 24 true,GQ 27 (.call cF [26,(.fn rR)]) 24 true,hP 28 27 24 true,f3 29 24 28 boD,RM 2 29] [2] .ret))
def H7:List aW:=[.tm 2]
theorem T6:aO bNV Tryz.f194 (bnD z4)=some (z4,H7):=by kernel_rfl
def z3:AC:= (boG [f5 1 0,dO 2 boD] [1] (boG [RF 3 0 1,f8 4 1 3,f6 5 wP [4],RM 6 5,g9 7 1 1 6 true,hD 8 7 6 true,GQ 9 (.len false 8) 6 true,hO 10 .eql 9 (ki 6) 6 true,f3 11 6 10 boD,RM 12 11,g9 13 1 1 12 true,hD 14 13 12 true,GQ 15 (.call bN [14,(.fn rC)]) 12 true,hP 16 15 12 true,f3 17 12 16 boD,RM 2 17] [2] .ret))
def H9:List aW:=[.tm 2]
theorem U4:aO bNV Tryz.f195 (bnD z3)=some (z3,H9):=by kernel_rfl
def mC:AC:= (boG [f5 2 0,f5 3 1,dO 4 boD] [2,3] (.seq (boG [RF 13 0 3,f8 14 2 13,f6 15 rG [14],f4 16 15,RM 17 16,g9 18 2 3 17 false,hD 19 18 17 false,GQ 20 (.len false 19) 17 false,hO 21 .neq 20 (ki 3) 17 false,f3 22 17 boE 21,RM 23 22,g9 24 3 3 23 false,hD 25 24 23 false,GQ 26 (.call oI [25]) 23 false,hP 27 26 23 false,f3 28 23 boE 27,RM 29 28,g9 30 4 3 29 false,hD 31 30 29 false,GQ 32 (.call oI [31]) 29 false,hP 33 32 29 false,f3 34 29 boE 33] [2,3,34] (.cond 34 (boG [dO 4 boD] [4] .ret) .skip)) (boG [dO 5 (ki 0)] [2,3,5] (.seq (boG [RF 35 2 3,RL 36 35,f1 37 36,dO 38 (ki 0)] [2,3,5,36,37,38] (.block 0 (.loop (boG [dI 39 .lss 38 37] [2,3,5,36,37,38,39] (.seq (.cond 39 .skip (.exit 0)) (.seq (.block 1 (boG [RM 40 38,e0 41 1 36 38,RL 42 41,RM 6 40,RM 7 42] [2,3,5,6,7,36,37,38] (.seq (boG [RM 43 7,RF 44 2 2,RL 45 44,RM 46 6,e0 47 1 45 46,RL 48 47,f1 49 48,f6 50 cQ [43,(ki 0),49],f4 51 50] [2,3,5,7,36,37,38,51] (.cond 51 (boG [dO 4 boD] [4] .ret) .skip)) (m2 [RM 52 5,RM 53 7,dI 54 .add 52 53,RM 5 54] [2,3,5,36,37,38])))) (m2 [dI 55 .add 38 (ki 1),RM 38 55] [2,3,5,36,37,38]))))))) (boG [rq 56 (.xop (.DS 2 true) []),RM 8 56] [2,3,5,8] (.seq (boG [RF 57 3 3,RL 58 57,RF 59 4 3,RL 60 59,RF 61 5 3,RL 62 61,rq 63 (.bC 1 3 [OZ] [(0,1,58),(1,1,60),(2,1,62)]),f1 64 63,dO 65 (ki 0)] [2,3,5,8,63,64,65] (.block 2 (.loop (boG [dI 66 .lss 65 64] [2,3,5,8,63,64,65,66] (.seq (.cond 66 .skip (.exit 2)) (.seq (.block 3 (boG [RM 67 65,e0 68 1 63 65,RL 69 68,RM 9 67,RM 10 69] [2,3,5,8,9,10,63,64,65] (boG [RM 70 10,f1 71 70,dO 72 (ki 0)] [2,3,5,8,9,63,64,65,70,71,72] (.block 4 (.loop (boG [dI 73 .lss 72 71] [2,3,5,8,9,63,64,65,70,71,72,73] (.seq (.cond 73 .skip (.exit 4)) (.seq (.block 5 (boG [e0 74 5 70 72,f8 75 5 74,f7 12 [VZ,VZ,VZ,VZ,OZ],g0 5 true 12 75] [2,3,5,8,9,12,63,64,65,70,71,72] (.seq (boG [RF 76 0 12,RL 77 76,f6 78 jA [77],f4 79 78,RM 80 79,g9 81 1 12 80 false,hD 82 81 80 false,g9 83 2 3 80 false,hD 84 83 80 false,g9 85 0 12 80 false,hD 86 85 80 false,j0 87 1 84 86 80 false,hD 88 87 80 false,hO 89 .sub 88 (ki 1) 80 false,GQ 90 (.call cQ [82,(ki 0),89]) 80 false,hP 91 90 80 false,f3 92 80 boE 91,RM 93 92,hG 94 8 93 false,g9 95 0 12 93 false,hD 96 95 93 false,g9 97 1 12 93 false,hD 98 97 93 false,GQ 99 (.build [VZ,VZ] [(0,1,96),(1,1,98)]) 93 false,GQ 100 (.xop (.rA 2 true false) [94,99]) 93 false,f3 101 93 boE 100] [2,3,5,8,9,12,63,64,65,70,71,72,101] (.cond 101 (boG [dO 4 boD] [4] .ret) .skip)) (boG [RM 102 8,RF 103 0 12,RL 104 103,RF 105 1 12,RL 106 105,rq 107 (.build [VZ,VZ] [(0,1,104),(1,1,106)]),rn (.xop (.vM 2 true) [102,107,boE])] [2,3,5,8,9,12,63,64,65,70,71,72] (boG [RM 108 9,dI 109 .eql 108 (ki 0),RM 110 109,g9 111 2 12 110 true,GQ 112 (.load 3 true 111) 110 true,GQ 113 (.call iT [112]) 110 true,hP 114 113 110 true,f3 115 110 114 boD,RM 116 115,hG 117 9 116 false,hO 118 .gtr 117 (ki 0) 116 false,hG 119 118 116 false,g9 120 2 12 119 true,GQ 121 (.load 3 true 120) 119 true,GQ 122 (.call m6 [121]) 119 true,hP 123 122 119 true,hG 124 123 119 true,g9 125 2 12 124 false,g9 126 0 125 124 false,dA (some 127) (.load 1 false 126) (some (124,false)) [] [] true,GQ 128 (.load 3 true 2) 124 false,g9 129 0 12 124 false,hD 130 129 124 false,g9 131 1 12 124 false,hD 132 131 124 false,dA (some 133) (.call fB [128,130,132]) (some (124,false)) [] [19] false,hO 134 .neq 127 133 124 false,GQ 135 (.pick 124 boE 134) 119 true,GQ 136 (.pick 119 135 boD) 116 false,f3 137 116 boE 136] [2,3,5,8,9,63,64,65,70,71,72,137] (.cond 137 (boG [dO 4 boD] [4] .ret) .skip)))))) (m2 [dI 138 .add 72 (ki 1),RM 72 138] [2,3,5,8,9,63,64,65,70,71,72]))))))))) (m2 [dI 139 .add 65 (ki 1),RM 65 139] [2,3,5,8,63,64,65]))))))) (boG [RM 140 8,rq 141 (.xop .sS [140]),RM 142 5,dI 143 .eql 141 142,RM 4 143] [4] .ret)))))))
def uT:List aW:=[.tm 4]
theorem FR:aO bNV Tryz.f198 (bnD mC)=some (mC,uT):=by kernel_rfl
def yF:AC:= (boG [f5 1 0,f7 2 [OZ,OZ,OZ,OZ,OZ,OZ]] [1,2] (boG [RF 12 0 1,f8 13 2 12,RF 14 4 1,RL 15 14,rq 16 (.build [OZ,OZ,OZ,OZ,OZ,OZ] [(0,2,13),(5,1,15)]),f7 3 [OZ,OZ,OZ,OZ,OZ,OZ],g0 6 true 3 16] [1,2,3] (.seq (boG [RF 17 2 1,RL 18 17,f1 19 18,dO 20 (ki 0)] [1,2,3,18,19,20] (.block 0 (.loop (boG [dI 21 .lss 20 19] [1,2,3,18,19,20,21] (.seq (.cond 21 .skip (.exit 0)) (.seq (.block 1 (boG [RM 22 20,e0 23 4 18 20,f8 24 4 23,f7 5 [VZ,OZ,OZ,VZ],RM 4 22,g0 4 true 5 24] [1,2,3,4,5,18,19,20] (boG [RF 25 2 3,RL 26 25,RF 27 0 5,RL 28 27,rq 29 (.bC 1 1 [VZ] [(0,1,28)]),rq 30 (.append 1 26 29),RF 31 2 3,g0 1 false 31 30] [1,2,3,4,5,18,19,20] (boG [RF 32 1 5,RL 33 32,f1 34 33,dO 35 (ki 0)] [1,2,3,4,18,19,20,33,34,35] (.block 2 (.loop (boG [dI 36 .lss 35 34] [1,2,3,4,18,19,20,33,34,35,36] (.seq (.cond 36 .skip (.exit 2)) (.seq (.block 3 (boG [e0 37 1 33 35,RL 38 37,RM 7 38] [1,2,3,4,7,18,19,20,33,34,35] (m2 [RF 39 3 3,RL 40 39,RM 41 4,RM 42 7,rq 43 (.build [VZ,VZ,VZ,VZ,OZ] [(0,1,41),(1,1,42)]),rq 44 (.bC 5 1 [VZ,VZ,VZ,VZ,OZ] [(0,5,43)]),rq 45 (.append 5 40 44),RF 46 3 3,g0 1 false 46 45] [1,2,3,4,18,19,20,33,34,35]))) (m2 [dI 47 .add 35 (ki 1),RM 35 47] [1,2,3,4,18,19,20,33,34,35])))))))))) (m2 [dI 48 .add 20 (ki 1),RM 20 48] [1,2,3,18,19,20]))))))) (.seq (boG [RF 49 3 1,RL 50 49,f1 51 50,dO 52 (ki 0)] [2,3,50,51,52] (.block 4 (.loop (boG [dI 53 .lss 52 51] [2,3,50,51,52,53] (.seq (.cond 53 .skip (.exit 4)) (.seq (.block 5 (boG [e0 54 3 50 52,f8 55 3 54,f7 9 [OZ,OZ,VZ],g0 3 true 9 55] [2,3,9,50,51,52] (.seq (boG [RF 56 0 9,RL 57 56,f1 58 57,dO 59 (ki 0)] [2,3,9,50,51,52,57,58,59] (.block 6 (.loop (boG [dI 60 .lss 59 58] [2,3,9,50,51,52,57,58,59,60] (.seq (.cond 60 .skip (.exit 6)) (.seq (.block 7 (boG [e0 61 3 57 59,f8 62 3 61,f7 11 [VZ,VZ,VZ],g0 3 true 11 62] [2,3,9,11,50,51,52,57,58,59] (m2 [RF 63 3 3,RL 64 63,RF 65 0 11,RL 66 65,RF 67 1 11,RL 68 67,rq 69 (.build [VZ,VZ,VZ,VZ,OZ] [(0,1,66),(1,1,68)]),rq 70 (.bC 5 1 [VZ,VZ,VZ,VZ,OZ] [(0,5,69)]),rq 71 (.append 5 64 70),RF 72 3 3,g0 1 false 72 71] [2,3,9,50,51,52,57,58,59]))) (m2 [dI 73 .add 59 (ki 1),RM 59 73] [2,3,9,50,51,52,57,58,59]))))))) (m2 [RF 74 4 3,RL 75 74,RF 76 1 9,RL 77 76,rq 78 (.append 5 75 77),RF 79 4 3,g0 1 false 79 78] [2,3,50,51,52])))) (m2 [dI 80 .add 52 (ki 1),RM 52 80] [2,3,50,51,52]))))))) (boG [RF 81 3 3,RL 82 81,f6 83 cG [82,(.fn bJ)]] [2,3] (boG [RF 84 4 3,RL 85 84,f6 86 cG [85,(.fn bJ)]] [2,3] (boG [f8 87 6 3,f6 88 iG [87],g0 6 true 2 88] [2] .ret)))))))
def GJ:List aW:=[.cell 2 6 true]
theorem RY:aO bNV Tryz.f51 (bnD yF)=some (yF,GJ):=by kernel_rfl
def B6:AC:= (boG [f5 3 0,f5 4 1,dO 6 boD] [2,3,4] (boG [f8 7 3 3,f8 8 5 4,f6 9 mW [7,8],RM 10 9,hG 11 2 10 true,GQ 12 (.len false 11) 10 true,hO 13 .leq 12 (ki 300) 10 true,f3 14 10 13 boD,RM 15 14,hG 16 2 15 true,GQ 17 (.call cW [16,(.fn tQ)]) 15 true,hP 18 17 15 true,f3 19 15 18 boD,RM 6 19] [6] .ret))
def LR:List aW:=[.tm 6]
theorem X5:aO bNV Tryz.f81 (bnD B6)=some (B6,LR):=by kernel_rfl
theorem XF:aN bNV zH Tryz.f81 B6 LR:=aN.mk Tryz.func81 (by kernel_rfl) X5
def AN:AC:= (boG [f5 2 0,f5 3 1,dO 4 boD] [2,3] (.seq (boG [f8 11 3 2,f6 12 wF [11],f4 13 12,RM 14 13,g9 15 0 3 14 false,GQ 16 (.load 2 true 15) 14 false,GQ 17 (.call rG [16]) 14 false,hP 18 17 14 false,f3 19 14 boE 18,RM 20 19,g9 21 2 3 20 false,hD 22 21 20 false,GQ 23 (.len false 22) 20 false,hO 24 .neq 23 (ki 3) 20 false,f3 25 20 boE 24,RM 26 25,g9 27 3 3 26 false,hD 28 27 26 false,GQ 29 (.len false 28) 26 false,hO 30 .neq 29 (ki 4) 26 false,f3 31 26 boE 30] [2,3,31] (.cond 31 (boG [dO 4 boD] [4] .ret) .skip)) (boG [dO 5 (ki 0),dO 6 (ki 0)] [2,3,5,6] (.seq (boG [RF 32 2 3,RL 33 32,f1 34 33,dO 35 (ki 0)] [2,3,5,6,33,34,35] (.block 0 (.loop (boG [dI 36 .lss 35 34] [2,3,5,6,33,34,35,36] (.seq (.cond 36 .skip (.exit 0)) (.seq (.block 1 (boG [RM 37 35,e0 38 4 33 35,f8 39 4 38,f7 8 [VZ,OZ,OZ,VZ],RM 7 37,g0 4 true 8 39] [2,3,5,6,7,8,33,34,35] (.seq (boG [f8 40 3 2,RM 41 7,f8 42 4 8,f6 43 jK [40,41,42],f4 44 43] [2,3,5,6,8,33,34,35,44] (.cond 44 (boG [dO 4 boD] [4] .ret) .skip)) (m2 [RM 45 5,RF 46 2 8,RL 47 46,f1 48 47,dI 49 .add 45 48,RM 5 49] [2,3,5,6,33,34,35])))) (m2 [dI 50 .add 35 (ki 1),RM 35 50] [2,3,5,6,33,34,35]))))))) (.seq (boG [RF 51 3 3,RL 52 51,f1 53 52,dO 54 (ki 0)] [2,3,5,6,52,53,54] (.block 2 (.loop (boG [dI 55 .lss 54 53] [2,3,5,6,52,53,54,55] (.seq (.cond 55 .skip (.exit 2)) (.seq (.block 3 (boG [RM 56 54,e0 57 3 52 54,f8 58 3 57,f7 10 [OZ,OZ,VZ],RM 9 56,g0 3 true 10 58] [2,3,5,6,9,10,52,53,54] (.seq (boG [f8 59 3 2,f8 60 5 3,RM 61 9,f6 62 iX [59,60,61],f4 63 62] [2,3,5,6,10,52,53,54,63] (.cond 63 (boG [dO 4 boD] [4] .ret) .skip)) (m2 [RM 64 6,RF 65 0 10,RL 66 65,f1 67 66,RF 68 1 10,RL 69 68,f1 70 69,dI 71 .add 67 70,dI 72 .add 64 71,RM 6 72] [2,3,5,6,52,53,54])))) (m2 [dI 73 .add 54 (ki 1),RM 54 73] [2,3,5,6,52,53,54]))))))) (boG [RM 74 5,RM 75 6,dI 76 .eql 74 75,RM 77 76,dA (some 78) (.load 3 true 2) (some (77,true)) [] [] true,GQ 79 (.load 5 true 3) 77 true,dA (some 80) (.call zX [79]) (some (77,true)) [] [4] false,GQ 81 (.call j9 [78,80]) 77 true,f3 82 77 81 boD,RM 4 82] [4] .ret))))))
def IC:List aW:=[.tm 4]
theorem UM:aO bNV Tryz.f105 (bnD AN)=some (AN,IC):=by kernel_rfl
def CT:AC:= (boG [f5 1 0,dO 2 boD] [1] (boG [RF 3 0 1,RL 4 3,f1 5 4,dI 6 .eql 5 (ki 3),RM 7 6,g9 8 1 1 7 true,hD 9 8 7 true,GQ 10 (.len false 9) 7 true,hO 11 .eql 10 (ki 4) 7 true,f3 12 7 11 boD,RM 13 12,g9 14 2 1 13 true,hD 15 14 13 true,GQ 16 (.len false 15) 13 true,hO 17 .eql 16 (ki 3) 13 true,f3 18 13 17 boD,RM 2 18] [2] .ret))
def LU:List aW:=[.tm 2]
theorem XQ:aO bNV Tryz.f106 (bnD CT)=some (CT,LU):=by kernel_rfl
theorem XL:aN bNV uJ Tryz.f106 CT LU:=aN.mk Tryz.func106 (by kernel_rfl) XQ
def dF:AC:= (m2 [RM 4 0,RM 5 0,f1 6 5,RM 7 1,f6 8 gL [4,6,7]] [])
def gD:List aW:=[]
theorem mB:aO bNV Tryz.f135 (bnD dF)=some (dF,gD):=by kernel_rfl
def eM:AC:= (boG [dO 4 boD] [0,1] (boG [RM 5 0,RM 6 1,f6 7 dK [5,6],dI 8 .geq 7 (ki 0),RM 4 8] [4] .ret))
def iH:List aW:=[.tm 4]
theorem oO:aO bNV Tryz.f171 (bnD eM)=some (eM,iH):=by kernel_rfl
def yG:AC:= (boG [f5 1 0,dO 2 boD] [1] (boG [f8 3 3 1,f6 4 uJ [3],f4 5 4,RM 2 5] [2] .ret))
def GC:List aW:=[.tm 2]
theorem QK:aO bNV Tryz.f172 (bnD yG)=some (yG,GC):=by kernel_rfl
theorem RR:aN bNV tQ Tryz.f172 yG GC:=aN.mk Tryz.func172 (by kernel_rfl) QK
def lL:AC:= (boG [f5 3 0,f5 5 2,dO 6 boD] [1,3,5] (.seq (boG [RF 17 0 5,RL 18 17,RF 19 2 3,RL 20 19,RM 21 1,e0 22 1 20 21,RL 23 22,f1 24 23,f6 25 cQ [18,(ki 0),24],f4 26 25,RM 27 26,g9 28 1 5 27 false,hD 29 28 27 false,GQ 30 (.len false 29) 27 false,g9 31 0 5 27 false,hD 32 31 27 false,GQ 33 (.mmx true (ki 2) 32) 27 false,hO 34 .gtr 30 33 27 false,f3 35 27 boE 34,RM 36 35,g9 37 2 5 36 false,hD 38 37 36 false,GQ 39 (.len false 38) 36 false,hO 40 .gtr 39 (ki 4) 36 false,f3 41 36 boE 40,RM 42 41,g9 43 3 5 42 false,hD 44 43 42 false,GQ 45 (.call cQ [44,(ki 0),(ki 3)]) 42 false,hP 46 45 42 false,f3 47 42 boE 46] [1,3,5,47] (.cond 47 (boG [dO 6 boD] [6] .ret) .skip)) (boG [RF 48 0 5,RL 49 48,RF 50 1 5,RL 51 50,f1 52 51,dI 53 .sub 49 52,RM 7 53] [1,3,5,7] (.seq (boG [RF 54 1 5,RL 55 54,f1 56 55,dO 57 (ki 0)] [1,3,5,7,55,56,57] (.block 0 (.loop (boG [dI 58 .lss 57 56] [1,3,5,7,55,56,57,58] (.seq (.cond 58 .skip (.exit 0)) (.seq (.block 1 (boG [RM 59 57,e0 60 1 55 57,RL 61 60,RM 8 59,RM 9 61] [1,3,5,7,8,9,55,56,57] (boG [RM 62 9,RM 63 7,RM 64 8,dI 65 .add 63 64,dI 66 .neq 62 65] [1,3,5,7,55,56,57,66] (.cond 66 (boG [dO 6 boD] [6] .ret) .skip)))) (m2 [dI 67 .add 57 (ki 1),RM 57 67] [1,3,5,7,55,56,57]))))))) (boG [rq 10 (.move (.kv (.int .i64 (-1))))] [1,3,5,7,10] (boG [rq 68 (.xop (.DS 0 false) []),RM 11 68] [1,3,5,7,10,11] (.seq (boG [RF 69 2 5,RL 70 69,f1 71 70,dO 72 (ki 0)] [1,3,7,10,11,70,71,72] (.block 2 (.loop (boG [dI 73 .lss 72 71] [1,3,7,10,11,70,71,72,73] (.seq (.cond 73 .skip (.exit 2)) (.seq (.block 3 (boG [e0 74 3 70 72,f8 75 3 74,f7 13 [VZ,VZ,VZ],g0 3 true 13 75] [1,3,7,10,11,13,70,71,72] (.seq (boG [RF 76 0 13,RL 77 76,RM 78 1,dI 79 .neq 77 78,RM 80 79,g9 81 1 13 80 false,hD 82 81 80 false,hG 83 10 80 false,hO 84 .add 83 (ki 1) 80 false,hG 85 7 80 false,hO 86 .sub 85 (ki 1) 80 false,GQ 87 (.call cQ [82,84,86]) 80 false,hP 88 87 80 false,f3 89 80 boE 88,RM 90 89,g9 91 2 13 90 false,dA (some 92) (.load 1 false 91) (some (90,false)) [] [] true,g9 93 0 3 90 false,hD 94 93 90 false,g9 95 2 3 90 false,hD 96 95 90 false,hG 97 1 90 false,j0 98 1 96 97 90 false,hD 99 98 90 false,g9 100 1 13 90 false,hD 101 100 90 false,j0 102 7 99 101 90 false,GQ 103 (.load 7 true 102) 90 false,dA (some 104) (.call rN [94,103]) (some (90,false)) [] [16] false,hO 105 .neq 92 104 90 false,f3 106 90 boE 105] [1,3,7,11,13,70,71,72,106] (.cond 106 (boG [dO 6 boD] [6] .ret) .skip)) (boG [RF 107 1 13,RL 108 107,RM 10 108] [1,3,7,10,11,13,70,71,72] (boG [f8 109 3 3,RM 110 1,RF 111 1 13,RL 112 111,f6 113 fB [109,110,112],RM 14 113] [1,3,7,10,11,13,14,70,71,72] (.seq (boG [RM 115 11,RM 116 14,rq 117 (.xop (.rA 0 false true) [115,116]),RM 114 117,rq 118 (.ext 114 0),rq 119 (.ext 114 1),RM 15 118,RM 16 119] [1,3,7,10,11,13,14,15,16,70,71,72] (boG [RM 120 16,RM 121 120,hG 122 15 121 true,g9 123 2 13 121 true,hD 124 123 121 true,hO 125 .neq 122 124 121 true,f3 126 121 125 boD] [1,3,7,10,11,13,14,70,71,72,126] (.cond 126 (boG [dO 6 boD] [6] .ret) .skip))) (m2 [RM 127 11,RM 128 14,RF 129 2 13,RL 130 129,rn (.xop (.vM 0 false) [127,128,130])] [1,3,7,10,11,70,71,72]))))))) (m2 [dI 131 .add 72 (ki 1),RM 72 131] [1,3,7,10,11,70,71,72]))))))) (boG [dO 6 boE] [6] .ret))))))))
def sF:List aW:=[.tm 6]
theorem EM:aO bNV Tryz.f196 (bnD lL)=some (lL,sF):=by kernel_rfl
def lB:AC:= (boG [f5 3 0,f5 4 1,rq 5 (.box false 2),dO 6 boD] [3,4,5] (boG [RF 14 3 4,RL 15 14,RL 16 5,e0 17 3 15 16,f8 18 3 17,f7 7 [OZ,OZ,VZ],g0 3 true 7 18] [3,4,5,7] (.seq (boG [RF 19 0 7,RL 20 19,f1 21 20,dI 22 .gtr 21 (ki 2),RM 23 22,g9 24 1 7 23 false,hD 25 24 23 false,GQ 26 (.len false 25) 23 false,hO 27 .gtr 26 (ki 2) 23 false,f3 28 23 boE 27,RM 29 28,g9 30 2 7 29 false,hD 31 30 29 false,GQ 32 (.call jA [31]) 29 false,hP 33 32 29 false,f3 34 29 boE 33] [3,4,5,7,34] (.cond 34 (boG [dO 6 boD] [6] .ret) .skip)) (boG [rq 35 (.build [VZ,VZ,VZ] [(0,1,(.kv (.int .i64 (-1)))),(1,1,(.kv (.int .i64 (-1)))),(2,1,(.kv (.int .i64 (-1))))]),f7 8 [VZ,VZ,VZ],g0 3 true 8 35] [3,4,5,7,8] (boG [rq 36 (.xop (.zI cO) [8,4,5]),RM 9 36] [3,5,7,9] (.seq (boG [RF 37 1 7,RL 38 37,f1 39 38,dO 40 (ki 0)] [3,5,7,9,38,39,40] (.block 0 (.loop (boG [dI 41 .lss 40 39] [3,5,7,9,38,39,40,41] (.seq (.cond 41 .skip (.exit 0)) (.seq (.block 1 (boG [e0 42 5 38 40,f8 43 5 42,f7 11 [VZ,VZ,VZ,VZ,OZ],g0 5 true 11 43] [3,5,7,9,11,38,39,40] (boG [RM 44 9,RF 45 0 11,RL 46 45,RF 47 1 11,RL 48 47,rq 49 (.t5 44 [46,48]),f4 50 49,RM 51 50,g9 52 2 11 51 false,GQ 53 (.load 3 true 52) 51 false,GQ 54 (.call m6 [53]) 51 false,hP 55 54 51 false,f3 56 51 boE 55,RM 57 56,g9 58 2 11 57 false,g9 59 0 58 57 false,dA (some 60) (.load 1 false 59) (some (57,false)) [] [] true,GQ 61 (.load 3 true 3) 57 false,g9 62 0 11 57 false,hD 63 62 57 false,g9 64 1 11 57 false,hD 65 64 57 false,dA (some 66) (.call fB [61,63,65]) (some (57,false)) [] [16] false,hO 67 .neq 60 66 57 false,f3 68 57 boE 67] [3,5,7,9,38,39,40,68] (.cond 68 (boG [dO 6 boD] [6] .ret) .skip)))) (m2 [dI 69 .add 40 (ki 1),RM 40 69] [3,5,7,9,38,39,40]))))))) (.seq (boG [RF 70 0 7,RL 71 70,f1 72 71,dO 73 (ki 0)] [3,5,9,71,72,73] (.block 2 (.loop (boG [dI 74 .lss 73 72] [3,5,9,71,72,73,74] (.seq (.cond 74 .skip (.exit 2)) (.seq (.block 3 (boG [RM 75 73,e0 76 3 71 73,f8 77 3 76,f7 13 [VZ,VZ,VZ],RM 12 75,g0 3 true 13 77] [3,5,9,12,13,71,72,73] (boG [RM 78 9,RF 79 0 13,RL 80 79,RF 81 1 13,RL 82 81,rq 83 (.t5 78 [80,82]),f4 84 83,RM 85 84,hG 86 12 85 false,hO 87 .eql 86 (ki 0) 85 false,hG 88 87 85 false,g9 89 2 13 88 true,hD 90 89 88 true,g9 91 1 3 88 true,hD 92 91 88 true,hD 93 5 88 true,j0 94 1 92 93 88 true,hD 95 94 88 true,GQ 96 (.call cQ [90,(ki 0),95]) 88 true,hP 97 96 88 true,GQ 98 (.pick 88 97 boD) 85 false,f3 99 85 boE 98,RM 100 99,hG 101 12 100 false,hO 102 .gtr 101 (ki 0) 100 false,hG 103 102 100 false,g9 104 2 13 103 true,hD 105 104 103 true,g9 106 1 3 103 true,hD 107 106 103 true,hD 108 5 103 true,j0 109 1 107 108 103 true,hD 110 109 103 true,hO 111 .neq 105 110 103 true,GQ 112 (.pick 103 111 boD) 100 false,f3 113 100 boE 112] [3,5,9,71,72,73,113] (.cond 113 (boG [dO 6 boD] [6] .ret) .skip)))) (m2 [dI 114 .add 73 (ki 1),RM 73 114] [3,5,9,71,72,73]))))))) (boG [dO 6 boE] [6] .ret))))))))
def qR:List aW:=[.tm 6]
theorem B8:aO bNV Tryz.f197 (bnD lB)=some (lB,qR):=by kernel_rfl
def gA:AC:= (boG [dO 6 (ki 20)] [0,1,2,6] (boG [RM 10 6,dO 7 (ki 0),RM 8 10] [0,1,2,6,7,8] (.seq (.block 0 (.loop (.seq (boG [RM 11 8,RM 12 1,dI 13 .leq 11 12] [0,1,2,6,7,8,13] (.cond 13 .skip (.exit 0))) (.block 1 (boG [RM 14 0,RM 15 7,RM 16 8,RM 17 2,f6 18 cL [14,15,16,17]] [0,1,2,6,8] (boG [RM 19 8,RM 7 19] [0,1,2,6,7,8] (m2 [RM 20 8,RM 21 6,dI 22 .add 20 21,RM 8 22] [0,1,2,6,7,8]))))))) (boG [RM 23 0,RM 24 7,RM 25 1,RM 26 2,f6 27 cL [23,24,25,26]] [0,1,2,6] (.block 2 (.loop (.seq (boG [RM 28 6,RM 29 1,dI 30 .lss 28 29] [0,1,2,6,30] (.cond 30 .skip (.exit 2))) (.block 3 (boG [RM 31 6,dI 32 .mul (ki 2) 31,dO 7 (ki 0),RM 8 32] [0,1,2,6,7,8] (.seq (.block 4 (.loop (.seq (boG [RM 33 8,RM 34 1,dI 35 .leq 33 34] [0,1,2,6,7,8,35] (.cond 35 .skip (.exit 4))) (.block 5 (boG [RM 36 0,RM 37 7,RM 38 7,RM 39 6,dI 40 .add 38 39,RM 41 8,RM 42 2,f6 43 jW [36,37,40,41,42]] [0,1,2,6,8] (boG [RM 44 8,RM 7 44] [0,1,2,6,7,8] (m2 [RM 45 8,RM 46 6,dI 47 .mul (ki 2) 46,dI 48 .add 45 47,RM 8 48] [0,1,2,6,7,8]))))))) (.seq (boG [RM 49 7,RM 50 6,dI 51 .add 49 50,RM 9 51] [0,1,2,6,7,9] (boG [RM 52 9,RM 53 1,dI 54 .lss 52 53] [0,1,2,6,7,9,54] (.cond 54 (m2 [RM 55 0,RM 56 7,RM 57 9,RM 58 1,RM 59 2,f6 60 jW [55,56,57,58,59]] [0,1,2,6]) .skip))) (m2 [RM 61 6,dI 62 .mul 61 (ki 2),RM 6 62] [0,1,2,6]))))))))))))
def kJ:List aW:=[]
theorem sX:aO bNV Tryz.f225 (bnD gA)=some (gA,kJ):=by kernel_rfl
def fI:AC:= (boG [dO 4 (ki 0)] [0,1] (.seq (boG [RM 6 0,f1 7 6,dO 8 (ki 0)] [0,1,7,8] (.block 0 (.loop (boG [dI 9 .lss 8 7] [0,1,7,8,9] (.seq (.cond 9 .skip (.exit 0)) (.seq (.block 1 (boG [RM 10 8,RM 5 10] [0,1,5,7,8] (boG [RM 11 1,RM 12 0,RM 13 5,e0 14 3 12 13,f8 15 3 14,rq 16 (.t5 11 [15])] [0,1,5,7,8,16] (.cond 16 (boG [RM 17 5,RM 4 17] [4] .ret) .skip)))) (m2 [dI 18 .add 8 (ki 1),RM 8 18] [0,1,7,8]))))))) (boG [rq 4 (.move (.kv (.int .i64 (-1))))] [4] .ret)))
def jH:List aW:=[.tm 4]
theorem rS:aO bNV Tryz.f252 (bnD fI)=some (fI,jH):=by kernel_rfl
def jP:AC:= (boG [dO 7 boD] [0,1,2,3,4] (.seq (boG [RM 9 0,f6 10 jA [9],f4 11 10,RM 12 11,hG 13 1 12 false,hG 14 0 12 false,GQ 15 (.TL 1 3 2 14) 12 false,hD 16 15 12 false,hO 17 .leq 13 16 12 false,f3 18 12 boE 17] [0,1,2,3,4,18] (.cond 18 (boG [dO 7 boD] [7] .ret) .skip)) (boG [RM 19 0,RM 20 1,rq 21 (.TL 1 3 2 19),g0 1 false 21 20] [0,1,3,4] (boG [RF 22 2 3,RL 23 22,RM 24 0,e0 25 4 23 24,f8 26 4 25,RM 27 1,f6 28 kV [26,27],RM 8 28] [0,3,4,8] (boG [RM 29 8,dI 30 .geq 29 (ki 0),RM 31 30,g9 32 2 3 31 true,hD 33 32 31 true,hG 34 0 31 true,j0 35 4 33 34 31 true,g9 36 2 35 31 true,hD 37 36 31 true,hG 38 8 31 true,j0 39 3 37 38 31 true,g9 40 2 39 31 true,hD 41 40 31 true,hD 42 4 31 true,hO 43 .eql 41 42 31 true,f3 44 31 43 boD,RM 7 44] [7] .ret)))))
def oE:List aW:=[.tm 7]
theorem AH:aO bNV Tryz.f282 (bnD jP)=some (jP,oE):=by kernel_rfl
def dU:AC:= (boG [RM 10 1,dI 11 .add 10 (ki 1),RM 8 11] [0,1,2,3,8] (.block 0 (.loop (.seq (boG [RM 12 8,RM 13 2,dI 14 .lss 12 13] [0,1,2,3,8,14] (.cond 14 .skip (.exit 0))) (.seq (.block 1 (boG [RM 17 8,RM 9 17] [0,1,2,3,8,9] (.block 2 (.loop (.seq (boG [RM 18 9,RM 19 1,dI 20 .gtr 18 19,RM 21 20,hG 22 3 21 true,hG 23 0 21 true,hG 24 9 21 true,j0 25 5 23 24 21 true,GQ 26 (.load 5 true 25) 21 true,hG 27 0 21 true,hG 28 9 21 true,hO 29 .sub 28 (ki 1) 21 true,j0 30 5 27 29 21 true,GQ 31 (.load 5 true 30) 21 true,GQ 32 (.t5 22 [26,31]) 21 true,hO 33 .lss 32 (ki 0) 21 true,f3 34 21 33 boD] [0,1,2,3,8,9,34] (.cond 34 .skip (.exit 2))) (.seq (.block 3 (m2 [RM 37 0,RM 38 9,RM 39 0,RM 40 9,dI 41 .sub 40 (ki 1),RM 42 0,RM 43 9,dI 44 .sub 43 (ki 1),e0 45 5 42 44,f8 46 5 45,RM 47 0,RM 48 9,e0 49 5 47 48,f8 50 5 49,e0 51 5 37 38,g0 5 true 51 46,e0 52 5 39 41,g0 5 true 52 50] [0,1,2,3,8,9])) (m2 [RM 35 9,dI 36 .sub 35 (ki 1),RM 9 36] [0,1,2,3,8,9]))))))) (m2 [RM 15 8,dI 16 .add 15 (ki 1),RM 8 16] [0,1,2,3,8]))))))
def gU:List aW:=[]
theorem m9:aO bNV Tryz.f303 (bnD dU)=some (dU,gU):=by kernel_rfl
def bgT:AC:= (boG [f5 3 0,f5 4 1,f5 5 2,f7 6 [OZ,OZ,OZ,OZ,OZ]] [3,4,5,6] (.seq (boG [dO 7 (ki 0)] [3,4,5,6,7] (.block 0 (.loop (.seq (boG [RM 12 7,dI 13 .lss 12 (ki 3)] [3,4,5,6,7,13] (.cond 13 .skip (.exit 0))) (.seq (.block 1 (boG [RF 16 0 5,RL 17 16,RM 18 7,e0 19 1 17 18,RL 20 19] [3,4,5,6,7,20] (.cond 20 (m2 [f8 21 5 4,RM 22 7,f6 23 bg8 [21,22],g0 5 true 4 23] [3,4,5,6,7]) .skip))) (m2 [RM 14 7,dI 15 .add 14 (ki 1),RM 7 15] [3,4,5,6,7])))))) (.seq (boG [dO 8 (ki 0)] [3,4,5,6,8] (.block 2 (.loop (.seq (boG [RM 24 8,dI 25 .leq 24 (ki 3)] [3,4,5,6,8,25] (.cond 25 .skip (.exit 2))) (.seq (.block 3 (boG [RF 28 1 5,RL 29 28,RM 30 8,e0 31 1 29 30,RL 32 31,f4 33 32] [3,4,5,6,8,33] (.cond 33 (m2 [f8 34 3 3,f8 35 5 4,RM 36 8,f6 37 bg7 [34,35,36],g0 5 true 4 37] [3,4,5,6,8]) .skip))) (m2 [RM 26 8,dI 27 .add 26 (ki 1),RM 8 27] [3,4,5,6,8])))))) (boG [rq 38 (.kY 1 [(.v (.bool false))] (ki 3) (ki 3)),RM 9 38] [3,4,5,6,9] (.seq (boG [dO 10 (ki 0)] [3,4,5,6,9,10] (.block 4 (.loop (.seq (boG [RM 39 10,dI 40 .leq 39 (ki 3)] [3,4,5,6,9,10,40] (.cond 40 .skip (.exit 4))) (.seq (.block 5 (m2 [f8 43 3 3,f8 44 5 4,RM 45 10,RM 46 9,f6 47 bhG [43,44,45,46],g0 5 true 4 47] [3,4,5,6,9,10])) (m2 [RM 41 10,dI 42 .add 41 (ki 1),RM 10 42] [3,4,5,6,9,10])))))) (.seq (boG [dO 11 (ki 0)] [3,4,5,6,11] (.block 6 (.loop (.seq (boG [RM 48 11,dI 49 .lss 48 (ki 3)] [3,4,5,6,11,49] (.cond 49 .skip (.exit 6))) (.seq (.block 7 (boG [RF 52 2 5,RL 53 52,RM 54 11,e0 55 1 53 54,RL 56 55,RM 57 56,GQ 58 (.load 3 true 3) 57 true,GQ 59 (.load 5 true 4) 57 true,hG 60 11 57 true,GQ 61 (.call bgM [58,59,60]) 57 true,f3 62 57 61 boD] [3,4,5,6,11,62] (.cond 62 (boG [RF 63 2 4,g8 64 63 [15] [] true,RM 65 11,RF 66 2 4,g8 67 66 [15] [] false,RM 68 11,e0 69 4 67 68,RF 70 1 69,g8 71 70 [15] [] false,RF 72 2 4,RL 73 72,RM 74 11,e0 75 4 73 74,RF 76 0 75,RL 77 76,rq 78 (.bC 1 1 [VZ] [(0,1,77)]),boF 79 (.append 1 71 78) [] [1] false,e0 80 4 64 65,RF 81 1 80,g0 1 false 81 79] [3,4,5,6,11] (m2 [RF 82 2 4,RL 83 82,RM 84 11,RF 85 2 4,RL 86 85,RM 87 11,e0 88 4 86 87,RF 89 0 88,RL 90 89,dI 91 .add 90 (ki 1),e0 92 4 83 84,RF 93 0 92,g0 1 false 93 91] [3,4,5,6,11])) .skip))) (m2 [RM 50 11,dI 51 .add 50 (ki 1),RM 11 51] [3,4,5,6,11])))))) (boG [f8 94 5 4,g0 5 true 6 94] [6] .ret)))))))
def bhK:List aW:=[.cell 6 5 true]
theorem biJ:aO bNV Tryz.f77 (bnD bgT)=some (bgT,bhK):=by kernel_rfl
def bg0:AC:= (boG [f5 1 0,f7 2 [OZ,OZ,OZ,OZ,OZ]] [1,2] (.seq (.region [RF 8 0 1 0,boF 9 (.load 2 true 8) [7] [] false 1,RF 11 4 1 3,g8 12 11 [7] [] true 4,f7 3 [OZ,OZ,OZ,OZ,OZ] 7,boF 10 (.call aIR [9]) [7] [4] false 2,boF 13 (.call aIM [12]) [7] [] false 5,rq 14 (.build [OZ,OZ,OZ,OZ,OZ] [(0,2,10),(4,1,13)]) 6,g0 5 true 3 14 8] 9 [1,2,3]) (.seq (boG [dO 4 (ki 0)] [1,2,3,4] (.block 0 (.loop (.seq (boG [RM 15 4,RF 16 2 1,RL 17 16,f1 18 17,dI 19 .lss 15 18] [1,2,3,4,19] (.cond 19 .skip (.exit 0))) (.seq (.block 1 (boG [RF 22 2 1,RL 23 22,RM 24 4,e0 25 4 23 24,f8 26 4 25,f7 5 [VZ,OZ,OZ,VZ],g0 4 true 5 26] [1,2,3,4,5] (.region [RF 27 2 3 0,g8 28 27 [4,8,15] [] true 1,RF 29 0 5 2,g8 30 29 [4,8,15] [] true 3,rq 31 (.bC 1 0 [VZ] []) 4,RF 32 1 5 5,g8 33 32 [4,8] [] false 6,rq 35 (.bC 3 0 [VZ,VZ,VZ] []) 8,RF 36 2 5 9,g8 37 36 [4,8,15] [] true 10,RF 39 3 5 12,g8 40 39 [4,8,15] [] true 13,boF 34 (.append 1 31 33) [8] [1,3,10,13] false 7,boF 38 (.append 3 35 37) [] [1,3,13] false 11,rq 41 (.build [VZ,OZ,OZ,VZ] [(0,1,30),(1,1,34),(2,1,38),(3,1,40)]) 14,rq 42 (.bC 4 1 [VZ,OZ,OZ,VZ] [(0,4,41)]) 15,rq 43 (.append 4 28 42) 16,RF 44 2 3 17,g0 1 false 44 43 18] 19 [1,2,3,4]))) (m2 [RM 20 4,dI 21 .add 20 (ki 1),RM 4 21] [1,2,3,4])))))) (.seq (boG [dO 6 (ki 0)] [1,2,3,6] (.block 2 (.loop (.seq (boG [RM 45 6,RF 46 3 1,RL 47 46,f1 48 47,dI 49 .lss 45 48] [1,2,3,6,49] (.cond 49 .skip (.exit 2))) (.seq (.block 3 (boG [RF 52 3 1,RL 53 52,RM 54 6,e0 55 3 53 54,f8 56 3 55,f7 7 [OZ,OZ,VZ],g0 3 true 7 56] [1,2,3,6,7] (.region [RF 57 3 3 0,g8 58 57 [2,12] [] true 1,rq 59 (.bC 3 0 [VZ,VZ,VZ] []) 2,RF 60 0 7 3,g8 61 60 [2] [] false 4,RF 63 1 7 6,g8 64 63 [2,12] [] true 7,RF 66 2 7 9,g8 67 66 [2,12] [] true 10,boF 62 (.append 3 59 61) [] [1,7,10] false 5,boF 65 (.call aIM [64]) [] [1,10] false 8,rq 68 (.build [OZ,OZ,VZ] [(0,1,62),(1,1,65),(2,1,67)]) 11,rq 69 (.bC 3 1 [OZ,OZ,VZ] [(0,3,68)]) 12,rq 70 (.append 3 58 69) 13,RF 71 3 3 14,g0 1 false 71 70 15] 16 [1,2,3,6]))) (m2 [RM 50 6,dI 51 .add 50 (ki 1),RM 6 51] [1,2,3,6])))))) (boG [f8 72 5 3,g0 5 true 2 72] [2] .ret)))))
def bhN:List aW:=[.cell 2 5 true]
theorem biR:aO bNV Tryz.f103 (bnD bg0)=some (bg0,bhN):=by kernel_rfl
def bgX:AC:= (boG [f5 2 0,dO 4 (ki 0)] [1,2] (.seq (boG [dO 5 (ki 1)] [1,2,5] (.block 0 (.loop (.seq (boG [RM 7 5,dI 8 .leq 7 (ki 4)] [1,2,5,8] (.cond 8 .skip (.exit 0))) (.seq (.block 1 (boG [RF 11 2 2,RL 12 11,RM 13 1,e0 14 4 12 13,RF 15 3 14,RL 16 15,RM 17 5,dI 18 .add 16 17,dI 19 .rem 18 (ki 4),RM 6 19] [1,2,5,6] (boG [RF 20 3 2,RL 21 20,RM 22 6,e0 23 3 21 22,RF 24 1 23,RL 25 24,f1 26 25,dI 27 .gtr 26 (ki 0),RM 28 27,g9 29 3 2 28 true,hD 30 29 28 true,hG 31 6 28 true,j0 32 3 30 31 28 true,g9 33 1 32 28 true,hD 34 33 28 true,j0 35 5 34 (ki 0) 28 true,g9 36 0 35 28 true,hD 37 36 28 true,hG 38 1 28 true,hO 39 .eql 37 38 28 true,f3 40 28 39 boD] [1,2,5,6,40] (.cond 40 (boG [RM 41 6,RM 4 41] [4] .ret) .skip)))) (m2 [RM 9 5,dI 10 .add 9 (ki 1),RM 5 10] [1,2,5])))))) (boG [rq 4 (.move (.kv (.int .i64 (-1))))] [4] .ret)))
def bhL:List aW:=[.tm 4]
theorem biQ:aO bNV Tryz.f120 (bnD bgX)=some (bgX,bhL):=by kernel_rfl
def bg1:AC:= (boG [f5 2 0,f7 4 [OZ,OZ,OZ,OZ,OZ]] [1,2,4] (boG [f8 7 5 2,RM 8 1,f6 9 bgR [7,8],RM 5 9] [1,2,4,5] (.seq (boG [RM 10 5,dI 11 .lss 10 (ki 0)] [1,2,4,5,11] (.cond 11 (boG [f8 12 5 2,g0 5 true 4 12] [4] .ret) .skip)) (boG [RF 13 3 2,RL 14 13,RM 15 5,e0 16 3 14 15,RF 17 1 16,RL 18 17,e0 19 5 18 (ki 0),f8 20 5 19,f7 6 [VZ,VZ,VZ,VZ,OZ],g0 5 true 6 20] [1,2,4,5,6] (boG [RF 21 3 2,g8 22 21 [] [] true,RM 23 5,RF 24 3 2,RL 25 24,RM 26 5,e0 27 3 25 26,RF 28 1 27,RL 29 28,rq 30 (.slc 5 29 (some (ki 1)) none none),boF 31 (.call aIM [30]) [] [1] false,e0 32 3 22 23,RF 33 1 32,g0 1 false 33 31] [1,2,4,5,6] (boG [RF 34 2 2,g8 35 34 [] [] true,RM 36 1,RF 37 2 2,RL 38 37,RM 39 1,e0 40 4 38 39,RF 41 2 40,RL 42 41,RF 43 1 6,RL 44 43,boF 45 (.call bhB [42,44]) [] [1] false,e0 46 4 35 36,RF 47 2 46,g0 1 false 47 45] [1,2,4,5,6] (boG [RF 48 2 2,RL 49 48,RM 50 1,RM 51 5,e0 52 4 49 50,RF 53 3 52,g0 1 false 53 51] [2,4,6] (boG [RF 54 4 2,RL 55 54,f8 56 5 6,rq 57 (.bC 5 1 [VZ,VZ,VZ,VZ,OZ] [(0,5,56)]),rq 58 (.append 5 55 57),RF 59 4 2,g0 1 false 59 58] [2,4] (boG [f8 60 5 2,g0 5 true 4 60] [4] .ret)))))))))
def bhM:List aW:=[.cell 4 5 true]
theorem biT:aO bNV Tryz.f121 (bnD bg1)=some (bg1,bhM):=by kernel_rfl
def bgU:AC:= (boG [f5 2 0,dO 4 boD] [1,2] (boG [RF 6 3 2,RL 7 6,RM 8 1,e0 9 3 7 8,f8 10 3 9,f7 5 [OZ,OZ,VZ],g0 3 true 5 10] [5] (boG [RF 11 0 5,RL 12 11,f1 13 12,dI 14 .gtr 13 (ki 0),RM 15 14,g9 16 0 5 15 true,hD 17 16 15 true,j0 18 3 17 (ki 0) 15 true,g9 19 2 18 15 true,hD 20 19 15 true,hO 21 .eql 20 (ki 0) 15 true,f3 22 15 21 boD,RM 23 22,g9 24 1 5 23 true,hD 25 24 23 true,GQ 26 (.len false 25) 23 true,hO 27 .lss 26 (ki 2) 23 true,f3 28 23 27 boD,RM 4 28] [4] .ret)))
def bhH:List aW:=[.tm 4]
theorem biF:aO bNV Tryz.f122 (bnD bgU)=some (bgU,bhH):=by kernel_rfl
def bg2:AC:= (boG [f5 3 0,f5 4 1,f7 6 [OZ,OZ,OZ,OZ,OZ]] [2,3,4,6] (boG [RF 11 3 4,RL 12 11,RM 13 2,e0 14 3 12 13,f8 15 3 14,f7 7 [OZ,OZ,VZ],g0 3 true 7 15] [2,3,4,6,7] (.seq (boG [RF 16 0 7,RL 17 16,f1 18 17,dI 19 .eql 18 (ki 0)] [2,3,4,6,7,19] (.cond 19 (boG [f8 20 5 4,g0 5 true 6 20] [6] .ret) .skip)) (.seq (boG [f8 21 5 4,RM 22 2,f6 23 bgN [21,22],f4 24 23] [2,3,4,6,7,24] (.cond 24 (.seq (boG [RF 25 0 7,RL 26 25,e0 27 3 26 (ki 0),RF 28 2 27,RL 29 28,dI 30 .gtr 29 (ki 0)] [2,4,6,7,30] (.cond 30 (m2 [RF 31 3 4,RL 32 31,RM 33 2,e0 34 3 32 33,RF 35 0 34,RL 36 35,RF 37 0 7,RL 38 37,e0 39 3 38 (ki 0),RF 40 2 39,RL 41 40,dI 42 .sub 41 (ki 1),e0 43 3 36 (ki 0),RF 44 2 43,g0 1 false 44 42] [4,6]) .skip)) (boG [f8 45 5 4,g0 5 true 6 45] [6] .ret)) .skip)) (boG [RF 46 0 7,RL 47 46,e0 48 3 47 (ki 0),f8 49 3 48,f7 8 [VZ,VZ,VZ],g0 3 true 8 49] [2,3,4,6,7,8] (.seq (.region [RF 51 0 3 0,g8 52 51 [20,21] [] false 1,RF 53 0 4 2,boF 54 (.load 2 true 53) [20,21] [] false 3,RF 55 0 8 4,g8 56 55 [20,21] [] false 5,RF 57 2 3 6,g8 58 57 [20,21] [] false 7,RF 59 0 8 8,g8 60 59 [20,21] [] false 9,e0 61 1 58 60 10,g8 62 61 [20,21] [] false 11,RF 63 1 8 12,g8 64 63 [20,21] [] false 13,e0 65 7 62 64 14,boF 66 (.load 7 true 65) [20,21] [] false 15,f7 9 [OZ,OZ] 20,f7 10 [VZ,VZ,OZ] 21,boF 67 (.call aN2 [52,54,56,66]) [20,21] [] false 16,RM 50 67 17,rq 68 (.ext 50 0) 18,rq 69 (.ext 50 1) 19,g0 2 true 9 68 22,g0 3 true 10 69 23] 24 [2,4,6,7,8,9,10]) (boG [f8 70 2 9,RF 71 0 4,g0 2 true 71 70] [2,4,6,7,8,10] (boG [RF 72 3 4,g8 73 72 [3] [] true,RM 74 2,rq 75 (.bC 3 0 [VZ,VZ,VZ] []),RF 76 0 7,g8 77 76 [3] [] false,rq 78 (.slc 3 77 (some (ki 1)) none none),boF 79 (.append 3 75 78) [] [1] false,e0 80 3 73 74,RF 81 0 80,g0 1 false 81 79] [2,4,6,7,8,10] (boG [RF 82 3 4,g8 83 82 [11] [] true,RM 84 2,RF 85 1 7,g8 86 85 [11] [] false,RF 87 0 8,RL 88 87,RF 89 1 8,RL 90 89,f8 91 3 10,rq 92 (.build [VZ,VZ,VZ,VZ,OZ] [(0,1,88),(1,1,90),(2,3,91)]),rq 93 (.bC 5 1 [VZ,VZ,VZ,VZ,OZ] [(0,5,92)]),boF 94 (.append 5 86 93) [] [1] false,e0 95 3 83 84,RF 96 1 95,g0 1 false 96 94] [4,6] (boG [f8 97 5 4,g0 5 true 6 97] [6] .ret))))))))))
def bhS:List aW:=[.cell 6 5 true]
theorem bjA:aO bNV Tryz.f123 (bnD bg2)=some (bg2,bhS):=by kernel_rfl
def bhD:AC:= (boG [f5 4 0,f5 5 1,f7 8 [OZ,OZ,OZ,OZ,OZ]] [2,3,4,5,8] (.seq (boG [RF 13 3 5,RL 14 13,RM 15 2,e0 16 3 14 15,RF 17 0 16,RL 18 17,f1 19 18,dI 20 .eql 19 (ki 2)] [2,3,4,5,8,20] (.cond 20 (boG [f8 21 5 5,g0 5 true 8 21] [8] .ret) .skip)) (.seq (boG [dO 9 (ki 1)] [2,3,4,5,8,9] (.block 0 (.loop (.seq (boG [RM 22 9,dI 23 .leq 22 (ki 3)] [2,3,4,5,8,9,23] (.cond 23 .skip (.exit 0))) (.seq (.block 1 (boG [RF 26 3 5,RL 27 26,RM 28 2,e0 29 3 27 28,RF 30 2 29,RL 31 30,RM 32 9,dI 33 .add 31 32,dI 34 .rem 33 (ki 3),RM 10 34] [2,3,4,5,8,9,10] (boG [RM 35 3,RM 36 10,e0 37 1 35 36,RL 38 37,f4 39 38,RM 40 39,GQ 41 (.load 3 true 4) 40 true,GQ 42 (.load 5 true 5) 40 true,hG 43 10 40 true,hG 44 2 40 true,GQ 45 (.call bgQ [41,42,43,44]) 40 true,f3 46 40 45 boD] [2,3,4,5,8,9,10,46] (.cond 46 (boG [RM 47 3,RM 48 10,e0 49 1 47 48,g0 1 false 49 boE] [2,4,5,8,10] (boG [RF 50 2 5,RL 51 50,RM 52 10,e0 53 4 51 52,f8 54 4 53,f7 11 [VZ,OZ,OZ,VZ],g0 4 true 11 54] [2,4,5,8,10,11] (boG [RF 55 1 11,RL 56 55,e0 57 1 56 (ki 0),RL 58 57,RM 12 58] [2,4,5,8,10,11,12] (boG [RF 59 2 5,g8 60 59 [3] [] true,RM 61 10,rq 62 (.bC 1 0 [VZ] []),RF 63 1 11,g8 64 63 [3] [] false,rq 65 (.slc 1 64 (some (ki 1)) none none),boF 66 (.append 1 62 65) [] [1] false,e0 67 4 60 61,RF 68 1 67,g0 1 false 68 66] [2,4,5,8,10,11,12] (boG [RF 69 2 5,g8 70 69 [9] [] true,RM 71 10,RF 72 2 11,g8 73 72 [9] [] false,RM 74 10,RM 75 12,RM 76 2,rq 77 (.build [VZ,VZ,VZ] [(0,1,74),(1,1,75),(2,1,76)]),rq 78 (.bC 3 1 [VZ,VZ,VZ] [(0,3,77)]),boF 79 (.append 3 73 78) [] [1] false,e0 80 4 70 71,RF 81 2 80,g0 1 false 81 79] [2,4,5,8,10,12] (boG [RF 82 3 5,g8 83 82 [17] [] true,RM 84 2,RF 85 3 5,g8 86 85 [17] [] false,RM 87 2,e0 88 3 86 87,RF 89 0 88,g8 90 89 [17] [] false,RM 91 10,RM 92 12,RF 93 1 4,RL 94 93,RM 95 2,e0 96 1 94 95,RL 97 96,rq 98 (.build [VZ,VZ,VZ] [(0,1,91),(1,1,92),(2,1,97)]),rq 99 (.bC 3 1 [VZ,VZ,VZ] [(0,3,98)]),boF 100 (.append 3 90 99) [] [1] false,e0 101 3 83 84,RF 102 0 101,g0 1 false 102 100] [2,5,8,10] (boG [RF 103 3 5,RL 104 103,RM 105 2,RM 106 10,e0 107 3 104 105,RF 108 2 107,g0 1 false 108 106] [5,8] (boG [f8 109 5 5,g0 5 true 8 109] [8] .ret)))))))) .skip)))) (m2 [RM 24 9,dI 25 .add 24 (ki 1),RM 9 25] [2,3,4,5,8,9])))))) (boG [f8 110 5 5,g0 5 true 8 110] [8] .ret))))
def bhW:List aW:=[.cell 8 5 true]
theorem bjN:aO bNV Tryz.f124 (bnD bhD)=some (bhD,bhW):=by kernel_rfl
def bgV:AC:= (boG [f5 3 0,f5 4 1,dO 6 boD] [2,3,4] (boG [RF 7 2 4,RL 8 7,RM 9 2,e0 10 4 8 9,RF 11 0 10,RL 12 11,RF 13 2 3,RL 14 13,RM 15 2,e0 16 1 14 15,RL 17 16,f1 18 17,dI 19 .lss 12 18,RM 20 19,g9 21 2 4 20 true,hD 22 21 20 true,hG 23 2 20 true,j0 24 4 22 23 20 true,g9 25 1 24 20 true,hD 26 25 20 true,GQ 27 (.len false 26) 20 true,hO 28 .lss 27 (ki 2) 20 true,f3 29 20 28 boD,RM 6 29] [6] .ret))
def bhI:List aW:=[.tm 6]
theorem biE:aO bNV Tryz.f125 (bnD bgV)=some (bgV,bhI):=by kernel_rfl
def bg4:AC:= (boG [dO 4 (.kv (.slice none 0 0))] [0,1] (boG [rq 7 (.bC 3 0 [VZ,VZ,VZ] []),RM 5 7] [0,1,5] (.seq (boG [dO 6 (ki 0)] [0,1,5,6] (.block 0 (.loop (.seq (boG [RM 8 6,RM 9 0,f1 10 9,dI 11 .lss 8 10] [0,1,5,6,11] (.cond 11 .skip (.exit 0))) (.seq (.block 1 (boG [RM 14 0,RM 15 6,e0 16 3 14 15,RF 17 1 16,RL 18 17,RM 19 1,dI 20 .neq 18 19] [0,1,5,6,20] (.cond 20 (m2 [RM 21 5,RM 22 0,RM 23 6,e0 24 3 22 23,f8 25 3 24,rq 26 (.bC 3 1 [VZ,VZ,VZ] [(0,3,25)]),rq 27 (.append 3 21 26),RM 5 27] [0,1,5,6]) .skip))) (m2 [RM 12 6,dI 13 .add 12 (ki 1),RM 6 13] [0,1,5,6])))))) (boG [RM 28 5,RM 4 28] [4] .ret))))
def bhR:List aW:=[.tm 4]
theorem biU:aO bNV Tryz.f208 (bnD bg4)=some (bg4,bhR):=by kernel_rfl
def bg5:AC:= (boG [f5 4 0,f5 5 1,dO 8 boD] [2,3,4,5] (boG [RF 12 2 5,RL 13 12,RM 14 2,e0 15 4 13 14,f8 16 4 15,f7 9 [VZ,OZ,OZ,VZ],g0 4 true 9 16] [2,3,4,9] (.seq (boG [RF 17 1 9,RL 18 17,f1 19 18,dI 20 .eql 19 (ki 0),RM 21 20,g9 22 2 9 21 false,hD 23 22 21 false,GQ 24 (.len false 23) 21 false,hO 25 .eql 24 (ki 4) 21 false,f3 26 21 boE 25] [2,3,4,9,26] (.cond 26 (boG [dO 8 boD] [8] .ret) .skip)) (boG [RF 27 2 4,g8 28 27 [11] [] false,RM 29 2,e0 30 1 28 29,g8 31 30 [11] [] false,RF 32 1 9,g8 33 32 [11] [] false,e0 34 1 33 (ki 0),g8 35 34 [11] [] false,e0 36 7 31 35,boF 37 (.load 7 true 36) [11] [] false,f7 10 [VZ,VZ,VZ,VZ,(.v (.bool false)),OZ,OZ],g0 7 true 10 37] [2,3,4,9,10] (.seq (boG [RF 38 0 4,RL 39 38,f8 40 7 10,f6 41 y3 [39,40],RM 42 3,dI 43 .neq 41 42] [2,3,4,9,10,43] (.cond 43 (boG [dO 8 boD] [8] .ret) .skip)) (.seq (boG [dO 11 (ki 0)] [2,3,4,9,10,11] (.block 0 (.loop (.seq (boG [RM 44 11,RF 45 2 9,RL 46 45,f1 47 46,dI 48 .lss 44 47] [2,3,4,9,10,11,48] (.cond 48 .skip (.exit 0))) (.seq (.block 1 (boG [RF 51 2 4,RL 52 51,RM 53 2,e0 54 1 52 53,RL 55 54,RF 56 2 9,RL 57 56,RM 58 11,e0 59 3 57 58,RF 60 1 59,RL 61 60,e0 62 7 55 61,RF 63 0 62,RL 64 63,RF 65 0 10,RL 66 65,dI 67 .eql 64 66,RM 68 67,g9 69 2 9 68 true,hD 70 69 68 true,hG 71 11 68 true,j0 72 3 70 71 68 true,g9 73 2 72 68 true,hD 74 73 68 true,hG 75 3 68 true,hO 76 .neq 74 75 68 true,f3 77 68 76 boD] [2,3,4,9,10,11,77] (.cond 77 (boG [dO 8 boD] [8] .ret) .skip))) (m2 [RM 49 11,dI 50 .add 49 (ki 1),RM 11 50] [2,3,4,9,10,11])))))) (boG [dO 8 boE] [8] .ret)))))))
def bhU:List aW:=[.tm 8]
theorem biW:aO bNV Tryz.f210 (bnD bg5)=some (bg5,bhU):=by kernel_rfl
end Go.Proofs.YtlncecohbakleaaGreat
