/- Texts laid together by a program: rules, contracts and the walk that leads to the law. -/
import Derived.Test.YtegiblhkjfiooaaGreatPp3
import Derived.Test.YtegiblhkjfiooaaGreatPp6
set_option linter.unusedVariables false
set_option linter.unusedSimpArgs false
set_option linter.unusedSectionVars false
section
namespace Go.AM
open Go.RowKit
def aaS (e' e:Env):Prop:=∀t,e' t=e t∨e' t= .dead
theorem aaS.refl (e:Env):aaS e e:=fun _=>.inl rfl
theorem ER.le {c:Cf} {T:Nat} {e e':Env} {a:Act} (he:ER c T e a) (h:aaS e' e):ER c T e' a:=by
 refine⟨he.1,he.2.1,fun t=> ?_⟩
 rcases h t with h1|h1
 ·rw[h1];exact he.2.2 t
 ·rw[h1];exact trivial
section
variable {P : Program} {T : Nat} {e : Env} {H : aA} {nx : Nat} {Q : AQ}
theorem AWP.le {x:AC} {e':Env} (hE:aaS e' e) (h:AWP P T x e' H nx Q):AWP P T x e H nx Q:=
 fun code hc c a hs he hN=>h code hc c a hs (he.le hE) hN
theorem aM.le {x:AC} {zs:List AC} {e':Env} (hE:aaS e' e) (h:aM P T (x::zs) e' H nx Q):aM P T (x::zs) e H nx Q:=AWP.le hE h
theorem aB.ofH {f:FuncId} {fn:Func} {code:Code} {ac:AC} {rs:List aW} {cs cs':List Cert} {args:List D} {K:D→aA→Nat→Prop}
 (hok:qY P f=true) (hf:P.funcs[f]?=some fn) (hb:fn.body=some code) (hc:compile P fn.ntmps code cs=some (ac,cs')) (hr:AJ P fn.results.toList=some rs) (hl:args.length≤fn.ntmps)
 (h: ∀Q:AQ,(∀ex e' H' nx' d,ex= .normal∨ex= .ret→yT H' e' rs=some d→K d H' nx'→Q ex e' H' nx')→AWP P fn.ntmps ac (Env.args 0 args) H nx Q):aB P f args H nx K:=by
 refine⟨hok,fun c vs hs hN hlen hrel=> ?_⟩
 refine calls_of_wp hf hb ?_
 have hcm:=JA _ _ _ _ hc
 have her:ER c fn.ntmps (Env.args 0 args) {tmps:=vs.toArray++Array.replicate (fn.ntmps-vs.toArray.size) undef,defers:=[]}:=by
  refine⟨by simp;omega,rfl,fun t=> ?_⟩
  rw[Env.ML]
  simp only[Nat.zero_le,if_true,Nat.sub_zero]
  cases hd:args[t]? with
  |none=>exact trivial
  |some d=>
   have ht:t<vs.length:=by rw[hlen];exact(List.getElem?_eq_some_iff.1 hd).1
   have hv:(vs.toArray++Array.replicate (fn.ntmps-vs.toArray.size) undef).getD t undef=vs[t]:=by
    rw[Array.getD_eq_getD_getElem?,Array.getElem?_append]
    simp[ht]
   rw[hv]
   exact hrel t d _ hd (List.getElem?_eq_getElem ht)
 refine wp_mono (h _ (fun ex e' H' nx' d h1 h2 h4=>(⟨h1,d,h2,h4⟩:(ex= .normal∨ex= .ret)∧ ∃d,yT H' e' rs=some d∧K d H' nx')) code hcm c _ hs her hN) ?_
 rintro ex a w ⟨aex,e',H',nx',c',rfl,rfl,p1,p2,p3,p4,p5,p6,d,q1,q3⟩
 obtain⟨v,hv,hd⟩:=aa3 p1 p3 hr q1
 have hfin:a.defers=[]∧ ∃v,(results fn a.tmps).run P c'.w= .ok v c'.w∧ ∃v' c'' r H'' nx',Ending.returned v= .returned v'∧c''.w=c'.w∧St c'' H''∧Step c H c'' H''∧(∀i,c''.N i→c.N i∨(nx≤i∧i<nx'))∧nx≤nx'∧fD c'' r v'∧K r H'' nx':=
  ⟨p3.2.1,v,hv,v,c',d,H',nx',rfl,rfl,p1,p2,p4,p5,hd,q3⟩
 rcases p6 with rfl|rfl
 ·exact hfin
 ·exact hfin
def cJ (P:Program) (f:FuncId) (fn:Func) (ac:AC) (rs:List aW):Prop:=
 ∀{args:List D} {H:aA} {nx:Nat} {KK:D→aA→Nat→Prop} (_hl:Nat.ble args.length fn.ntmps=true)
  (_h: ∀Q:AQ,(∀ex e2 H2 nx2 d,ex= .normal∨ex= .ret→yT H2 e2 rs=some d→KK d H2 nx2→Q ex e2 H2 nx2)→aM P fn.ntmps [ac] (Env.args 0 args) H nx Q),aB P f args H nx KK
theorem cJ.mk {P:Program} {f:FuncId} {fn:Func} {ac:AC} {rs:List aW} {cs:List Cert}
 (hf:P.funcs[f]?=some fn) (hok:qY P f=true) (hc:aO P fn cs=some (ac,rs)):cJ P f fn ac rs:=by
 intro args H nx KK hl h
 unfold aO at hc
 split at hc
 ·rename_i b hb
  split at hc
  ·rename_i ac' cs' rs' h1 h2
   simp only[Option.some.injEq,Prod.mk.injEq] at hc
   obtain⟨rfl,rfl⟩:=hc
   exact aB.ofH hok hf hb h1 h2 (Nat.le_of_ble_eq_true hl) fun Q hQ=>(h Q hQ).run
  ·simp at hc
 ·simp at hc
end
def CvX (F:Nat→Prop) (nx:Nat) (H H':aA):Prop:=∀i o',H' i=some o'→¬F i∧ ∃o,H i=some o∧(o'=o∨CvO H F id nx o' o)
theorem MR {c:Cf} {nx:Nat} {I':Nat→Prop} (hI: ∀b,c.I b→I' b) (hN: ∀i,c.N i→i<nx) {d:D1} {x:Value} (h:Rel c d x):Rel (c.conv nx nx id I') d x:=by
 have h0: ∀d x,bY c d x→bY (c.conv nx nx id I') d x:=by
  intro d x h
  cases d<;>simp only[bY] at h ⊢ <;>first
   |exact h.wT hI (fun _ _=>rfl)
   |exact⟨h.1,h.2.imp (fun h=>h) fun⟨h1,h2,h3⟩=>⟨h1,.inl ⟨hN _ h2,h2⟩,h3⟩⟩
   |exact⟨.inl ⟨hN _ h.1,h.1⟩,h.2⟩
   |exact h
 cases d with
 |clo f caps=>obtain⟨vs,hx,hl,hf⟩:=h;exact⟨vs,hx,hl,fun i d u h1 h2=>h0 _ _ (hf i d u h1 h2)⟩
 |_=>simp only[Rel] at h ⊢;exact h0 _ _ h
theorem ac6 {c:Cf} {nx:Nat} {I':Nat→Prop} (hI: ∀b,c.I b→I' b) (hN: ∀i,c.N i→i<nx) {d:D} {x:Value} (h:fD c d x):fD (c.conv nx nx id I') d x:=by
 have hV: ∀d x,jZ c d x→jZ (c.conv nx nx id I') d x:=by
  intro d x h
  cases d with
  |c d=>exact MR hI hN h
  |agg cs=>obtain⟨vs,hx,hl,hf⟩:=h;exact⟨vs,hx,hl,fun i d u h1 h2=>MR hI hN (hf i d u h1 h2)⟩
 cases d with
 |one d=>exact hV d x h
 |tup ds=>obtain⟨vs,hx,hl,hf⟩:=h;exact⟨vs,hx,hl,fun i d u h1 h2=>hV d u (hf i d u h1 h2)⟩
 |dead=>trivial
theorem YO {c c0:Cf} {H H0 H':aA} {F:Nat→Prop} {nx:Nat} (hs:St c H) (hstep:Step c0 H0 c H) (hN: ∀i,c.N i→i<nx) (hH:CvX F nx H H'):
 St (c.conv nx nx id (c.frI H F)) H'∧Step c0 H0 (c.conv nx nx id (c.frI H F)) H':=by
 have hO: ∀{i:Nat} {o':bA},H' i=some o'→¬F i∧ ∃o,H i=some o∧o'.n=o.n∧o'.ext=o.ext∧o'.rows.length≤o.rows.length∧(o.n=0→o'.rows=[]→o.rows=[]):=by
  intro i o' h
  obtain⟨h1,o,h2,rfl|h3⟩:=hH i o' h
  ·exact⟨h1,_,h2,rfl,rfl,Nat.le_refl _,fun _ h=>h⟩
  ·exact⟨h1,o,h2,h3.1,h3.2.1,h3.2.2.1,h3.2.2.2.1⟩
 refine⟨?_,?_⟩
 ·refine {named:= ?_,wf:= ?_,blk:= ?_,cells:= ?_,sep:= ?_,imm:= ?_,old:= ?_}
  ·intro id o' h
   obtain⟨_,o,h2,_⟩:=hO h
   exact .inl ⟨hN _ (hs.named _ o h2),hs.named _ o h2⟩
  ·intro id o' h
   obtain⟨_,o,h2,rfl|⟨h3,h4,h5,_,h6⟩⟩:=hH id o' h
   ·exact hs.wf _ _ h2
   ·obtain⟨k1,k2⟩:=hs.wf _ o h2
    refine⟨by omega,fun i r hr=> ?_⟩
    obtain⟨r0,h7,h8⟩:=h6 i r hr
    rw[h8.1,k2 i r0 h7,h3]
  ·intro id o' h he
   obtain⟨_,o,h2,h3,h4,h5,h7⟩:=hO h
   exact(hs.blk _ o h2 (by omega)).arW h3 h4 fun h0=>⟨h7 h0,fun hr=>by rw[hr] at h5;exact List.length_eq_zero_iff.1 (by simpa using h5)⟩
  ·intro id o' i j r d h h1 h2
   obtain⟨_,o,k2,rfl|⟨k3,k4,k5,_,k6⟩⟩:=hH id o' h
   ·obtain⟨u,k9,k10⟩:=hs.cells _ _ i j r d k2 h1 h2
    exact⟨u,k9,MR (fun b h=>.inl h) hN k10⟩
   ·obtain⟨r0,k7,k8⟩:=k6 i r h1
    have hj:j<r0.length:=by rw[←k8.1];exact(List.getElem?_eq_some_iff.1 h2).1
    obtain⟨u,k9,k10⟩:=hs.cells _ o i j r0 _ k2 k7 (List.getElem?_eq_getElem hj)
    refine⟨u,by rw[k3];exact k9,?_⟩
    exact PM hs (fun b h=>.inl h) (fun id o h1 h2 h3=>.inr ⟨id,o,h1,h2,h3,rfl⟩) (fun _ _=>rfl) (k8.2 j d _ h2 (List.getElem?_eq_getElem hj)) k10
  ·intro i j o o' hi hj he he' hne
   obtain⟨_,o1,k2,k3,k4,_⟩:=hO hi
   obtain⟨_,o2,k6,k7,k8,_⟩:=hO hj
   exact hs.sep i j o1 o2 k2 k6 (by omega) (by omega) hne
  ·intro i o' h he
   obtain⟨hnF,o,h2,h3,h4,_⟩:=hO h
   rintro(hI|⟨id2,o2,k1,k2,k3,k4⟩)
   ·exact hs.imm _ o h2 (by omega) hI
   ·have hne:id2≠i:=by rintro rfl;exact hnF k1
    exact hs.sep id2 i o2 o k2 h2 k3 (by omega) hne k4
  ·rintro b (hI|⟨id2,o2,k1,k2,k3,rfl⟩)
   ·exact hs.old b hI
   ·exact(hs.blk id2 o2 k2 k3).lt
 ·exact {
   ρ:=fun i hid=>hstep.ρ i hid
   N:=fun i hid=>.inl ⟨hN i (hstep.N i hid),hstep.N i hid⟩
   I:=fun b hb=>.inl (hstep.I b hb)
   I':=by
    rintro b (hI|⟨id2,o2,k1,k2,k3,rfl⟩)
    ·exact hstep.I' b hI
    ·exact .inr (hstep.own _ ⟨id2,o2,k2,k3,rfl⟩)
   size:=hstep.size
   os:=hstep.os
   tape:=hstep.tape
   output:=hstep.output
   frame:=hstep.frame
   own:=by
    rintro b ⟨id,o',h,he,hb⟩
    obtain⟨_,o,h2,h3,h4,_⟩:=hO h
    exact hstep.own b ⟨id,o,h2,by omega,hb⟩}
theorem aK {nx:Nat} {H:aA}:CvX noF nx H H:=fun _ o h=>⟨fun h=>h,o,h,.inl rfl⟩
theorem aM.gP {P:Program} {T:Nat} {e:Env} {H:aA} {nx:Nat} {Q:AQ} {x:AC} {zs:List AC} {β:Type} (E:β→Env) (Φ:β→aA→Nat→Prop) (μ:β→Nat) (b0:β) (h0: ∃F H1,CvE H F id nx (E b0) e∧CvX F nx H H1∧Φ b0 H1 nx)
 (h: ∀b H1 nx1,nx≤nx1→Φ b H1 nx1→∀K:Env→aA→Nat→Prop,(∀e' H' nx' b' F H2,nx1≤nx'→μ b'<μ b→CvE H' F id nx' (E b') e'→CvX F nx' H' H2→Φ b' H2 nx'→K e' H' nx')→aM P T [x] (E b) H1 nx1 (AQ.then K Q)):aM P T (.loop x::zs) e H nx Q:=by
 intro code hc c a hs he hN
 obtain⟨F0,H0,g1,g2,g3⟩:=h0
 have hc0: ∀{c1:Cf} {H1 H2:aA} {nx1:Nat} {F:Nat→Prop} {e1 e2:Env} {a:Act},St c1 H1→Step c H c1 H1→(∀i,c1.N i→i<nx1)→ER c1 T e1 a→CvE H1 F id nx1 e2 e1→CvX F nx1 H1 H2→
  ∃c2:Cf,c2.w=c1.w∧St c2 H2∧Step c H c2 H2∧ER c2 T e2 a∧ ∀i,c2.N i→c1.N i:=by
  intro c1 H1 H2 nx1 F e1 e2 a k1 k2 k3 k4 k5 k6
  obtain⟨q1,q2⟩:=YO k1 k2 k3 k6
  refine⟨c1.conv nx1 nx1 id (c1.frI H1 F),rfl,q1,q2,⟨k4.1,k4.2.1,fun t=>zD k1 (fun b h=>.inl h) (fun id o h1 h2 h3=>.inr ⟨id,o,h1,h2,h3,rfl⟩) (fun _ _=>rfl) (k5 t) (k4.2.2 t)⟩,fun i hi=> ?_⟩
  rcases hi with⟨_,hi⟩|⟨h1,h2,h3⟩
  ·exact hi
  ·omega
 cases hc with
 |loop h1=>
  obtain⟨c1,r1,r2,r3,r4,r5⟩:=hc0 hs (Step.refl c H) hN he g1 g2
  refine wp_loop_ghost (fun n a w=>∃b c1 H1 nx1,μ b=n∧c1.w=w∧St c1 H1∧ER c1 T (E b) a∧Step c H c1 H1∧(∀i,c1.N i→c.N i∨(nx≤i∧i<nx1))∧nx≤nx1∧Φ b H1 nx1) (μ b0) ⟨b0,c1,H0,nx,rfl,r1,r2,r4,r3,fun i hi=>.inl (r5 i hi),Nat.le_refl _,g3⟩ ?_
  rintro n a w ⟨b,c1,H1,nx1,rfl,rfl,j1,j2,j3,j4,j5,j6⟩
  refine wp_mono (h b H1 nx1 j5 j6 (fun e' H' nx'=>∃b' F H2,nx1≤nx'∧μ b'<μ b∧CvE H' F id nx' (E b') e'∧CvX F nx' H' H2∧Φ b' H2 nx') (fun _ _ _ b' F H2 h1 h2 h3 h4 h5=>⟨b',F,H2,h1,h2,h3,h4,h5⟩) _ h1 c1 a j1 j2 fun i hi=> ?_) fun ex a' w' ⟨aex,e',H',nx',c',hp⟩=> ?_
  ·rcases j4 i hi with h|h
   ·have:=hN i h;omega
   ·omega
  ·obtain⟨rfl,rfl,p1,p2,p3,p4,p5,p6⟩:=hp
   have hNc: ∀i,c'.N i→c.N i∨(nx≤i∧i<nx'):=by
    intro i hi
    rcases p4 i hi with h|h
    ·rcases j4 i h with h|h
     ·exact .inl h
     ·exact .inr ⟨h.1,by omega⟩
    ·exact .inr ⟨by omega,h.2⟩
   cases aex with
   |normal=>
    obtain⟨b',F,H2,q1,q2,q3,q4,q5⟩:=p6
    obtain⟨c2,s1,s2,s3,s4,s5⟩:=hc0 p1 (j3.trans p2) (fun i hi=>by rcases hNc i hi with h|h;have:=hN i h;omega;exact h.2) p3 q3 q4
    exact⟨μ b',q2,b',c2,H2,nx',rfl,s1,s2,s4,s3,fun i hi=>hNc i (s5 i hi),by omega,q5⟩
   |exit id=>exact⟨.exit id,e',H',nx',c',rfl,rfl,p1,j3.trans p2,p3,hNc,by omega,p6⟩
   |ret=>exact⟨.ret,e',H',nx',c',rfl,rfl,p1,j3.trans p2,p3,hNc,by omega,p6⟩
theorem aB.tW {P:Program} {f:FuncId} {args:List D} {H:aA} {nx:Nat} {K:D→aA→Nat→Prop}
 (h:aB P f args H nx fun r H' n'=>∃r2 H2 F,CvD H' F id n' r2 r∧CvX F n' H' H2∧K r2 H2 n'):aB P f args H nx K:=by
 refine⟨h.1,fun c vs hs hN hl hr=> ?_⟩
 refine(h.2 c vs hs hN hl hr).mono ?_
 rintro x w' ⟨v,c2,r,H2,n2,rfl,rfl,p1,p2,p3,p4,p5,r2,H3,F,q1,q2,q3⟩
 have hN2: ∀i,c2.N i→i<n2:=fun i hi=>by
  rcases p3 i hi with h|h
  ·have:=hN i h;omega
  ·exact h.2
 obtain⟨k1,k2⟩:=YO p1 p2 hN2 q2
 refine⟨v,c2.conv n2 n2 id (c2.frI H2 F),r2,H3,n2,rfl,rfl,k1,k2,fun i hi=> ?_,p4,zD p1 (fun b h=>.inl h) (fun id o h1 h2 h3=>.inr ⟨id,o,h1,h2,h3,rfl⟩) (fun _ _=>rfl) q1 p5,q3⟩
 rcases hi with⟨_,hi⟩|⟨h1,h2,h3⟩
 ·exact p3 i hi
 ·omega
section
variable {P : Program} {T : Nat} {e : Env} {H : aA} {nx : Nat} {Q : AQ}
theorem AWP.tW {x:AC} (e':Env) (H':aA) (F:Nat→Prop) (hE: ∀t,e' t=e t∨CvD H F id nx (e' t) (e t)) (hH:CvX F nx H H') (h:AWP P T x e' H' nx Q):AWP P T x e H nx Q:=by
 intro code hc c a hs he hN
 obtain⟨k1,k2⟩:=YO hs (Step.refl c H) hN hH
 refine wp_mono (h code hc (c.conv nx nx id (c.frI H F)) a k1 ⟨he.1,he.2.1,fun t=> ?_⟩ fun i hi=> ?_) ?_
 ·rcases hE t with h1|h1
  ·rw[h1]
   exact ac6 (fun b h=>.inl h) hN (he.2.2 t)
  ·exact zD hs (fun b h=>.inl h) (fun id o h1 h2 h3=>.inr ⟨id,o,h1,h2,h3,rfl⟩) (fun _ _=>rfl) h1 (he.2.2 t)
 ·rcases hi with⟨_,hi⟩|⟨h1,h2,h3⟩
  ·exact hN i hi
  ·omega
 ·rintro ex a w ⟨aex,e',H',nx',c',rfl,rfl,p1,p2,p3,p4,p5,p6⟩
  refine⟨aex,e',H',nx',c',rfl,rfl,p1,k2.trans p2,p3,fun i hi=> ?_,p5,p6⟩
  rcases p4 i hi with h|h
  ·rcases h with⟨_,hi⟩|⟨h1,h2,h3⟩
   ·exact .inl hi
   ·omega
  ·exact .inr h
theorem aM.tW {x:AC} {zs:List AC} (e':Env) (H':aA) (F:Nat→Prop) (hE: ∀t,e' t=e t∨CvD H F id nx (e' t) (e t)) (hH:CvX F nx H H') (h:aM P T (x::zs) e' H' nx Q):aM P T (x::zs) e H nx Q:=AWP.tW e' H' F hE hH h
theorem AWP.BW {x:AC} (h:(∀i,nx≤i→H i=none)→AWP P T x e H nx Q):AWP P T x e H nx Q:=
 fun code hc c a hs he hN=>h (fun i hi=>by
  cases ho:H i with
  |none=>rfl
  |some o=>have:=hN i (hs.named i o ho);omega) code hc c a hs he hN
theorem aM.BW {x:AC} {zs:List AC} (h:(∀i,nx≤i→H i=none)→aM P T (x::zs) e H nx Q):aM P T (x::zs) e H nx Q:=AWP.BW h
theorem BV {b:Nat} {l:List Nat} {H:aA} (h: ∀i,nx≤i→H i=none) (hb:nx≤b):msk b l H=H:=by
 funext i
 simp only[msk]
 split
 ·rename_i hi
  obtain⟨j,_,rfl⟩:=List.mem_map.1 hi
  exact(h _ (by omega)).symm
 ·rfl
theorem umS {b i:Nat} {l:List Nat} {H G:aA} {o:bA}:dT b l (H.set i o) G=if i∈l.map (b+ ·) then (dT b l H G).set i o else dT b l H G:=by
 split
 ·rename_i h
  funext j;simp only[dT,aA.set]
  by_cases hj:j=i
  ·subst hj;simp only[h,if_true]
  ·simp only[hj,if_false]
 ·rename_i h
  funext j;simp only[dT,aA.set]
  by_cases hj:j=i
  ·subst hj;simp only[h,if_false]
  ·simp only[hj,if_false]
theorem umD {b i:Nat} {l:List Nat} {H G:aA}:dT b l (H.del i) G=if i∈l.map (b+ ·) then (dT b l H G).del i else dT b l H G:=by
 split
 ·rename_i h
  funext j;simp only[dT,aA.del]
  by_cases hj:j=i
  ·subst hj;simp only[h,if_true]
  ·simp only[hj,if_false]
 ·rename_i h
  funext j;simp only[dT,aA.del]
  by_cases hj:j=i
  ·subst hj;simp only[h,if_false]
  ·simp only[hj,if_false]
theorem umB {b:Nat} {l:List Nat} {G:aA}:dT b l G G=G:=by
 funext j;simp only[dT];split<;>rfl
end
end Go.AM
end
section
namespace Go.AM
end Go.AM
end
section
namespace Go.AM
structure Sam (k:Int) (s s':TSt):Prop where
 asked:s'.asked.getD k.toNat default=s.asked.getD k.toNat default
 wait: ∀n,(k,n)∈s'.wait.map key↔(k,n)∈s.wait.map key
 done: ∀n,(k,n)∈s'.done.map key↔(k,n)∈s.done.map key
theorem Sam.refl {k:Int} {s:TSt}:Sam k s s:=⟨rfl,fun _=>.rfl,fun _=>.rfl⟩
theorem Sam.symm {k:Int} {s s':TSt} (h:Sam k s s'):Sam k s' s:=⟨h.asked.symm,fun n=>(h.wait n).symm,fun n=>(h.done n).symm⟩
theorem Sam.trans {k:Int} {s s' s2:TSt} (h:Sam k s s') (h2:Sam k s' s2):Sam k s s2:=⟨h2.asked.trans h.asked,fun n=>(h2.wait n).trans (h.wait n),fun n=>(h2.done n).trans (h.done n)⟩
end Go.AM
end
section
namespace Go.AM
end Go.AM
end
section
namespace Go.AM
def kP (q:Req):List Int:=bE q.addr q.many q.wrap
def brM (m:List Rng) (h:List Int) (who:Int) (q:Req):Nat:=
 if bV m (kP q)<0 then 0 else
 if wrM q=true∧(m.getD (bV m (kP q)).toNat default).only=true then 1 else
 if q.kind=1 then 2 else
 if q.kind=3 then 3 else
 if q.kind=4∧ ¬h.getD (who*2+q.id).toNat default=q.addr then 4 else 5
def aAK (br:Nat) (q:Req) (w:List Int):List Int:=if br=5 then FV w (kP q) q.data q.lanes (kP q).length else w
def hB (br:Nat) (who:Int) (q:Req) (h:List Int):List Int:=if br=5 then iU h (kP q) else if br=3 then h.set (who*2+q.id).toNat q.addr else h
def aAL (br:Nat) (q:Req) (w:List Int):Rsp:=
 if br=0 then ⟨q.id,4,[]⟩ else if br=1 then ⟨q.id,3,[]⟩ else
 if br=2 then ⟨q.id,1,(kP q).map fun a=>w.getD a.toNat default⟩ else
 if br=3 then ⟨q.id,2,(kP q).map fun a=>w.getD a.toNat default⟩ else
 if br=4 then ⟨q.id,1,[]⟩ else ⟨q.id,if q.kind=4 then 2 else 1,[]⟩
theorem X1 {m:List Rng} {w h:List Int} {who:Int} {q:Req}:doM m w h who q=((aAK (brM m h who q) q w,hB (brM m h who q) who q h),aAL (brM m h who q) q w):=by
 unfold doM brM aAK hB aAL kP
 split
 ·simp
 split
 ·simp
 split
 ·simp
 split
 ·simp
 split
 ·simp
 ·simp
theorem V5 {l:List Int} {k:Nat} (h:k<l.length):l.getD k default∈l:=by simp[List.getD,h]
theorem ZD {w all data lanes:List Int} {i:Nat}: ∀k,(∀j,j<k→(all.getD j default).toNat≠i)→(FV w all data lanes k).getD i default=w.getD i default
 |0,_=>rfl
 |k+1,h=>by
  simp only[FV]
  rw[List.getD_eq_getElem?_getD,List.getElem?_set_ne (h k (by omega)),←List.getD_eq_getElem?_getD]
  exact ZD k fun j hj=>h j (by omega)
theorem G7 {w w' all data lanes:List Int} (hl:w.length=w'.length) {i:Nat} (hi:w.getD i default=w'.getD i default) (hall: ∀a∈all,w.getD a.toNat default=w'.getD a.toNat default): ∀k,k≤all.length→(FV w all data lanes k).getD i default=(FV w' all data lanes k).getD i default
 |0,_=>hi
 |k+1,hk=>by
  have hk1:all.getD k default∈all:=V5 (by omega)
  have h1:=G7 (data:=data) (lanes:=lanes) hl hi hall k (by omega)
  have h2:=G7 (data:=data) (lanes:=lanes) hl (hall _ hk1) hall k (by omega)
  simp only[FV]
  rw[h2]
  by_cases he:(all.getD k default).toNat=i
  ·subst he
   have l1:=AX (w:=w) (all:=all) (data:=data) (lanes:=lanes) k
   have l2:=AX (w:=w') (all:=all) (data:=data) (lanes:=lanes) k
   simp[List.getD,List.getElem?_set,l1,l2,hl]
  ·rw[List.getD_eq_getElem?_getD,List.getElem?_set_ne he,←List.getD_eq_getElem?_getD,List.getD_eq_getElem?_getD (l:=List.set _ _ _),List.getElem?_set_ne he,←List.getD_eq_getElem?_getD]
   exact h1
def u9 (a b:Req):Prop:=∀x∈kP a,x∉kP b
theorem u9.symm {a b:Req} (h:u9 a b):u9 b a:=fun x hx hy=>h x hy hx
theorem CO {q:Req}: ∀a∈kP q,0≤a∧a≤63:=V1
theorem NJ {br:Nat} {b:Req} {w:List Int} {x:Int} (hx:0≤x) (h:x∉kP b):(aAK br b w).getD x.toNat default=w.getD x.toNat default:=by
 unfold aAK
 split
 ·refine ZD _ fun j hj he=>h ?_
  have h1:=V5 hj
  have h2:=CO _ h1
  have:(kP b).getD j default=x:=by omega
  rw[←this];exact h1
 ·rfl
theorem B0 {h all:List Int} {i:Nat} (hi:i<h.length):(iU h all).getD i default=if h.getD i default∈all then-1 else h.getD i default:=by
 simp[iU,List.getD,hi]
theorem EU {q:Req} (h:dH q) (hk:q.kind=3∨q.kind=4):q.addr∈kP q:=by
 obtain⟨_,_,h3,_,_,_,_,h8⟩:=h
 have hm:q.many=1:=by omega
 unfold kP bE
 rw[if_pos h3,hm]
 simp[bAt,Int.emod_one]
theorem PX {m:List Rng} {h:List Int} {who:Int} {q:Req} (h3:brM m h who q=3):q.kind=3:=by
 unfold brM at h3
 split at h3
 ·cases h3
 split at h3
 ·cases h3
 split at h3
 ·cases h3
 split at h3
 ·assumption
 split at h3<;>cases h3
def ajR (c:Cfg) (a b:Ev):Prop:=a.who≠b.who∧ ¬(a.kind=3∧b.kind=3)∧(a.kind=2→b.kind=2→u9 (bT c a.who a.n) (bT c b.who b.n))
instance {a b:Req}:Decidable (u9 a b):=by unfold u9;infer_instance
instance {c:Cfg} {a b:Ev}:Decidable (ajR c a b):=by unfold ajR;infer_instance
theorem SD: ∀{l l':List Job},kW l→kW l'→(∀x,x∈l↔x∈l')→l=l'
 | [],[],_,_,_=>rfl
 | [],y::l',_,_,hm=>by have:=(hm y).2 (by simp);cases this
 |x::l,[],_,_,hm=>by have:=(hm x).1 (by simp);cases this
 |x::l,y::l',h,h',hm=>by
  have irr: ∀z:Job,uL z z=false:=fun z=>by simp[uL]
  obtain⟨h1,h2⟩:=List.pairwise_cons.1 h
  obtain⟨h3,h4⟩:=List.pairwise_cons.1 h'
  have hxy:x=y:=by
   rcases List.mem_cons.1 ((hm x).1 (by simp)) with hx|hx
   ·exact hx
   ·rcases List.mem_cons.1 ((hm y).2 (by simp)) with hy|hy
    ·exact hy.symm
    ·have b1:=h3 x hx
     have b2:=h1 y hy
     rw[qL] at b1 b2
     omega
  subst hxy
  congr 1
  refine SD h2 h4 fun z=>⟨fun hz=> ?_,fun hz=> ?_⟩
  ·rcases List.mem_cons.1 ((hm z).1 (by simp[hz])) with he|he
   ·subst he;have:=h1 z hz;rw[irr] at this;cases this
   ·exact he
  ·rcases List.mem_cons.1 ((hm z).2 (by simp[hz])) with he|he
   ·subst he;have:=h3 z hz;rw[irr] at this;cases this
   ·exact he
end Go.AM
end
section
namespace Go.AM
theorem wW {c:Cfg} {s:TSt} {e:Ev} {l:List Ev}:runM c s (e::l)=runM c (lS c s e) l:=rfl
theorem ZL {c:Cfg} {s:TSt} {a b:List Ev}:runM c s (a++b)=runM c (runM c s a) b:=by simp[runM]
theorem xB {c:Cfg} {s:TSt} {e:Ev} {l:List Ev}:F9 c s (e::l)↔X6 c s e=0∧F9 c (lS c s e) l:=by
 constructor
 ·intro h
  refine⟨h 0 (by simp),fun k hk=> ?_⟩
  have:=h (k+1) (by simpa using hk)
  rwa [List.take_succ_cons,wW,List.getD_cons_succ] at this
 ·rintro⟨h1,h2⟩ k hk
  match k with
  |0=>exact h1
  |k+1=>
   rw[List.take_succ_cons,wW,List.getD_cons_succ]
   exact h2 k (by simpa using hk)
theorem WS {c:Cfg} {s:TSt} {a b:List Ev}:F9 c s (a++b)↔F9 c s a∧F9 c (runM c s a) b:=by
 induction a generalizing s with
 |nil=>simp[runM,pV]
 |cons e a ih=>rw[List.cons_append,xB,xB,ih,wW,and_assoc]
end Go.AM
end
section
namespace Go.AM
end Go.AM
end
section
namespace Go.AM
def as5 (c:Cfg) (j:Job):Prop:=pA j.rsp∧j.rsp.id=(bT c j.who j.n).id
theorem zG {l:List Job} (h:kW l):(l.map key).Nodup:=by
 refine List.pairwise_map.2 (h.imp ?_)
 intro a b hab he
 rw[qL] at hab
 simp only[key,Prod.mk.injEq] at he
 omega
theorem ZP {l:List Job} {who n:Int}:0≤bK (iM who n) l↔(who,n)∈l.map key:=by
 rw[cH,List.mem_map]
 refine⟨fun⟨x,hx,h⟩=>⟨x,hx,?_⟩,fun⟨x,hx,h⟩=>⟨x,hx,?_⟩⟩
 ·have:=of_decide_eq_true h;simp[key,this.1,this.2]
 ·simp only[key,Prod.mk.injEq] at h;exact decide_eq_true h
theorem BA.apart {c:Cfg} {s:TSt} (h:BA c s):(s.told.map key).Nodup∧(∀j∈s.told,key j∉s.wait.map key∧key j∉s.done.map key)∧(∀j∈s.done,key j∉s.wait.map key):=by
 have hn:=h.nodup
 unfold keys at hn
 rw[List.map_append,List.map_append,List.nodup_append,List.nodup_append] at hn
 obtain⟨⟨h1,h2,h3⟩,h4,h5⟩:=hn
 refine⟨h4,fun j hj=>⟨fun hm=> ?_,fun hm=> ?_⟩,fun j hj hm=> ?_⟩
 ·exact h5 _ (List.mem_append_left _ hm) _ (List.mem_map_of_mem hj) rfl
 ·exact h5 _ (List.mem_append_right _ hm) _ (List.mem_map_of_mem hj) rfl
 ·exact h3 _ hm _ (List.mem_map_of_mem hj) rfl
theorem aEA {l:List Int} {lo up:Int} (h: ∀i,i<l.length→lo≤l.getD i default∧l.getD i default≤up):All l lo up:=fun x hx=>by
 obtain⟨i,hi,rfl⟩:=List.mem_iff_getElem.1 hx
 simpa [List.getD,hi] using h i hi
theorem aj1 {l:List Int} {lo up:Int} (h:All l lo up) {i:Nat} (hi:i<l.length):lo≤l.getD i default∧l.getD i default≤up:=h _ (by simp[List.getD,hi])
end Go.AM
end
section
namespace Go.AM
structure fC where
 who:Int
 n:Int
 left:Int
 deriving Inhabited,DecidableEq
structure fR where
 next:Int
 queue:List Int
 out:List fC
 last:Int
 deriving Inhabited,DecidableEq
structure nY where
 pipe:List fC
 done:List Job
 last:Int
 deriving Inhabited,DecidableEq
structure CSt where
 words:List Int
 holds:List Int
 bM:List fR
 dD:List nY
 told:List Job
 deriving Inhabited,DecidableEq
structure CIn where
 ready:List Bool
 n9:List Bool
 send:List Bool
 deriving Inhabited,DecidableEq
def gZ (m:List Rng) (q:Req):Int:=if bV m (bE q.addr q.many q.wrap)<0 then 3 else (m.getD (bV m (bE q.addr q.many q.wrap)).toNat default).K5
def aF (s:CSt) (k:Nat):fR:=s.bM.getD k default
def aL (s:CSt) (k:Nat):nY:=s.dD.getD k default
def jX (l:List Job):List Job:=l.foldl BM []
def jJ (s:CSt) (k:Nat):List Job:=(aF s k).queue.map fun n=>⟨k,n,oW⟩
def hJ (s:CSt) (k:Nat):List Job:=(aL s k).pipe.map fun j=>⟨j.who,j.n,oW⟩
def qU (s:CSt):List Job:=(List.range s.bM.length).flatMap (jJ s)++(List.range s.dD.length).flatMap (hJ s)
def uQ (s:CSt):List Job:=(List.range s.dD.length).flatMap fun k=>(aL s k).done
def cX (s:CSt):TSt:=⟨s.words,s.holds,s.bM.map (·.next),jX (qU s),jX (uQ s),s.told⟩
def B3 {α:Type} (l:List α) (k:Nat):List α:=l.take k++l.drop (k+1)
def isC (n:Int) (j:fC):Bool:=decide (j.n=n)
def PE (l:List fC) (n:Int):List fC:=B3 l (bK (isC n) l).toNat
inductive Mic where
 |tell (who st:Nat)
 |tick (st:Nat)
 |work (st:Nat)
 |adm (who st:Nat)
 |ask (who:Nat)
def HV (c:Cfg) (s:CSt) (who st:Nat):Prop:=0<(aF s who).queue.length∧(aF s who).out.length<4∧gZ c.map (bT c who ((aF s who).queue.getD 0 default))=st∧
 ∀j∈(aF s who).out,(bT c who j.n).id=(bT c who ((aF s who).queue.getD 0 default)).id→j.left=st
instance {c:Cfg} {s:CSt} {who st:Nat}:Decidable (HV c s who st):=by unfold HV;infer_instance
def EH (c:Cfg) (s:CSt):Mic→Prop
 | .tell who st=>who<3∧st<4∧0<(aL s st).done.length∧((aL s st).done.getD 0 default).who=who
 | .tick st=>st<4∧0<(aL s st).pipe.length∧0<((aL s st).pipe.getD 0 default).left
 | .work st=>st<4∧0<(aL s st).pipe.length∧ ¬0<((aL s st).pipe.getD 0 default).left∧(aL s st).done.length<2
 | .adm who st=>who<3∧st<4∧(aL s st).pipe.length<2∧HV c s who st
 | .ask who=>who<3∧(aF s who).queue.length<2∧(aF s who).next<(c.cP.getD who default).length
def iF (s:CSt) (st:Nat):Job:=(aL s st).done.getD 0 default
def bI (s:CSt) (st:Nat):fC:=(aL s st).pipe.getD 0 default
def jD (c:Cfg) (s:CSt) (st:Nat):(List Int×List Int)×Rsp:=doM c.map s.words s.holds (bI s st).who (bT c (bI s st).who (bI s st).n)
def aR (c:Cfg) (s:CSt):Mic→CSt
 | .tell who st=>{s with told:=s.told++[iF s st],dD:=s.dD.set st {aL s st with done:=(aL s st).done.drop 1},bM:=s.bM.set who {aF s who with out:=PE (aF s who).out (iF s st).n,last:=st}}
 | .tick st=>{s with dD:=s.dD.set st {aL s st with pipe:=(aL s st).pipe.set 0 {bI s st with left:=(bI s st).left-1}}}
 | .work st=>{s with words:=(jD c s st).1.1,holds:=(jD c s st).1.2,dD:=s.dD.set st {aL s st with pipe:=(aL s st).pipe.drop 1,done:=(aL s st).done++[⟨(bI s st).who,(bI s st).n,(jD c s st).2⟩]}}
 | .adm who st=>{s with bM:=s.bM.set who {aF s who with queue:=(aF s who).queue.drop 1,out:=(aF s who).out++[⟨who,(aF s who).queue.getD 0 default,st⟩]},dD:=s.dD.set st {aL s st with pipe:=(aL s st).pipe++[⟨who,(aF s who).queue.getD 0 default,c.lat.getD st default⟩],last:=who}}
 | .ask who=>{s with bM:=s.bM.set who {aF s who with queue:=(aF s who).queue++[(aF s who).next],next:=(aF s who).next+1}}
def y0 (s:CSt):Mic→List Ev
 | .tell who st=>[⟨3,who,(iF s st).n⟩]
 | .work st=>[⟨2,(bI s st).who,(bI s st).n⟩]
 | .ask who=>[⟨1,who,(aF s who).next⟩]
 |_=>[]
theorem fH (l:List Job):(jX l).Perm l:=by
 have h: ∀(l acc:List Job),(l.foldl BM acc).Perm (acc++l):=by
  intro l
  induction l with
  |nil=>intro acc;simp
  |cons x l ih=>
   intro acc
   simp only[List.foldl_cons]
   refine(ih _).trans ?_
   refine((nE acc x).append_right l).trans ?_
   simpa using List.perm_middle.symm
 simpa [jX] using h l []
theorem J9 {l:List Job} (hn:(l.map key).Nodup):kW (jX l):=by
 have h: ∀(l acc:List Job),kW acc→((acc++l).map key).Nodup→kW (l.foldl BM acc):=by
  intro l
  induction l with
  |nil=>intro acc hs _;exact hs
  |cons x l ih=>
   intro acc hs hn
   simp only[List.foldl_cons]
   have hp:(BM acc x++l).Perm (acc++x::l):=((nE acc x).append_right l).trans (by simpa using List.perm_middle.symm)
   refine ih _ (FW hs fun hm=> ?_) ((hp.map key).nodup_iff.2 hn)
   rw[List.map_append,List.nodup_append] at hn
   exact hn.2.2 _ hm (key x) (by simp) rfl
 exact h l [] List.Pairwise.nil (by simpa using hn)
theorem GN {l l':List Job} (hs:kW l') (hp:l.Perm l'):jX l=l':=
 SD (J9 ((hp.map key).nodup_iff.2 (zG hs))) hs fun x=>((fH l).trans hp).mem_iff
theorem aoD {β:Type} {n k:Nat} (hk:k<n): ∃a b:List Nat,List.range n=a++k::b∧ ∀f g:Nat→List β,(∀i,i≠k→f i=g i)→a.flatMap f=a.flatMap g∧b.flatMap f=b.flatMap g:=by
 obtain⟨a,b,h⟩:=List.append_of_mem (List.mem_range.2 hk)
 have hn:(List.range n).Nodup:=List.nodup_range
 rw[h,List.nodup_append] at hn
 obtain⟨h1,h2,h3⟩:=hn
 refine⟨a,b,h,fun f g hfg=>⟨?_,?_⟩⟩
 ·simp only[List.flatMap_def]
  congr 1
  exact List.map_congr_left fun i hi=>hfg i fun he=>h3 i hi k (by simp) he
 ·simp only[List.flatMap_def]
  congr 1
  exact List.map_congr_left fun i hi=>hfg i fun he=>(List.nodup_cons.1 h2).1 (he▸hi)
theorem tE {β:Type} [DecidableEq β] {n k:Nat} (hk:k<n) {f g:Nat→List β} (hfg: ∀i,i≠k→f i=g i) (z:β):((List.range n).flatMap f).count z+(g k).count z=((List.range n).flatMap g).count z+(f k).count z:=by
 obtain⟨a,b,h1,h2⟩:=aoD (β:=β) hk
 obtain⟨h3,h4⟩:=h2 f g hfg
 rw[h1]
 simp only[List.flatMap_append,List.flatMap_cons,List.count_append]
 rw[h3,h4]
 omega
end Go.AM
end
section
namespace Go.AM
theorem pY {α:Type} [Inhabited α] {l:List α} {k i:Nat} {x:α} (hk:k<l.length):(l.set k x).getD i default=if i=k then x else l.getD i default:=by
 simp only[List.getD,List.getElem?_set]
 by_cases h:k=i
 ·subst h;simp[hk]
 ·simp[h,Ne.symm h,eq_comm]
structure mD (c:Cfg) (who:Nat) (p:fR):Prop where
 next:0≤p.next∧p.next≤(c.cP.getD who default).length
 ql:p.queue.length≤2∧(p.queue.length:Int)≤p.next
 ol:p.out.length≤4
 last:0≤p.last∧p.last≤3
 queue: ∀i,i<p.queue.length→p.queue.getD i default=p.next-p.queue.length+i
 out: ∀j∈p.out,j.who=who∧(0≤j.n∧j.n<p.next-p.queue.length)∧j.left=gZ c.map (bT c who j.n)
 acX:p.out.Pairwise fun a b=>a.n<b.n
 akF: ∀a∈p.out,∀b∈p.out,(bT c who a.n).id=(bT c who b.n).id→a.left=b.left
def cS (v:nY):List (Int×Int):=v.done.map key++v.pipe.map fun j=>(j.who,j.n)
structure Z0 (c:Cfg) (s:CSt) (st:Nat):Prop where
 pl:(aL s st).pipe.length≤2
 dl:(aL s st).done.length≤2
 last:0≤(aL s st).last∧(aL s st).last≤2
 inc:(cS (aL s st)).Pairwise fun a b=>a.1=b.1→a.2<b.2
 out: ∀x∈cS (aL s st),(0≤x.1∧x.1≤2)∧ ∃j∈(aF s x.1.toNat).out,j.n=x.2∧j.left=st
 rsp: ∀j∈(aL s st).done,as5 c j
 left: ∀i,i<(aL s st).pipe.length→(0≤((aL s st).pipe.getD i default).left∧((aL s st).pipe.getD i default).left≤c.lat.getD st default)∧(0<i→((aL s st).pipe.getD i default).left=c.lat.getD st default)
def hU (s:CSt) (k:Nat):Nat:=(aL s k).pipe.length+(aL s k).done.length
structure COk (c:Cfg) (s:CSt):Prop where
 atm:WK s.words s.holds
 pl:s.bM.length=3
 sl:s.dD.length=4
 port: ∀k,k<3→mD c k (aF s k)
 slv: ∀k,k<4→Z0 c s k
 count:(aF s 0).out.length+(aF s 1).out.length+(aF s 2).out.length=hU s 0+hU s 1+hU s 2+hU s 3
 st:BA c (cX s)
theorem wU {s:CSt} {j:Job}:j∈qU s↔(∃k,k<s.bM.length∧ ∃m∈(aF s k).queue,j=⟨k,m,oW⟩)∨(∃st,st<s.dD.length∧ ∃x∈(aL s st).pipe,j=⟨x.who,x.n,oW⟩):=by
 unfold qU jJ hJ
 simp only[List.mem_append,List.mem_flatMap,List.mem_range,List.mem_map]
 constructor
 ·rintro(⟨k,hk,m,hm,rfl⟩|⟨st,hs,x,hx,rfl⟩)
  ·exact .inl ⟨k,hk,m,hm,rfl⟩
  ·exact .inr ⟨st,hs,x,hx,rfl⟩
 ·rintro(⟨k,hk,m,hm,rfl⟩|⟨st,hs,x,hx,rfl⟩)
  ·exact .inl ⟨k,hk,m,hm,rfl⟩
  ·exact .inr ⟨st,hs,x,hx,rfl⟩
theorem BU {s:CSt} {j:Job}:j∈uQ s↔∃st,st<s.dD.length∧j∈(aL s st).done:=by
 unfold uQ
 simp only[List.mem_flatMap,List.mem_range]
theorem mD.asks {c:Cfg} {who:Nat} {p:fR} (h:mD c who p) (hw:who<3) {n:Int} (h0:0≤n) (h1:n<p.next):oA c who n:=by
 have:=h.next
 refine⟨by omega,h0,?_⟩
 rw[Int.toNat_natCast];omega
theorem mD.qIn {c:Cfg} {who:Nat} {p:fR} (h:mD c who p) {m:Int} (hm:m∈p.queue):p.next-p.queue.length≤m∧m<p.next:=by
 obtain⟨i,hi,rfl⟩:=List.mem_iff_getElem.1 hm
 have:=h.queue i hi
 simp only[List.getD,hi,List.getElem?_eq_getElem,Option.getD_some] at this
 omega
theorem COk.vIn {c:Cfg} {s:CSt} (h:COk c s) {st:Nat} (hs:st<4) {x:Int×Int} (hx:x∈cS (aL s st)):(0≤x.1∧x.1≤2)∧0≤x.2∧x.2<(aF s x.1.toNat).next-(aF s x.1.toNat).queue.length:=by
 obtain⟨h1,j,hj,h2,h3⟩:=(h.slv st hs).out x hx
 have:=(h.port x.1.toNat (by omega)).out j hj
 exact⟨h1,by omega,by omega⟩
theorem COk.same {c:Cfg} {s:CSt} (h:COk c s) {st st':Nat} (hs:st<4) (hs':st'<4) {x y:Int×Int} (hx:x∈cS (aL s st)) (hy:y∈cS (aL s st')) (he:x.1=y.1) (hi:(bT c x.1 x.2).id=(bT c y.1 y.2).id):st=st':=by
 obtain⟨h1,j,hj,h2,h3⟩:=(h.slv st hs).out x hx
 obtain⟨h4,j',hj',h5,h6⟩:=(h.slv st' hs').out y hy
 have hp:=h.port x.1.toNat (by omega)
 rw[←he] at hj'
 have:=hp.akF j hj j' hj' (by
  have e1:((x.1.toNat:Nat):Int)=x.1:=by omega
  rw[e1,h2,h5,hi,he])
 omega
theorem JB {v:nY} {x:fC} (h:x∈v.pipe):(x.who,x.n)∈cS v:=List.mem_append_right _ (List.mem_map.2 ⟨x,h,rfl⟩)
theorem M9 {v:nY} {x:Job} (h:x∈v.done):key x∈cS v:=List.mem_append_left _ (List.mem_map_of_mem h)
theorem gT {α:Type} [Inhabited α] {l:List α} (h:0<l.length):l=l.getD 0 default::l.drop 1:=by
 cases l with
 |nil=>simp at h
 |cons x l=>simp
theorem BF {l:List Job} {j:Job}:j∈jX l↔j∈l:=(fH l).mem_iff
theorem R6 {s:CSt} {k:Nat} (hk:k<s.bM.length):(cX s).asked.getD k default=(aF s k).next:=by
 simp[cX,aF,List.getD,hk]
theorem XZ {c:Cfg} {s:CSt} (h:COk c s) {m:Mic} (hg:EH c s m): ∀e∈y0 s m,X6 c (cX s) e=0:=by
 intro e he
 have hpl:=h.pl
 have hsl:=h.sl
 cases m with
 |tick st=>simp[y0] at he
 |adm who st=>simp[y0] at he
 |ask who=>
  simp only[y0,List.mem_singleton] at he
  subst he
  obtain⟨h1,h2,h3⟩:=hg
  have hp:=h.port who h1
  have hask:oA c (who:Int) (aF s who).next:=by
   refine⟨by omega,hp.next.1,?_⟩
   rw[Int.toNat_natCast];omega
  unfold X6
  dsimp only
  rw[if_neg (by exact fun hn=>hn ⟨hask,by omega,by omega⟩),if_pos rfl,if_neg]
  rw[Int.toNat_natCast,R6 (by omega)]
  simp
 |work st=>
  simp only[y0,List.mem_singleton] at he
  subst he
  obtain⟨h1,h2,h3,h4⟩:=hg
  have hmem:bI s st∈(aL s st).pipe:=cC h2
  have hk:=JB hmem
  obtain⟨hv1,hv2,hv3⟩:=h.vIn h1 hk
  dsimp only at hv1 hv2 hv3
  have hp:=h.port (bI s st).who.toNat (by omega)
  have e1:(((bI s st).who.toNat:Nat):Int)=(bI s st).who:=by omega
  have hask:oA c (bI s st).who (bI s st).n:=by
   have:=hp.asks (n:=(bI s st).n) (by omega) hv2 (by have:=hp.ql;omega)
   rwa [e1] at this
  have hin: ¬bK (iM (bI s st).who (bI s st).n) (cX s).wait<0:=by
   have:0≤bK (iM (bI s st).who (bI s st).n) (cX s).wait:=ZP.2 (List.mem_map.2 ⟨⟨(bI s st).who,(bI s st).n,oW⟩,BF.2 (wU.2 (.inr ⟨st,by omega,bI s st,hmem,rfl⟩)),rfl⟩)
   omega
  unfold X6
  dsimp only
  rw[if_neg (by exact fun hn=>hn ⟨hask,by omega,by omega⟩),if_neg (by omega),if_pos rfl,if_neg hin,if_neg]
  rw[cH]
  rintro⟨x,hx,hxa⟩
  obtain⟨⟨ha1,ha2⟩,ha3⟩:=of_decide_eq_true hxa
  dsimp only at ha1 ha2 ha3
  rcases wU.1 (BF.1 hx) with⟨k,hkl,m,hm,rfl⟩|⟨st',hst',y,hy,rfl⟩
  ·dsimp only at ha1 ha2 ha3
   have hq:=(h.port k (by omega)).qIn hm
   have:(bI s st).who.toNat=k:=by omega
   rw[this] at hv3
   omega
  ·dsimp only at ha1 ha2 ha3
   have hss:=h.same (by omega) h1 (JB hy) hk ha1 ha3
   subst hss
   have hinc:=(List.pairwise_append.1 (h.slv st' h1).inc).2.1
   rw[gT h2,List.map_cons,List.pairwise_cons] at hinc
   rw[gT h2] at hy
   rcases List.mem_cons.1 hy with rfl|hy
   ·unfold bI at ha2;omega
   ·have:=hinc.1 (y.who,y.n) (List.mem_map.2 ⟨y,hy,rfl⟩)
    dsimp only at this
    unfold bI at ha1 ha2
    have:=this ha1.symm
    omega
 |tell who st=>
  simp only[y0,List.mem_singleton] at he
  subst he
  obtain⟨h0,h1,h2,h3⟩:=hg
  have hmem:iF s st∈(aL s st).done:=cC h2
  have hk:=M9 hmem
  have h3':(iF s st).who=who:=h3
  obtain⟨hv1,hv2,hv3⟩:=h.vIn h1 hk
  simp only[key] at hv1 hv2 hv3
  rw[h3',Int.toNat_natCast] at hv3
  have hp:=h.port who h0
  have hask:oA c (who:Int) (iF s st).n:=hp.asks h0 hv2 (by have:=hp.ql;omega)
  have hin: ¬bK (iM who (iF s st).n) (cX s).done<0:=by
   have:0≤bK (iM who (iF s st).n) (cX s).done:=ZP.2 (List.mem_map.2 ⟨iF s st,BF.2 (BU.2 ⟨st,by omega,hmem⟩),by simp[key,h3']⟩)
   omega
  have hinc:=(h.slv st h1).inc
  unfold cS at hinc
  rw[gT h2,List.map_cons,List.cons_append,List.pairwise_cons] at hinc
  unfold X6
  dsimp only
  rw[if_neg (by exact fun hn=>hn ⟨hask,by omega,by omega⟩),if_neg (by omega),if_neg (by omega),if_neg hin,if_neg]
  rw[cH,cH]
  rintro(⟨x,hx,hxa⟩|⟨x,hx,hxa⟩)
  ·obtain⟨⟨ha1,ha2⟩,ha3⟩:=of_decide_eq_true hxa
   dsimp only at ha1 ha2 ha3
   rcases wU.1 (BF.1 hx) with⟨k,hkl,m,hm,rfl⟩|⟨st',hst',y,hy,rfl⟩
   ·dsimp only at ha1 ha2 ha3
    have hq:=(h.port k (by omega)).qIn hm
    have:who=k:=by omega
    subst this
    omega
   ·dsimp only at ha1 ha2 ha3
    have hss:=h.same (by omega) h1 (JB hy) hk (by simp only[key];rw[h3'];exact ha1) (by simp only[key];rw[h3'];exact ha3)
    subst hss
    have:=hinc.1 (y.who,y.n) (List.mem_append_right _ (List.mem_map.2 ⟨y,hy,rfl⟩))
    have:=this (by show (iF s st').who=y.who;rw[h3',ha1])
    have e2:(key ((aL s st').done.getD 0 default)).2=(iF s st').n:=rfl
    dsimp only at this
    omega
  ·obtain⟨⟨ha1,ha2⟩,ha3⟩:=of_decide_eq_true hxa
   dsimp only at ha1 ha2 ha3
   obtain⟨st',hst',hy⟩:=BU.1 (BF.1 hx)
   have hss:=h.same (by omega) h1 (M9 hy) hk (by simp only[key];rw[h3'];exact ha1) (by simp only[key];rw[h3'];rw[ha1] at ha3;rw[ha1];exact ha3)
   subst hss
   rw[gT h2] at hy
   rcases List.mem_cons.1 hy with rfl|hy
   ·unfold iF at ha2;omega
   ·have:=hinc.1 (key x) (List.mem_append_left _ (List.mem_map_of_mem hy))
    have:=this (by show (iF s st').who=x.who;rw[h3',ha1])
    have e2:(key ((aL s st').done.getD 0 default)).2=(iF s st').n:=rfl
    simp only[key] at this e2
    omega
end Go.AM
end
section
namespace Go.AM
theorem TW {l:List Job} (h:(l.map key).Nodup) {a b:Job} (ha:a∈l) (hb:b∈l) (he:key a=key b):a=b:=by
 induction l with
 |nil=>simp at ha
 |cons x l ih=>
  rw[List.map_cons,List.nodup_cons] at h
  rcases List.mem_cons.1 ha with e1|h1
  ·rcases List.mem_cons.1 hb with e2|h2
   ·rw[e1,e2]
   ·exact absurd (List.mem_map.2 ⟨b,h2,by rw[←he,e1]⟩) h.1
  ·rcases List.mem_cons.1 hb with e2|h2
   ·exact absurd (List.mem_map.2 ⟨a,h1,by rw[he,e2]⟩) h.1
   ·exact ih h.2 h1 h2
theorem bL {s s':CSt} {who:Nat} {p:fR} (h:s'.bM=s.bM.set who p) (hw:who<s.bM.length) (k:Nat):aF s' k=if k=who then p else aF s k:=by
 unfold aF;rw[h,pY hw]
theorem bO {s s':CSt} {st:Nat} {v:nY} (h:s'.dD=s.dD.set st v) (hw:st<s.dD.length) (k:Nat):aL s' k=if k=st then v else aL s k:=by
 unfold aL;rw[h,pY hw]
theorem af6 {c:Cfg} {s:CSt} (hb:aQ c) (h:COk c s) {m:Mic} (hg:EH c s m):cX (aR c s m)=runM c (cX s) (y0 s m):=by
 have hpl:=h.pl
 have hsl:=h.sl
 have hwhy:=XZ h hg
 cases m with
 |tick st=>
  obtain⟨h1,h2,h3⟩:=hg
  have hS:=fun k=>bO (s:=s) (s':=aR c s (.tick st)) rfl (by omega:st<s.dD.length) k
  have hP: ∀k,aF (aR c s (.tick st)) k=aF s k:=fun k=>rfl
  have hq: ∀k,hJ (aR c s (.tick st)) k=hJ s k:=fun k=>by
   unfold hJ
   rw[hS]
   split
   ·rename_i hk;subst hk
    rw[gT h2]
    simp[bI]
   ·rfl
  have hd: ∀k,(aL (aR c s (.tick st)) k).done=(aL s k).done:=fun k=>by
   rw[hS]
   split
   ·rename_i hk;subst hk;rfl
   ·rfl
  have hl:(aR c s (.tick st)).dD.length=s.dD.length:=by simp[aR]
  simp only[y0,runM,List.foldl_nil,cX,TSt.mk.injEq]
  refine⟨rfl,rfl,rfl,?_,?_,rfl⟩
  ·congr 1
   unfold qU
   rw[hl]
   simp only[List.flatMap_def]
   congr 2
   exact List.map_congr_left fun k _=>hq k
  ·congr 1
   unfold uQ
   rw[hl]
   simp only[List.flatMap_def]
   congr 1
   exact List.map_congr_left fun k _=>hd k
 |adm who st=>
  obtain⟨h0,h1,h2,h3⟩:=hg
  have hS:=fun k=>bO (s:=s) (s':=aR c s (.adm who st)) rfl (by omega:st<s.dD.length) k
  have hP:=fun k=>bL (s:=s) (s':=aR c s (.adm who st)) rfl (by omega:who<s.bM.length) k
  have hl:(aR c s (.adm who st)).dD.length=s.dD.length:=by simp[aR]
  have hl2:(aR c s (.adm who st)).bM.length=s.bM.length:=by simp[aR]
  have hd: ∀k,(aL (aR c s (.adm who st)) k).done=(aL s k).done:=fun k=>by
   rw[hS]
   split
   ·rename_i hk;subst hk;rfl
   ·rfl
  simp only[y0,runM,List.foldl_nil,cX,TSt.mk.injEq]
  refine⟨rfl,rfl,?_,?_,?_,rfl⟩
  ·apply List.ext_getElem (by simp[aR])
   intro i hi1 hi2
   simp only[aR,List.length_map,List.length_set] at hi1
   simp only[aR,List.getElem_map,List.getElem_set]
   split
   ·rename_i hk;subst hk;simp[aF,List.getD,hi1]
   ·rfl
  ·refine GN h.st.NR ?_
   refine List.Perm.trans ?_ (fH _).symm
   rw[List.perm_iff_count]
   intro z
   have e1:=tE (k:=who) (n:=s.bM.length) (by omega) (f:=jJ (aR c s (.adm who st))) (g:=jJ s) (fun i hi=>by unfold jJ;rw[hP,if_neg hi]) z
   have e2:=tE (k:=st) (n:=s.dD.length) (by omega) (f:=hJ (aR c s (.adm who st))) (g:=hJ s) (fun i hi=>by unfold hJ;rw[hS,if_neg hi]) z
   have e3:jJ (aR c s (.adm who st)) who=((aF s who).queue.drop 1).map fun n=>⟨who,n,oW⟩:=by unfold jJ;rw[hP,if_pos rfl]
   have e4:jJ s who=⟨who,(aF s who).queue.getD 0 default,oW⟩::((aF s who).queue.drop 1).map fun n=>⟨who,n,oW⟩:=by
    unfold jJ
    conv=>lhs;rw[gT h3.1]
    rfl
   have e5:hJ (aR c s (.adm who st)) st=hJ s st++[⟨who,(aF s who).queue.getD 0 default,oW⟩]:=by unfold hJ;rw[hS,if_pos rfl];simp
   rw[e3,e4] at e1
   rw[e5] at e2
   unfold qU
   rw[hl,hl2]
   simp only[List.count_append,List.count_cons,List.count_nil] at*
   omega
  ·congr 1
   unfold uQ
   rw[hl]
   simp only[List.flatMap_def]
   congr 1
   exact List.map_congr_left fun k _=>hd k
 |ask who=>
  obtain⟨h0,h1,h2⟩:=hg
  have hP:=fun k=>bL (s:=s) (s':=aR c s (.ask who)) rfl (by omega:who<s.bM.length) k
  have hl2:(aR c s (.ask who)).bM.length=s.bM.length:=by simp[aR]
  have hso:=G9 hb h.st (hwhy ⟨1,who,(aF s who).next⟩ (List.mem_singleton.2 rfl))
  have e0:lS c (cX s) ⟨1,who,(aF s who).next⟩= {cX s with asked:=(cX s).asked.set who ((aF s who).next+1),wait:=BM (cX s).wait ⟨who,(aF s who).next,oW⟩}:=by simp[lS]
  have hso1:=hso.NR
  rw[e0] at hso1
  simp only[y0]
  rw[wW,e0]
  simp only[runM,List.foldl_nil,cX,TSt.mk.injEq]
  refine⟨rfl,rfl,?_,?_,rfl,rfl⟩
  ·simp[aR,List.map_set]
  ·refine GN hso1 ?_
   refine List.Perm.trans ?_ ((nE _ _).trans ((fH _).cons _)).symm
   rw[List.perm_iff_count]
   intro z
   have e1:=tE (k:=who) (n:=s.bM.length) (by omega) (f:=jJ (aR c s (.ask who))) (g:=jJ s) (fun i hi=>by unfold jJ;rw[hP,if_neg hi]) z
   have e3:jJ (aR c s (.ask who)) who=jJ s who++[⟨who,(aF s who).next,oW⟩]:=by unfold jJ;rw[hP,if_pos rfl];simp
   have e6:(List.range (aR c s (.ask who)).dD.length).flatMap (hJ (aR c s (.ask who)))=(List.range s.dD.length).flatMap (hJ s):=rfl
   rw[e3] at e1
   unfold qU
   rw[hl2,e6]
   simp only[List.count_append,List.count_cons,List.count_nil] at*
   omega
 |work st=>
  obtain⟨h1,h2,h3,h4⟩:=hg
  have hS:=fun k=>bO (s:=s) (s':=aR c s (.work st)) rfl (by omega:st<s.dD.length) k
  have hl:(aR c s (.work st)).dD.length=s.dD.length:=by simp[aR]
  have hw:=hwhy ⟨2,(bI s st).who,(bI s st).n⟩ (List.mem_singleton.2 rfl)
  have hso:=G9 hb h.st hw
  have hz:=(M8 hw).2
  have hin: ¬bK (iM (bI s st).who (bI s st).n) (cX s).wait<0:=by
   rcases hz with⟨hk,_⟩|⟨hk,hi⟩|⟨hk,_⟩
   ·exact absurd hk (by dsimp only;decide)
   ·exact hi
   ·exact absurd hk (by dsimp only;decide)
  obtain⟨hi1,hi2⟩:=pW hin
  have e0:lS c (cX s) ⟨2,(bI s st).who,(bI s st).n⟩= {cX s with words:=(jD c s st).1.1,holds:=(jD c s st).1.2,wait:=MT (cX s).wait (bK (iM (bI s st).who (bI s st).n) (cX s).wait).toNat,done:=BM (cX s).done ⟨(bI s st).who,(bI s st).n,(jD c s st).2⟩}:=by
   simp only[lS,jD,cX,if_true,if_false,Int.reduceEq]
  have hso1:=hso.NR
  have hso2:=hso.NW
  rw[e0] at hso1 hso2
  simp only[y0]
  rw[wW,e0]
  simp only[runM,List.foldl_nil]
  have hjob:(cX s).wait.getD (bK (iM (bI s st).who (bI s st).n) (cX s).wait).toNat default=⟨(bI s st).who,(bI s st).n,oW⟩:=by
   have hm:=cC hi1
   have hr:=h.st.P4 _ hm
   generalize (cX s).wait.getD (bK (iM (bI s st).who (bI s st).n) (cX s).wait).toNat default=x at hi2 hr
   obtain⟨x1,x2,x3⟩:=x
   simp only[key,Prod.mk.injEq] at hi2
   dsimp only at hr
   rw[hi2.1,hi2.2,hr]
  have hperm:=A4 hi1
  rw[hjob] at hperm
  have hW:jX (qU (aR c s (.work st)))=MT (cX s).wait (bK (iM (bI s st).who (bI s st).n) (cX s).wait).toNat:=by
   refine GN hso1 ?_
   refine List.Perm.cons_inv (a:=⟨(bI s st).who,(bI s st).n,oW⟩) ?_
   refine List.Perm.trans ?_ ((fH _).symm.trans hperm)
   rw[List.perm_iff_count]
   intro z
   have e2:=tE (k:=st) (n:=s.dD.length) (by omega) (f:=hJ (aR c s (.work st))) (g:=hJ s) (fun i hi=>by unfold hJ;rw[hS,if_neg hi]) z
   have e5:hJ s st=⟨(bI s st).who,(bI s st).n,oW⟩::hJ (aR c s (.work st)) st:=by
    unfold hJ;rw[hS,if_pos rfl]
    conv=>lhs;rw[gT h2]
    rfl
   have e6:(List.range (aR c s (.work st)).bM.length).flatMap (jJ (aR c s (.work st)))=(List.range s.bM.length).flatMap (jJ s):=rfl
   rw[e5] at e2
   unfold qU
   rw[hl,e6]
   simp only[List.count_append,List.count_cons,List.count_nil] at*
   omega
  have hD:jX (uQ (aR c s (.work st)))=BM (cX s).done ⟨(bI s st).who,(bI s st).n,(jD c s st).2⟩:=by
   refine GN hso2 ?_
   refine List.Perm.trans ?_ ((nE _ _).trans ((fH _).cons _)).symm
   rw[List.perm_iff_count]
   intro z
   have e2:=tE (k:=st) (n:=s.dD.length) (by omega) (f:=fun k=>(aL (aR c s (.work st)) k).done) (g:=fun k=>(aL s k).done) (fun i hi=>by rw[hS,if_neg hi]) z
   have e5:(aL (aR c s (.work st)) st).done=(aL s st).done++[⟨(bI s st).who,(bI s st).n,(jD c s st).2⟩]:=by rw[hS,if_pos rfl]
   rw[e5] at e2
   unfold uQ
   rw[hl]
   simp only[List.count_append,List.count_cons,List.count_nil] at*
   omega
  show TSt.mk _ _ _ (jX (qU (aR c s (.work st)))) (jX (uQ (aR c s (.work st)))) _=_
  rw[hW,hD]
  rfl
 |tell who st=>
  obtain⟨h0,h1,h2,h3⟩:=hg
  have h3':(iF s st).who=who:=h3
  have hS:=fun k=>bO (s:=s) (s':=aR c s (.tell who st)) rfl (by omega:st<s.dD.length) k
  have hP:=fun k=>bL (s:=s) (s':=aR c s (.tell who st)) rfl (by omega:who<s.bM.length) k
  have hl:(aR c s (.tell who st)).dD.length=s.dD.length:=by simp[aR]
  have hl2:(aR c s (.tell who st)).bM.length=s.bM.length:=by simp[aR]
  have hw:=hwhy ⟨3,who,(iF s st).n⟩ (List.mem_singleton.2 rfl)
  have hso:=G9 hb h.st hw
  have hz:=(M8 hw).2
  have hin: ¬bK (iM who (iF s st).n) (cX s).done<0:=by
   rcases hz with⟨hk,_⟩|⟨hk,hi⟩|⟨hk,hi⟩
   ·exact absurd hk (by dsimp only;decide)
   ·exact absurd hk (by dsimp only;decide)
   ·exact hi
  obtain⟨hi1,hi2⟩:=pW hin
  have e0:lS c (cX s) ⟨3,who,(iF s st).n⟩= {cX s with told:=(cX s).told++[(cX s).done.getD (bK (iM who (iF s st).n) (cX s).done).toNat default],done:=MT (cX s).done (bK (iM who (iF s st).n) (cX s).done).toNat}:=by
   simp only[lS,if_false,Int.reduceEq]
  have hso2:=hso.NW
  rw[e0] at hso2
  simp only[y0]
  rw[wW,e0]
  simp only[runM,List.foldl_nil]
  have hjob:(cX s).done.getD (bK (iM who (iF s st).n) (cX s).done).toNat default=iF s st:=by
   refine TW (zG h.st.NW) (cC hi1) (BF.2 (BU.2 ⟨st,by omega,cC h2⟩)) ?_
   rw[hi2];simp[key,h3']
  have hperm:=A4 hi1
  rw[hjob] at hperm
  have hW:jX (qU (aR c s (.tell who st)))=(cX s).wait:=by
   show jX _=jX _
   congr 1
   unfold qU
   rw[hl,hl2]
   simp only[List.flatMap_def]
   congr 2
   ·exact List.map_congr_left fun k _=>by
     unfold jJ;rw[hP];split
     ·rename_i hk;subst hk;rfl
     ·rfl
   ·exact List.map_congr_left fun k _=>by
     unfold hJ;rw[hS];split
     ·rename_i hk;subst hk;rfl
     ·rfl
  have hD:jX (uQ (aR c s (.tell who st)))=MT (cX s).done (bK (iM who (iF s st).n) (cX s).done).toNat:=by
   refine GN hso2 ?_
   refine List.Perm.cons_inv (a:=iF s st) ?_
   refine List.Perm.trans ?_ ((fH _).symm.trans hperm)
   rw[List.perm_iff_count]
   intro z
   have e2:=tE (k:=st) (n:=s.dD.length) (by omega) (f:=fun k=>(aL (aR c s (.tell who st)) k).done) (g:=fun k=>(aL s k).done) (fun i hi=>by rw[hS,if_neg hi]) z
   have e5:(aL s st).done=iF s st::(aL (aR c s (.tell who st)) st).done:=by
    rw[hS,if_pos rfl]
    exact gT h2
   rw[e5] at e2
   unfold uQ
   rw[hl]
   simp only[List.count_append,List.count_cons,List.count_nil] at*
   omega
  have hA:(aR c s (.tell who st)).bM.map (·.next)=s.bM.map (·.next):=by
   apply List.ext_getElem (by simp[aR])
   intro i hi1 hi2
   simp only[aR,List.length_map,List.length_set] at hi1
   simp only[aR,List.getElem_map,List.getElem_set]
   split
   ·rename_i hk;subst hk;simp[aF,List.getD,hi1]
   ·rfl
  show TSt.mk _ _ ((aR c s (.tell who st)).bM.map (·.next)) (jX (qU (aR c s (.tell who st)))) (jX (uQ (aR c s (.tell who st)))) (s.told++[iF s st])=_
  rw[hW,hD,hA,hjob]
  rfl
end Go.AM
end
