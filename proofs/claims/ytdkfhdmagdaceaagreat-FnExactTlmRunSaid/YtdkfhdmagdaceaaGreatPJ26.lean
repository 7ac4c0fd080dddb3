/- Texts laid together by a program: rules, contracts and the walk that leads to the law. -/
import Derived.Test.YtdkfhdmagdaceaaGreatPJ21
import Derived.Test.YtdkfhdmagdaceaaGreatPJ19
import Derived.Test.YtdkfhdmagdaceaaGreatPJ22
import Derived.Test.YtdkfhdmagdaceaaGreatChecked
set_option linter.unusedVariables false
set_option linter.unusedSimpArgs false
set_option linter.unusedSectionVars false
set_option maxRecDepth 100000
set_option maxHeartbeats 8000000
namespace Go.AM
theorem aTQ.len {s:TSt} (h:aTQ s):bcA (2^21) s:=⟨⟨h.words,h.holds⟩,h.asked,⟨h.wait,fun j a=>h.data j (by simp[a])⟩,⟨h.done,fun j a=>h.data j (by simp[a])⟩,⟨h.told,fun j a=>h.data j (by simp[a])⟩⟩
theorem bEK {H:aA} {e:Env} {t bpO n id m:Nat} {cs:List D1} {x:DV} (he:e t= .one (.c (.ptr n id 0 0))) (a:H id=some ⟨n,m,[cs]⟩) (hl:cs.length=n) (b:e bpO= .one x):yT H e [.cell t n true,.tm bpO]=some (.tup [.agg cs,x]):=by subst hl;simp[yT,VP,he,a,b,tT,mkV,as1]
theorem bFR {H:aA}:byV H [.osl 0 0 0 0 0,.osl 0 0 0 0 0,.osl 0 0 0 0 0,.osl 0 0 0 0 0,.osl 0 0 0 0 0,.osl 0 0 0 0 0] Go.Proofs.YtdkfhdmagdaceaaGreat.stN fun _=>False:=by have h: ∀{α:Type} {n:Nat} {R:bAT α},SlS n R H (.osl 0 0 0 0 0) [] fun _=>False:=.inl ⟨rfl,0,0,0,rfl⟩;exact⟨_,_,_,_,_,_,fun _=>False,fun _=>False,fun _=>False,fun _=>False,fun _=>False,fun _=>False,rfl,⟨h,h,h,h,h,h,fun j h=>h,fun j h=>h,fun j h=>h,fun j h=>h,fun j h=>h,fun j h=>h,fun j h=>h.elim,fun j h=>h.elim,fun j h=>h.elim,fun j h=>h.elim,fun j h=>h.elim,fun j h=>h.elim,fun j h=>h.elim,fun j h=>h.elim,fun j h=>h.elim,fun j h=>h.elim,fun j h=>h.elim,fun j h=>h.elim,fun j h=>h.elim,fun j h=>h.elim,fun j h=>h.elim⟩⟩
end Go.AM
namespace Go.Proofs.YtdkfhdmagdaceaaGreat
open Go Go.AM
attribute [local irreducible] aM wv aB vd wvH
section
variable {H : aA} {nx : Nat} {K : D → aA → Nat → Prop}
end
end Go.Proofs.YtdkfhdmagdaceaaGreat
namespace Go.AM
theorem bzW {H:aA} {a d:D} {l0 l:List D} (h:CvD H (fun _=>True) id 0 a d) (b:ap5 H l0 l):ap5 H (a::l0) (d::l):=⟨h,b⟩
theorem bDI {H:aA}:ap5 H [] []:=trivial
theorem bEB {H:aA} {d:D} (h:d.imm=true):CvD H (fun _=>True) id 0 d d:=aE h
theorem bB8 {α:Type} {n:Nat} {e:α→List D1} {RowP:bAT α} (a:Fzb n e RowP) {H:aA} {r:List D1} {x:α} {F:Nat→Prop} (h:RowP H r x F):CvD H (fun _=>True) id 0 (boR (e x)) (.one (.agg r)):=lY (a _ _ _ _ h).2.cvL
end Go.AM
namespace Go.Proofs.YtdkfhdmagdaceaaGreat
open Go Go.AM
attribute [local irreducible] aM wv aB vd wvH
section
variable {H : aA} {nx : Nat} {K : D → aA → Nat → Prop}
end
noncomputable def bH2 (c:Cfg) (s:TSt) (es:List Ev):TSt:=if tlB c s=true∧es.length≤200 then runM c s (es.take (b9 c s es)) else stN
noncomputable def runK (c:Cfg) (s:TSt) (es:List Ev):Int:=if tlB c s=true∧es.length≤200 then b9 c s es else-1
theorem bH4:cJ Tryz.prog auW Tryz.f25 avV awK:=cJ.mk Tryz.func25 (by kernel_rfl) ax8
theorem bIA {c:Cfg} {a:TSt} {es:List Ev} (o:jO c) (U:aTQ a) (hl:es.length<2^40):aB Tryz.prog auW [boR (cU c),boR (eSt a),dS (es.map eEv)] .nil 0 fun r H' n'=>(r.free=true∧bE9 H')∧ ∃cs F,r= .tup [.agg cs,.c (cI (runK c a es))]∧byV H' cs (bH2 c a es) F∧ ∀j,F j→j<n':=by
 apply aB.tW;refine bH4 rfl fun Q hQ=> ?_;unfold avV;have fin: ∀{G:aA} {n2:Nat} {cs:List D1} {x:TSt} {F:Nat→Prop} {b:Int} {t:Env},byV G cs x F→(∀j,F j→j<n2)→x=bH2 c a es→b=runK c a es→yT G t awK=some (.tup [.agg cs,.c (cI b)])→Q .ret t G n2:=fun boS v w f hr=>by obtain⟨bp6,az9,az2,aAD,aAE,aAA⟩:=bFQ byO bET bES boS v;exact hQ _ _ _ _ _ (.inr rfl) hr ⟨_,_,_,ay7 (ayY az9) (azN (bB rfl)),kS,⟨by simp[D.free,DV.cells,D1.free,aAE],aAD⟩,_,bp6,by rw[f],w▸az2,aAA⟩
 by_cases V:(aQ c∧BA c a)∧es.length≤200
 case neg=>
  have L: ¬(tlB c a=true∧es.length≤200):=fun h=>V ⟨Classical.byContradiction fun hh=>by rw[aOH hh] at h;exact absurd h.1 (by decide),h.2⟩;have t:bH2 c a es=stN:=if_neg L;have M:runK c a es= -1:=if_neg L;by_cases f:aQ c∧BA c a
  ·have y:=aTX f.1 f.2;have h2: ¬es.length≤200:=fun h=>V ⟨f,h⟩;repeat' first| (with_reducible first| (apply d _ _ _;clear d K)| (apply g;clear g hB A B)|apply btD|apply btG (by omega))| (first| (with_reducible first|refine btI fun K d=> ?_|refine btJ fun A B g hB=> ?_)| (apply aV5 o U))<;>(simp only[go_sem,y])| ((with_reducible apply btK);try simp only[AQ.then,AQ.blk,reduceIte,Nat.reduceEqDiff])|fail
   all_goals first| (exfalso;omega)|exact fin bFR (fun j h=>h.elim) t.symm M.symm (bEK rfl aA.bH rfl rfl)
  ·have y:=aOH f;repeat' first| (with_reducible first| (apply d _ _ _;clear d K)| (apply g;clear g hB A B)|apply btD)| (first| (with_reducible first|refine btI fun K d=> ?_|refine btJ fun A B g hB=> ?_)| (apply aV5 o U))<;>(simp only[go_sem,y])| ((with_reducible apply btK);try simp only[AQ.then,AQ.blk,reduceIte,Nat.reduceEqDiff])|fail
   exact fin bFR (fun j h=>h.elim) t.symm M.symm (bEK rfl aA.bH rfl rfl)
 obtain⟨⟨f,i⟩,hlen⟩:=V;have y:=aTX f i;have t:bH2 c a es=runM c a (es.take (b9 c a es)):=if_pos ⟨y,hlen⟩;have M:runK c a es=b9 c a es:=if_pos ⟨y,hlen⟩;have N:=fun k (J:k≤b9 c a es)=>aPL f i J;have W:=fun k (J:k<b9 c a es)=>aS0 J;have X:=aN8 (c:=c) (s:=a) (l:=es);have hle:=aNZ (c:=c) (s:=a) (l:=es);generalize b9 c a es=n at*;obtain⟨O,ab⟩:=hC f;repeat' first| (with_reducible first| (apply d _ _ _;clear d K)| (apply hB;clear g hB A B)|apply btD|apply btE|refine btF fun btO p=> ?_|apply btH (by omega))| (first| (with_reducible first|refine btI fun K d=> ?_|refine btJ fun A B g hB=> ?_)| (apply aV5 o U)| (refine CM f i (fun m0 m1 bp3 bqM bqN bqQ hm=> ?_)))<;>(simp only[go_sem,y])|fail
 (have Y:=p;clear p)
 refine aM.sG 3 (β:=Nat×(Nat×Nat×Nat)×(Nat×Nat×Nat))
  (fun b u=>en [(25,boP u.1),(24,boP es.length),(23,dS (es.map eEv)),(8,bkP 6 15),(6,bkP 6 2),(3,bkP 3 0),(2,dS (es.map eEv))])
  (fun b u=>hp [(0,⟨3,1,[cU c]⟩),(2,⟨6,1,[[.osl 0 0 0 0 0,.osl 0 0 0 0 0,.osl 0 0 0 0 0,.osl 0 0 0 0 0,.osl 0 0 0 0 0,.osl 0 0 0 0 0]]⟩),(15,⟨6,1,[oIm 17 18 19 b (b+1) (b+2) a.words.length a.holds.length a.asked.length u.2.1.1 u.2.1.2.1 u.2.1.2.2 (runM c a (es.take u.1))]⟩),(17,⟨1,m0,(runM c a (es.take u.1)).words.map aJ⟩),(18,⟨1,m1,(runM c a (es.take u.1)).holds.map aJ⟩),(19,⟨1,bp3,(runM c a (es.take u.1)).asked.map aJ⟩),(b,⟨5,u.2.2.1,(runM c a (es.take u.1)).wait.map aS⟩),((b+1),⟨5,u.2.2.2.1,(runM c a (es.take u.1)).done.map aS⟩),((b+2),⟨5,u.2.2.2.2,(runM c a (es.take u.1)).told.map aS⟩)])
  (fun u=>u.1≤n∧((runM c a (es.take u.1)).wait.length≤u.2.1.1∧(runM c a (es.take u.1)).done.length≤u.2.1.2.1∧(runM c a (es.take u.1)).told.length≤u.2.1.2.2)∧(u.2.1.1≤u.2.2.1∧u.2.1.2.1≤u.2.2.2.1∧u.2.1.2.2≤u.2.2.2.2))
  (fun u=>es.length-u.1) (0,(a.wait.length,a.done.length,a.told.length),(bqM,bqN,bqQ))
  (by(refine cR [20,21,22,0,2,15,17,18,19] (by omega) (by repeat' first|exact bo2|refine xqI rfl rfl ?_|refine xqP (by omega) rfl rfl ?_|fail) ⟨⟨by simp,by simp[sgL],_,rfl,aP (GW fun x w=>w2.1 (azD c).2 x w)⟩,⟨by simp,by simp[sgL],_,rfl,aP (by repeat' first|exact bo2| (with_reducible first|exact bo4|apply bo5)| ((with_reducible apply bo0);exact bpA)|fail)⟩,⟨by simp,by simp[sgL],_,rfl,aP (by unfold oIm;repeat' first|exact bo2| (with_reducible first|exact bo4|apply bo5)| ((with_reducible apply bo0);exact bpB (by omega) rfl rfl (by rfl) rfl)|fail)⟩,⟨by simp,by simp[sgL],_,rfl,bP (aG bF _) rfl rfl⟩,⟨by simp,by simp[sgL],_,rfl,bP (aG bF _) rfl rfl⟩,⟨by simp,by simp[sgL],_,rfl,bP (aG bF _) rfl rfl⟩,⟨by simp,by simp[sgL],_,rfl,bP (aG dZ _) rfl rfl⟩,⟨by simp,by simp[sgL],_,rfl,bP (aG dZ _) rfl rfl⟩,⟨by simp,by simp[sgL],_,rfl,bP (aG dZ _) rfl rfl⟩,trivial⟩ (by simp[sgL]))) ⟨bxY _,⟨m5 _,m5 _,m5 _⟩,hm.2.2.2⟩ ?_
 rintro⟨k,⟨c3,c4,c5⟩,⟨bqM,bqN,bqQ⟩⟩ ⟨J,P,R⟩ bpQ Z;dsimp only at J P R;have m:=N k J;have z:=fun C=>av6 (c:=c) (s:=a) (l:=es) (k:=k) C;have ad:=W k;generalize hS:runM c a (es.take k)=s at*;have aa:=m.lens f;have q:s.words.length≤a.words.length∧s.holds.length≤a.holds.length∧s.asked.length≤a.asked.length∧s.wait.length≤c3∧s.done.length≤c4∧s.told.length≤c5:=by rw[m.atm.wl,i.atm.wl,m.atm.hl,i.atm.hl,m.JI,i.JI];exact⟨m5 _,m5 _,m5 _,P⟩
 by_cases C:k<n
 ·have E:=ad C;have S:=z (by omega);have H:=G9 f m E;repeat' first| (with_reducible first| (apply d _ _ _;clear d K)| (apply g;clear g hB A B)| (apply hB;clear g hB A B)|apply btD|apply btE|refine btF fun btO p=> ?_|apply btG (by omega))| (first| (with_reducible first|refine btI fun K d=> ?_|refine btJ fun A B g hB=> ?_)| (refine axC (c:=c) (s:=s) (e:=es.getD k default) o O (m.fit f) (azA q rfl rfl rfl rfl rfl rfl trivial trivial trivial trivial trivial trivial) ?_)| (refine awO f m E q R (by omega) (by simp) rfl rfl rfl rfl rfl rfl rfl (fun ae af ag ah ai aj q1 q2=> ?_)))<;>(simp only[go_sem,E];try simp (disch:=omega) only[Iw])| ((with_reducible apply btM);simp only[AQ.then,AQ.blk])|refine⟨by omega,?_⟩| (with_reducible apply p _ _ _)|fail
  refine Z _ _ _ (k+1,(ae,af,ag),(ah,ai,aj)) (by omega) ?_ ⟨by dsimp only;omega,by dsimp only;rw[S];exact q1,q2⟩ (by dsimp only;omega);dsimp only;rw[S];have aq:(lS c s (es.getD k default)).words.length=s.words.length:=by rw[m.atm.wl,H.atm.wl]
  have ar:(lS c s (es.getD k default)).holds.length=s.holds.length:=by rw[m.atm.hl,H.atm.hl]
  have au:(lS c s (es.getD k default)).asked.length=s.asked.length:=by rw[m.JI,H.JI]
  (refine cR [44,45,46,0,2,15,17,18,19] (by omega) (by repeat' first|exact bo2|refine xqI rfl rfl ?_|refine xqP (by omega) rfl rfl ?_|fail) ⟨⟨by simp,by simp[sgL],_,rfl,aP (GW fun x w=>w2.1 (azD c).2 x w)⟩,⟨by simp,by simp[sgL],_,rfl,aP (by repeat' first|exact bo2| (with_reducible first|exact bo4|apply bo5)| ((with_reducible apply bo0);exact bpA)|fail)⟩,⟨by simp,by simp[sgL],_,rfl,aP (by unfold oIm;repeat' first|exact bo2| (with_reducible first|exact bo4|apply bo5)| ((with_reducible apply bo0);exact bpB (by omega) rfl rfl (by rfl) rfl)|fail)⟩,⟨by simp,by simp[sgL],_,rfl,bP (aG bF _) rfl rfl⟩,⟨by simp,by simp[sgL],_,rfl,bP (aG bF _) rfl rfl⟩,⟨by simp,by simp[sgL],_,rfl,bP (aG bF _) rfl rfl⟩,⟨by simp,by simp[sgL],_,rfl,bP (aG dZ _) rfl rfl⟩,⟨by simp,by simp[sgL],_,rfl,bP (aG dZ _) rfl rfl⟩,⟨by simp,by simp[sgL],_,rfl,bP (aG dZ _) rfl rfl⟩,trivial⟩ (by simp[sgL]))
 have ak:k=n:=by omega
 subst ak;by_cases al:k=es.length
 ·repeat' first| (with_reducible first| (apply d _ _ _;clear d K)| (apply hB;clear g hB A B)|apply btD|apply btH (by omega))| (with_reducible first|refine btI fun K d=> ?_|refine btJ fun A B g hB=> ?_)<;>(simp only[go_sem])| ((with_reducible apply btL);try simp only[AQ.then,AQ.blk,reduceIte,Nat.reduceEqDiff])|fail
  apply Y _ _ _;refine aM.aqB 0 (en [(8,.one (.c (.fQ (eSt s)))),(6,bkP 6 2),(2,dS (es.map eEv))]) (hp [(2,⟨6,1,[[.osl 0 0 0 0 0,.osl 0 0 0 0 0,.osl 0 0 0 0 0,.osl 0 0 0 0 0,.osl 0 0 0 0 0,.osl 0 0 0 0 0]]⟩)]) ?_ ?_;·refine cR [2] (by omega) (oF (oF (oF K6 (aE rfl)) (DG (by omega) rfl)) (ay3 (σ:=id) (nh:=0) (azX s).2 (azA q rfl rfl rfl rfl rfl rfl (by simp) (by simp) (by simp) (by simp) (by simp) (by simp)) (by simp) rfl rfl rfl)) ?_ (by simp[sgL]);exact⟨⟨by omega,by simp[sgL],_,rfl,aP (by repeat' first|exact bo2| (with_reducible first|exact bo4|apply bo5)| ((with_reducible apply bo0);exact bpA)|fail)⟩,trivial⟩
  subst al;repeat' first| (with_reducible apply btD)| (first| (with_reducible refine btI fun K d=> ?_)| (refine bAG (BA.aUG f m).len (fun H2 an r F ao boS v f2=> ?_)))<;>(simp only[go_sem])|fail
  have c2:H2 2=some ⟨6,1,[[.osl 0 0 0 0 0,.osl 0 0 0 0 0,.osl 0 0 0 0 0,.osl 0 0 0 0 0,.osl 0 0 0 0 0,.osl 0 0 0 0 0]]⟩:=(f2 2 (by omega)).trans aA.bH;obtain⟨d1,d2,d3,bkS,bk2,bk3,bF4,bF5,bF6,bF7,bF8,bF9,rfl,hq⟩:=id boS;refine⟨rfl,?_⟩;(try simp only[go_sem,boC,c2,boC]);repeat' first| (with_reducible (apply d _ _ _;clear d K))| ((with_reducible apply btK);try simp only[AQ.then,AQ.blk,reduceIte,Nat.reduceEqDiff])|fail
  exact fin (byO _ _ _ _ _ boS fun j I=>aA.aC (by have:=v j I;omega)) (fun j I=>by have:=v j I;omega) (t.trans hS).symm M.symm (bEK rfl aA.bH rfl rfl)
 ·have T:=X (by omega);rw[hS] at T;refine aM.aqB 0 (en [(25,boP k),(24,boP es.length),(23,dS (es.map eEv)),(8,.one (.c (.fQ (eSt s)))),(6,bkP 6 2),(3,.one (.c (.fQ (cU c)))),(2,dS (es.map eEv))]) (hp [(2,⟨6,1,[[.osl 0 0 0 0 0,.osl 0 0 0 0 0,.osl 0 0 0 0 0,.osl 0 0 0 0 0,.osl 0 0 0 0 0,.osl 0 0 0 0 0]]⟩)]) ?_ ?_;·refine cR [2] (by omega) (oF (oF (oF (oF (oF (oF (oF K6 (aE rfl)) (aeE (azD c).2 (by simp) rfl rfl rfl)) (DG (by omega) rfl)) (ay3 (σ:=id) (nh:=0) (azX s).2 (azA q rfl rfl rfl rfl rfl rfl (by simp) (by simp) (by simp) (by simp) (by simp) (by simp)) (by simp) rfl rfl rfl)) (aE rfl)) (aE rfl)) (aE rfl)) ?_ (by simp[sgL]);exact⟨⟨by omega,by simp[sgL],_,rfl,aP (by repeat' first|exact bo2| (with_reducible first|exact bo4|apply bo5)| ((with_reducible apply bo0);exact bpA)|fail)⟩,trivial⟩
  repeat' first| (with_reducible first| (apply d _ _ _;clear d K)| (apply g;clear g hB A B)|apply btD|apply btE|refine btF fun btO p=> ?_|apply btG (by omega))| (first| (with_reducible first|refine btI fun K d=> ?_|refine btJ fun A B g hB=> ?_)| (refine axC (c:=c) (s:=s) (e:=es.getD k default) o O (m.fit f) (GW fun x w=>w2.1 (azX s).2 x w) ?_)| (refine bAG (BA.aUG f m).len (fun H2 an r F ao boS v f2=> ?_)))<;>(simp only[go_sem])|refine⟨by omega,?_⟩|fail
  have c2:H2 2=some ⟨6,1,[[.osl 0 0 0 0 0,.osl 0 0 0 0 0,.osl 0 0 0 0 0,.osl 0 0 0 0 0,.osl 0 0 0 0 0,.osl 0 0 0 0 0]]⟩:=(f2 2 (by omega)).trans ((aA.aC (by omega)).trans aA.bH);obtain⟨d1,d2,d3,bkS,bk2,bk3,bF4,bF5,bF6,bF7,bF8,bF9,rfl,hq⟩:=id boS;refine⟨rfl,?_⟩;(try simp only[go_sem,boC,c2,boC]);repeat' first| (with_reducible (apply d _ _ _;clear d K))| ((with_reducible apply btK);try simp only[AQ.then,AQ.blk,reduceIte,Nat.reduceEqDiff])|fail
  exact fin (byO _ _ _ _ _ boS fun j I=>aA.aC (by have:=v j I;omega)) (fun j I=>by have:=v j I;omega) (t.trans hS).symm M.symm (bEK rfl aA.bH rfl rfl)
end Go.Proofs.YtdkfhdmagdaceaaGreat
namespace Go.Proofs.YtdkfhdmagdaceaaGreat
open Go Go.AM Go.Proofs
theorem a2O:aZK Tryz.prog 3 aJ:=beU Tryz.underlying3
theorem beY:aZK Tryz.prog 4 eH:=beK Tryz.underlying4
theorem a6Z:aZK Tryz.prog 23 fun l:List Int=>[.isl (l.map aJ)]:=aZ1 (n:=1) a2O Tryz.underlying23 (by kernel_rfl) (by decide) fun _=>rfl
theorem bfQ:aZK Tryz.prog 208 eN:=aZ0 (w0 (n:=4) (b6 (n:=1) a2O rfl (by kernel_rfl) (fun _=>rfl) (b6 (n:=1) a2O rfl (by kernel_rfl) (fun _=>rfl) (b6 (n:=1) a2O rfl (by kernel_rfl) (fun _=>rfl) (b6 (n:=1) beY rfl (by kernel_rfl) (fun _=>rfl) z0)))) Tryz.underlying208 (by kernel_rfl) fun _=>rfl) (fun p:Int×Int×Int×Bool×Unit=>⟨p.1,p.2.1,p.2.2.1,p.2.2.2.1⟩) (fun _=>rfl)
theorem bfF:aZK Tryz.prog 22 fun l:List Rng=>[.isl (l.map eN)]:=aZ1 (n:=4) bfQ Tryz.underlying22 (by kernel_rfl) (by decide) fun _=>rfl
theorem bfT:aZK Tryz.prog 260 eB:=aZ0 (w0 (n:=7) (b6 (n:=1) a2O rfl (by kernel_rfl) (fun _=>rfl) (b6 (n:=1) a2O rfl (by kernel_rfl) (fun _=>rfl) (b6 (n:=1) a2O rfl (by kernel_rfl) (fun _=>rfl) (b6 (n:=1) a2O rfl (by kernel_rfl) (fun _=>rfl) (b6 (n:=1) beY rfl (by kernel_rfl) (fun _=>rfl) (b6 (n:=1) a6Z rfl (by kernel_rfl) (fun _=>rfl) (b6 (n:=1) a6Z rfl (by kernel_rfl) (fun _=>rfl) z0))))))) Tryz.underlying260 (by kernel_rfl) fun _=>rfl) (fun p:Int×Int×Int×Int×Bool×List Int×List Int×Unit=>⟨p.1,p.2.1,p.2.2.1,p.2.2.2.1,p.2.2.2.2.1,p.2.2.2.2.2.1,p.2.2.2.2.2.2.1⟩) (fun _=>rfl)
theorem bfG:aZK Tryz.prog 190 jR:=aZ1 (n:=7) bfT Tryz.underlying190 (by kernel_rfl) (by decide) fun _=>rfl
theorem be7:aZK Tryz.prog 24 fun l:List (List Req)=>[.isl (l.map jR)]:=aZ1 (n:=1) bfG Tryz.underlying24 (by kernel_rfl) (by decide) fun _=>rfl
theorem bfW:aZK Tryz.prog 26 cU:=aZ0 (w0 (n:=3) (b6 (n:=1) bfF rfl (by kernel_rfl) (fun _=>rfl) (b6 (n:=1) a6Z rfl (by kernel_rfl) (fun _=>rfl) (b6 (n:=1) be7 rfl (by kernel_rfl) (fun _=>rfl) z0))) Tryz.underlying26 (by kernel_rfl) fun _=>rfl) (fun p:List Rng×List Int×List (List Req)×Unit=>⟨p.1,p.2.1,p.2.2.1⟩) (fun _=>rfl)
theorem bfR:aZK Tryz.prog 193 tG:=aZ0 (w0 (n:=3) (b6 (n:=1) a2O rfl (by kernel_rfl) (fun _=>rfl) (b6 (n:=1) a2O rfl (by kernel_rfl) (fun _=>rfl) (b6 (n:=1) a6Z rfl (by kernel_rfl) (fun _=>rfl) z0))) Tryz.underlying193 (by kernel_rfl) fun _=>rfl) (fun p:Int×Int×List Int×Unit=>⟨p.1,p.2.1,p.2.2.1⟩) (fun _=>rfl)
theorem bfO:aZK Tryz.prog 195 aS:=aZ0 (w0 (n:=5) (b6 (n:=1) a2O rfl (by kernel_rfl) (fun _=>rfl) (b6 (n:=1) a2O rfl (by kernel_rfl) (fun _=>rfl) (b6 (n:=3) bfR rfl (by kernel_rfl) (fun _=>rfl) z0))) Tryz.underlying195 (by kernel_rfl) fun _=>rfl) (fun p:Int×Int×Rsp×Unit=>⟨p.1,p.2.1,p.2.2.1⟩) (fun _=>rfl)
theorem beZ:aZK Tryz.prog 31 fun l:List Job=>[.isl (l.map aS)]:=aZ1 (n:=5) bfO Tryz.underlying31 (by kernel_rfl) (by decide) fun _=>rfl
theorem bfS:aZK Tryz.prog 28 fun l:List Int=>[.isl (l.map aJ)]:=aZ0 (w0 (n:=1) (b6 (n:=1) a6Z rfl (by kernel_rfl) (fun _=>rfl) z0) Tryz.underlying28 (by kernel_rfl) fun _=>rfl) (fun p:List Int×Unit=>p.1) (fun _=>rfl)
theorem bfP:aZK Tryz.prog 30 fun p:List Int×List Int=>[.isl (p.1.map aJ),.isl (p.2.map aJ)]:=aZ0 (w0 (n:=2) (b6 (n:=1) bfS rfl (by kernel_rfl) (fun _=>rfl) (b6 (n:=1) a6Z rfl (by kernel_rfl) (fun _=>rfl) z0)) Tryz.underlying30 (by kernel_rfl) fun _=>rfl) (fun p:List Int×List Int×Unit=>(p.1,p.2.1)) (fun _=>rfl)
theorem bF0:aZK Tryz.prog 33 eSt:=aZ0 (w0 (n:=6) (b6 (n:=2) bfP rfl (by kernel_rfl) (fun _=>rfl) (b6 (n:=1) a6Z rfl (by kernel_rfl) (fun _=>rfl) (b6 (n:=1) beZ rfl (by kernel_rfl) (fun _=>rfl) (b6 (n:=1) beZ rfl (by kernel_rfl) (fun _=>rfl) (b6 (n:=1) beZ rfl (by kernel_rfl) (fun _=>rfl) z0))))) Tryz.underlying33 (by kernel_rfl) fun _=>rfl) (fun p:(List Int×List Int)×List Int×List Job×List Job×List Job×Unit=>⟨p.1.1,p.1.2,p.2.1,p.2.2.1,p.2.2.2.1,p.2.2.2.2.1⟩) (fun _=>rfl)
theorem bF1:aZK Tryz.prog 35 eEv:=aZ0 (w0 (n:=3) (b6 (n:=1) a2O rfl (by kernel_rfl) (fun _=>rfl) (b6 (n:=1) a2O rfl (by kernel_rfl) (fun _=>rfl) (b6 (n:=1) a2O rfl (by kernel_rfl) (fun _=>rfl) z0))) Tryz.underlying35 (by kernel_rfl) fun _=>rfl) (fun p:Int×Int×Int×Unit=>⟨p.1,p.2.1,p.2.2.1⟩) (fun _=>rfl)
theorem bIE:aZK Tryz.prog 59 fun l:List Ev=>[.isl (l.map eEv)]:=aZ1 (n:=3) bF1 Tryz.underlying59 (by kernel_rfl) (by decide) fun _=>rfl
end Go.Proofs.YtdkfhdmagdaceaaGreat
