/- Texts laid together by a program: rules, contracts and the walk that leads to the law. -/
import Derived.Test.YtdkfhdmagdaceaaGreatPE21
import Derived.Test.YtdkfhdmagdaceaaGreatPE19
import Derived.Test.YtdkfhdmagdaceaaGreatPE22
set_option linter.unusedVariables false
set_option linter.unusedSimpArgs false
set_option linter.unusedSectionVars false
set_option maxRecDepth 100000
set_option maxHeartbeats 8000000
namespace Go.AM
theorem aTQ.len {s:TSt} (h:aTQ s):bcA (2^21) s:=⟨⟨h.words,h.holds⟩,h.asked,⟨h.wait,fun j a=>h.data j (by simp[a])⟩,⟨h.done,fun j a=>h.data j (by simp[a])⟩,⟨h.told,fun j a=>h.data j (by simp[a])⟩⟩
theorem bEK {H:aA} {e:Env} {t bpO n id m:Nat} {cs:List D1} {x:DV} (he:e t= .one (.c (.ptr n id 0 0))) (a:H id=some ⟨n,m,[cs]⟩) (hl:cs.length=n) (b:e bpO= .one x):yT H e [.cell t n true,.tm bpO]=some (.tup [.agg cs,x]):=by subst hl;simp[yT,VP,he,a,b,tT,mkV,as1]
theorem bFV {H:aA} {F:Nat→Prop} {σ:Nat→Nat} {nh:Nat} {x y:D} (h:CvD H F σ nh x y): ∀(i:Nat) (a d:D),[x][i]?=some a→[y][i]?=some d→CvD H F σ nh a d:=fun i a d b c=>by
 match i with
 |0=>simp at b c;subst b;subst c;exact h
 |i+1=>simp at b
theorem bFR {H:aA}:byV H [.osl 0 0 0 0 0,.osl 0 0 0 0 0,.osl 0 0 0 0 0,.osl 0 0 0 0 0,.osl 0 0 0 0 0,.osl 0 0 0 0 0] Go.Proofs.YtdkfhdmagdaceaaGreat.stN fun _=>False:=by have h: ∀{α:Type} {n:Nat} {R:bAT α},SlS n R H (.osl 0 0 0 0 0) [] fun _=>False:=.inl ⟨rfl,0,0,0,rfl⟩;exact⟨_,_,_,_,_,_,fun _=>False,fun _=>False,fun _=>False,fun _=>False,fun _=>False,fun _=>False,rfl,⟨h,h,h,h,h,h,fun j h=>h,fun j h=>h,fun j h=>h,fun j h=>h,fun j h=>h,fun j h=>h,fun j h=>h.elim,fun j h=>h.elim,fun j h=>h.elim,fun j h=>h.elim,fun j h=>h.elim,fun j h=>h.elim,fun j h=>h.elim,fun j h=>h.elim,fun j h=>h.elim,fun j h=>h.elim,fun j h=>h.elim,fun j h=>h.elim,fun j h=>h.elim,fun j h=>h.elim,fun j h=>h.elim⟩⟩
end Go.AM
namespace Go.Proofs.YtdkfhdmagdaceaaGreat
open Go Go.AM
attribute [local irreducible] aM wv aB vd wvH
section
variable {H : aA} {nx : Nat} {K : D → aA → Nat → Prop}
theorem bD2:cJ Tryz.prog dW Tryz.f16 aVB aVT:=cJ.mk Tryz.func16 (by kernel_rfl) aWJ
theorem bEE {c:Cfg} {s:TSt} {e:Ev} (d:jO c) (u:aTQ s):aB Tryz.prog dW [boR (cU c),boR (eSt s),boR (eEv e)] .nil 0 fun r H' I=>(r.free=true∧bE9 H')∧ ∃cs F,r= .tup [.agg cs,.c (cB (decide (aTD c s e=0)))]∧byV H' cs (stT c s e) F∧ ∀j,F j→j<I:=by
 apply aB.tW;refine bD2 rfl fun Q J=> ?_;unfold aVB;have fin: ∀{G:aA} {E:Nat} {cs:List D1} {x:TSt} {F:Nat→Prop} {b:Bool} {g:Env},byV G cs x F→(∀j,F j→j<E)→x=stT c s e→b=decide (aTD c s e=0)→yT G g aVT=some (.tup [.agg cs,.c (cB b)])→Q .ret g G E:=fun boS m o a hr=>by obtain⟨bp6,az9,az2,aAD,aAE,aAA⟩:=bFQ byO bET bES boS m;exact J _ _ _ _ _ (.inr rfl) hr ⟨_,_,_,ay7 (ayY az9) (azN (bB rfl)),kS,⟨by simp[D.free,DV.cells,D1.free,aAE],aAD⟩,_,bp6,by rw[a],o▸az2,aAA⟩
 by_cases a:aQ c∧BA c s
 case neg=>
  have p:=aOH a;have g:aTD c s e=1:=by unfold aTD;rw[aOH a];rfl
  have v:stT c s e=stN:=by unfold stT;rw[aOH a];rfl
  repeat' first| (first|apply bn1|apply aV5 d u)<;>(simp only[go_sem,p])|fail
  exact fin bFR (fun j h=>h.elim) v.symm (by rw[g];rfl) (bEK rfl aA.bH rfl rfl)
 obtain⟨a,f⟩:=a;have p:=aTX a f;have g:stT c s e=if X6 c s e=0 then lS c s e else s:=by unfold stT;rw[if_pos p]
 have v:=aT5 (e:=e) a f;obtain⟨q,H⟩:=hC a;by_cases hw:X6 c s e=0
 ·rw[if_pos hw] at g;have i:=G9 a f hw;have w:s.words.length≤s.words.length∧s.holds.length≤s.holds.length∧s.asked.length≤s.asked.length∧s.wait.length≤s.wait.length∧s.done.length≤s.done.length∧s.told.length≤s.told.length:=⟨m5 _,m5 _,m5 _,m5 _,m5 _,m5 _⟩
  repeat' first| (first|apply bn1|apply aV5 d u|refine CM a f (fun T m1 bp3 bqM bqN bqQ hm=> ?_)|refine axC (c:=c) (s:=s) (e:=e) d q (f.fit a) (GW fun x o=>w2.1 (azX s).2 x o) ?_|refine awO a f hw w hm.2.2.2 (by omega) (by simp) rfl rfl rfl rfl rfl rfl rfl (fun y z A K L M N U=> ?_))<;>(simp only[go_sem,p,hw])|fail
  have t:(lS c s e).words.length≤s.words.length∧(lS c s e).holds.length≤s.holds.length∧(lS c s e).asked.length≤s.asked.length∧(lS c s e).wait.length≤y∧(lS c s e).done.length≤z∧(lS c s e).told.length≤A:=by rw[f.atm.wl,i.atm.wl,f.atm.hl,i.atm.hl,f.JI,i.JI];exact⟨m5 _,m5 _,m5 _,N⟩
  refine aB.ao4 (args':=[boR (eSt (lS c s e))]) (without (fun j=>13≤j) _) (fun j=>13≤j) rfl (bFV (lY (azA t rfl rfl rfl rfl rfl rfl (by omega) (by omega) (by omega) (by omega) (by omega) (by omega)))) kS ?_;refine bAG (BA.aUG a i).len fun l B r F C boS m n=> ?_;have c3:l 3=some ⟨6,1,[[.osl 0 0 0 0 0,.osl 0 0 0 0 0,.osl 0 0 0 0 0,.osl 0 0 0 0 0,.osl 0 0 0 0 0,.osl 0 0 0 0 0]]⟩:=(n 3 (by omega)).trans ((iI (by omega)).trans (by simp (disch:=omega) only[aA.aC,aA.bH]));obtain⟨d1,d2,d3,bkS,bk2,bk3,bF4,bF5,bF6,bF7,bF8,bF9,rfl,O⟩:=id boS;(try simp only[go_sem,boC,c3,boC]);repeat' first|apply bn1<;>(simp only[go_sem,boC,c3,boC])|fail
  exact fin (byO _ _ _ _ _ boS fun j k=>aA.aC (by have:=m j k;omega)) (fun j k=>by have:=m j k;omega) g.symm (by rw[v];simp[hw]) (bEK rfl aA.bH rfl rfl)
 ·rw[if_neg hw] at g;repeat' first| (first|apply bn1|apply aV5 d u|refine bAG u.len (fun l B r F C boS m n=> ?_))<;>(simp only[go_sem,p])|fail
  have c0:l 0=some ⟨3,1,[cU c]⟩:=(n 0 (by omega)).trans (by simp (disch:=omega) only[aA.aC,aA.bH]);have c1:l 1=some ⟨6,1,[eSt s]⟩:=(n 1 (by omega)).trans (by simp (disch:=omega) only[aA.aC,aA.bH]);have c2:l 2=some ⟨3,1,[eEv e]⟩:=(n 2 (by omega)).trans (by simp (disch:=omega) only[aA.aC,aA.bH]);have c3:l 3=some ⟨6,1,[[.osl 0 0 0 0 0,.osl 0 0 0 0 0,.osl 0 0 0 0 0,.osl 0 0 0 0 0,.osl 0 0 0 0 0,.osl 0 0 0 0 0]]⟩:=(n 3 (by omega)).trans (by simp (disch:=omega) only[aA.aC,aA.bH]);have P: ∀{R S:bA} (j:Nat),F j→((l.set 11 R).set 3 S) j=l j:=fun j k=>by have:=m j k;rw[aA.aC (by omega),aA.aC (by omega)]
  obtain⟨d1,d2,d3,bkS,bk2,bk3,bF4,bF5,bF6,bF7,bF8,bF9,rfl,O⟩:=id boS;refine⟨rfl,by simp,?_⟩;apply bn0;repeat' first| (first|apply bn1|refine axC (c:=c) (s:=s) (e:=e) d q (f.fit a) (GW fun x o=>w2.1 (azX s).2 x o) ?_)<;>(simp only[go_sem,c0,c1,c2,c3])|apply bn2 (by omega)|fail
  exact fin (byO _ _ _ _ _ boS fun j k=>P j k) (fun j k=>by have:=m j k;omega) g.symm (by rw[v];simp[hw]) (bEK rfl aA.bH rfl rfl)
end
end Go.Proofs.YtdkfhdmagdaceaaGreat
namespace Go.AM
theorem bzW {H:aA} {a d:D} {l0 l:List D} (h:CvD H (fun _=>True) id 0 a d) (b:ap5 H l0 l):ap5 H (a::l0) (d::l):=⟨h,b⟩
theorem bDI {H:aA}:ap5 H [] []:=trivial
theorem bEB {H:aA} {d:D} (h:d.imm=true):CvD H (fun _=>True) id 0 d d:=aE h
theorem bB8 {α:Type} {n:Nat} {e:α→List D1} {RowP:bAT α} (a:Fzb n e RowP) {H:aA} {r:List D1} {x:α} {F:Nat→Prop} (h:RowP H r x F):CvD H (fun _=>True) id 0 (boR (e x)) (.one (.agg r)):=lY (a _ _ _ _ h).2.cvL
end Go.AM
namespace Go.Proofs.YtdkfhdmagdaceaaGreat
open Go Go.AM
attribute [local irreducible] aM wv aB vd wvH
section
variable {H : aA} {nx : Nat} {K : D → aA → Nat → Prop}
theorem bEH {c:Cfg} {s:TSt} {e:Ev} {d f:List D1} {bp6 bF4:Nat→Prop} (b:jO c) (g:aTQ s) (i:bBO H d c bp6) (k:byV H f s bF4)
 (h: ∀H' a r F,nx≤a→byV H' r (stT c s e) F→(∀j,F j→nx≤j∧j<a)→(∀j,j<nx→H' j=H j)→K (.tup [.agg r,.c (cB (decide (aTD c s e=0)))]) H' a):aB Tryz.prog dW [.one (.agg d),.one (.agg f),boR (eEv e)] H nx K:=by
 refine(bEE b g).bFZ rfl (aI (bzW (bB8 bEJ i) (bzW (bB8 bBZ k) (bzW (bEB rfl) bDI)))) ?_
 rintro r H' n ⟨cs,F,rfl,boS,l⟩
 obtain⟨F',az9,az2⟩:=bFG bEX (H:=H) (nx:=nx) boS l
 exact h _ _ _ F' (by omega) az9 az2 fun j m=>bFH m
end
end Go.Proofs.YtdkfhdmagdaceaaGreat
