/- Texts laid together by a program: rules, contracts and the walk that leads to the law. -/
import Derived.Test.YtdkfhdmagdaceaaGreatPN5
import Derived.Test.YtdkfhdmagdaceaaGreatPN7
import Derived.Test.YtdkfhdmagdaceaaGreatPN4
import Derived.Test.YtdkfhdmagdaceaaGreatPN6
import Derived.Test.YtdkfhdmagdaceaaGreatPN11
import Derived.Test.YtdkfhdmagdaceaaGreatPN3
import Derived.Test.YtdkfhdmagdaceaaGreatPN10
set_option linter.unusedVariables false
set_option linter.unusedSimpArgs false
set_option linter.unusedSectionVars false
set_option maxRecDepth 100000
set_option maxHeartbeats 8000000
namespace Go.Proofs.YtdkfhdmagdaceaaGreat
open Go Go.AM
attribute [local irreducible] aM wv aB vd wvH
section
variable {H : aA} {nx : Nat} {K : D → aA → Nat → Prop}
theorem aD5 {l:List Rng} (hl:l.length<2^40) (h:K (dB (decide (DH l))) H nx):aB Tryz.prog aBG [dS (l.map eN)] H nx K:=by
 refine aB.pure (args0:=[dS (l.map eN)]) (R:=fun z=>z=dB (decide (DH l))) ?_ rfl (aI ⟨aE rfl,trivial⟩) (fun r hr=>hr▸h);clear h;refine aDM rfl fun Q g=> ?_;unfold aBO;by_cases m:(l.length:Int)≤4
 ·repeat' first|apply bn1<;>(simp only[go_sem])|apply bn3 (by omega)|fail
  refine aM.gP (β:=Nat) (fun k=>en [(3,boP k),(0,dS (l.map eN))]) (fun k _ _=>k≤l.length∧ ∀i,i<k→V9 l i) (fun k=>l.length-k) 0 ⟨noF,_,by repeat' first|exact bo2|refine xqI rfl rfl ?_|fail,aK,by omega,fun i hi=>by omega⟩ ?_;rintro k H1 n w ⟨E,hinv⟩ bpQ p;by_cases o:k<l.length
  ·obtain⟨r,hr⟩: ∃r,r=l.getD k default:=⟨_,rfl⟩
   have e:l.getD k default=r:=hr.symm;have a: ¬SF r→¬DH l:=fun h hm=>h (by rw[hr];exact(hm.2 k o).1);repeat' first| (first|apply bn1|refine bpL (fun h=> ?_) fun h=> ?_|apply aBC)<;>(simp only[go_sem,e,boC])|apply bn2 (by omega)|refine bnE (fun h=> ?_) fun h=> ?_|refine⟨by omega,?_⟩|fail
   ·exact aZ g (dB false) rfl rfl (j7 (a fun hm=>by unfold SF at hm;omega))
   ·exact aZ g (dB false) rfl rfl (j7 (a fun hm=>by unfold SF at hm;omega))
   ·exact aZ g (dB false) rfl rfl (j7 (a fun hm=>by unfold SF at hm;omega))
   have q:SF r:=(by unfold SF;omega);refine aM.gP (β:=Nat) (fun j=>en [(5,boP j),(4,.one (.c (.ptr 4 (n+8) 0 0))),(3,boP k),(0,dS (l.map eN))]) (fun j H2 _=>(j≤k∧ ∀i,i<j→aaM (l.getD i default) r=false)∧H2 (n+8)=some ⟨4,1,[eN r]⟩) (fun j=>k-j) 0 ⟨noF,_,by repeat' first|exact bo2|refine xqI rfl rfl ?_|refine xqP (by omega) rfl rfl ?_|fail,aK,⟨by omega,fun i hi=>by omega⟩,by simp only[aA.set,if_true]⟩ ?_;rintro j H2 A y ⟨⟨F,b⟩,bp4⟩ bqG s;by_cases B:j<k
   ·obtain⟨t,u⟩: ∃t,t=l.getD j default:=⟨_,rfl⟩
    have d:l.getD j default=t:=u.symm;repeat' first| (first|apply bn1|refine bpL (fun h=> ?_) fun h=> ?_)<;>(simp only[go_sem,d,bp4];try simp (disch:=omega) only[Iw])|apply bn2 (by omega)|refine bnE (fun h=> ?_) fun h=> ?_|refine⟨by omega,?_⟩|fail
    ·refine aZ g (dB false) rfl rfl (j7 fun hm=> ?_);have C:=(hm.2 k o).2;refine C (cH.2 ⟨l.getD j default,bqY.2 ⟨j,by simp;omega,by simp[List.getD,show j<l.length by omega]⟩,decide_eq_true ?_⟩);rw[d,e];omega
    all_goals exact s _ _ _ (j+1) noF _ (by omega) (by omega) (by repeat' first|exact bo2|refine xqI rfl rfl ?_|refine xqP (by omega) rfl rfl ?_|fail) aK ⟨⟨by omega,iS b (by rw[d];exact decide_eq_false (by omega))⟩,bp4⟩
   ·repeat' first|apply bn1<;>(simp only[go_sem];try simp (disch:=omega) only[Iw])|apply bn3 (by omega)|fail
    refine p _ _ _ (k+1) noF _ (by omega) (by omega) (by repeat' first|exact bo2|refine xqI rfl rfl ?_|fail) aK ⟨by omega,iS hinv ⟨by rw[e];exact q,fun hc=> ?_⟩⟩;obtain⟨x,D,f⟩:=cH.1 hc;obtain⟨i,hi,rfl⟩:=bqY.1 D;have hi':i<k:=(by simp at hi;omega);have:=b i (by omega);simp only[List.getD,show i<l.length by omega,n1,Option.getD_some] at this;rw[e] at f;simp only[brU] at f;rw[this] at f;cases f
  ·repeat' first|apply bn1<;>(simp only[go_sem])|apply bn3 (by omega)|fail
   have v:k=l.length:=(by omega);subst v;exact aZ g (dB true) rfl rfl (q9 ⟨m,hinv⟩)
 ·repeat' first|apply bn1<;>(simp only[go_sem])|apply bn2 (by omega)|fail
  exact aZ g (dB false) rfl rfl (j7 fun h=>m h.1)
theorem aCC {l:List Int} {lo:Int} {up:Int} (hl:l.length<2^40) (h:K (dB (decide (All l lo up))) H nx):aB Tryz.prog aA3 [dS (l.map aJ),boP lo,boP up] H nx K:=by
 refine aB.pure (args0:=[dS (l.map aJ),boP lo,boP up]) (R:=fun d=>d=dB (decide (All l lo up))) ?_ rfl (aI ⟨aE rfl,aE rfl,aE rfl,trivial⟩) (fun r hr=>hr▸h);clear h;refine aDN rfl fun Q c=> ?_;unfold aBP;repeat' first|apply bn1<;>(simp only[go_sem])|fail
 (refine aM.loop (α:={k:Nat//k≤l.length∧(∀i,i<k→lo≤l.getD i default∧l.getD i default≤up)}) (fun u=>en [(7,boP u.1),(2,boP up),(1,boP lo),(0,dS (l.map aJ))]) (fun _=>.nil) _ (fun u=>l.length-u.1) ⟨0,by omega,(by intros;first|trivial|omega)⟩ (bU (m5 _) (by repeat' first|exact bo2|refine xqI rfl rfl ?_|fail)) ?_);(rintro⟨k,f,hinv⟩ bpQ a);by_cases b:k<l.length
 ·repeat' first| (first|apply bn1|apply aBC)<;>(simp only[go_sem];try simp (disch:=omega) only[Iw])|apply bn2 (by omega)|refine bnE (fun h=> ?_) fun h=> ?_|refine⟨by omega,?_⟩|fail
  ·exact aZ c (dB false) rfl rfl (j7 fun e=>by have:=aj1 e b;omega)
  · (refine a _ _ _ ⟨k+1,by omega,iS hinv (by omega)⟩ (by omega) (by(try dsimp only);omega) (bU (m5 _) (by repeat' first|exact bo2|refine xqI rfl rfl ?_|fail)))
 ·repeat' first|apply bn1<;>(simp only[go_sem])|apply bn3 (by omega)|fail
  exact aZ c (dB true) rfl rfl (q9 (aEA fun i hi=>hinv i (by omega)))
theorem aD8 {q:Req} (b:q.data.length<2^40) (hl:q.g6.length<2^40) (h:K (dB (decide (dH q))) H nx):aB Tryz.prog aBF [boR (eB q)] H nx K:=by
 refine aB.pure (args0:=[boR (eB q)]) (R:=fun c=>c=dB (decide (dH q))) ?_ rfl (aI ⟨aE rfl,trivial⟩) (fun r hr=>hr▸h);clear h;refine aDW rfl fun Q a=> ?_;unfold aBM;repeat' first| (first|apply bn1|refine bpL (fun h=> ?_) fun h=> ?_|apply aBC|apply aC2|apply aCI|apply aCC (l:=q.data) b|apply aCC (l:=q.g6) hl)<;>(simp only[go_sem])|refine bnE (fun h=> ?_) fun h=> ?_| ((refine bnF (fun h=> ?_) (fun h=> ?_))<;>try subst h)|fail
 all_goals first|with_reducible refine aZ a _ rfl rfl ?_|skip
 all_goals
  have d:wrM q=true↔(q.kind=2∨q.kind=4):=by simp[wrM]
  have e:All ([]:List Int) 0 65535:=by simp[All]
  have f:All ([]:List Int) 0 3:=by simp[All]
  have g:q.data.length=0→q.data=[]:=H4.1
  have i:q.g6.length=0→q.g6=[]:=H4.1
  clear a
  first|exact j7 (by unfold dH n5;grind)|exact q9 (by unfold dH n5;grind)|exact pD (by unfold dH n5;grind)
theorem aMP {r:Rsp} (hr:r.data.length<2^40) (h:K (dB (decide (pA r))) H nx):aB Tryz.prog aIP [boR (tG r)] H nx K:=by
 refine aB.pure (args0:=[boR (tG r)]) (R:=fun a=>a=dB (decide (pA r))) ?_ rfl (aI ⟨aE rfl,trivial⟩) (fun r hr=>hr▸h);clear h;refine aMN rfl fun Q b=> ?_;unfold aJL;repeat' first| (first|apply bn1|refine bpL (fun h=> ?_) fun h=> ?_|apply aBC|apply aCC (l:=r.data) hr)<;>(simp only[go_sem])|fail
 all_goals first|with_reducible refine aZ b _ rfl rfl ?_|skip
 all_goals first|exact j7 (by unfold pA;grind)|exact pD (by unfold pA;grind)|exact q9 (by unfold pA;grind)
theorem aL2 {p:Prog} (hp:p.length<2^40) (d: ∀q∈p,q.data.length<2^40∧q.g6.length<2^40) (h:K (dB (decide (∀q∈p,dH q))) H nx):aB Tryz.prog aI2 [dS (p.map eB)] H nx K:=by
 refine aB.pure (args0:=[dS (p.map eB)]) (R:=fun e=>e=dB (decide (∀q∈p,dH q))) ?_ rfl (aI ⟨aE rfl,trivial⟩) (fun r hr=>hr▸h);clear h;refine aLI rfl fun Q c=> ?_;unfold aJC;repeat' first|apply bn1<;>(simp only[go_sem])|fail
 (refine aM.loop (α:={k:Nat//k≤p.length∧(∀i,i<k→dH (p.getD i default))}) (fun u=>en [(3,boP u.1),(0,dS (p.map eB))]) (fun _=>.nil) _ (fun u=>p.length-u.1) ⟨0,by omega,(by intros;first|trivial|omega)⟩ (bU (m5 _) (by repeat' first|exact bo2|refine xqI rfl rfl ?_|fail)) ?_);(rintro⟨k,g,hinv⟩ bpQ b);by_cases a:k<p.length
 ·have hm:=d _ (cC a);repeat' first| (first|apply bn1|apply aD8 hm.1 hm.2)<;>(simp only[go_sem];try simp (disch:=omega) only[Iw])|apply bn2 (by omega)|refine bnE (fun h=> ?_) fun h=> ?_|refine⟨by omega,?_⟩|fail
  ·exact aZ c (dB false) rfl rfl (j7 fun f=>by have:=f _ (cC a);simp_all)
  · (refine b _ _ _ ⟨k+1,by omega,iS hinv (by simp_all)⟩ (by omega) (by(try dsimp only);omega) (bU (m5 _) (by repeat' first|exact bo2|refine xqI rfl rfl ?_|fail)))
 ·repeat' first|apply bn1<;>(simp only[go_sem])|apply bn3 (by omega)|fail
  exact aZ c (dB true) rfl rfl (q9 (aKJ fun i hi=>hinv i (by omega)))
theorem aKG {c:Cfg} (hc:jO c) (h:K (dB (decide (aQ c))) H nx):aB Tryz.prog aIV [boR (cU c)] H nx K:=by
 refine aB.pure (args0:=[boR (cU c)]) (R:=fun o=>o=dB (decide (aQ c))) ?_ rfl (aI ⟨aE rfl,trivial⟩) (fun r hr=>hr▸h);clear h;refine aLX rfl fun Q b=> ?_;unfold aJQ;have a:aQ c↔DH c.map∧(c.lat.length:Int)=4∧All c.lat 0 3∧(c.cP.length:Int)=3∧ ∀p∈c.cP,(p.length:Int)≤12∧ ∀q∈p,dH q:=by unfold aQ mV;simp only[cH,not_exists,not_and,decide_eq_true_eq,Classical.not_imp,Classical.not_not]
 by_cases d:DH c.map∧(c.lat.length:Int)=4∧All c.lat 0 3∧(c.cP.length:Int)=3
 ·obtain⟨m,s,n,t⟩:=d;repeat' first| (first|apply bn1|apply bpK (by omega)|apply aD5 hc.map|apply aCC (l:=c.lat) hc.lat)<;>(simp only[go_sem,eq_true m,eq_true n])|apply bn3 (by omega)|fail
  (refine aM.loop (α:={k:Nat//k≤3∧(∀i,i<k→((c.cP.getD i default).length:Int)≤12∧ ∀q∈c.cP.getD i default,dH q)}) (fun u=>en [(3,boP u.1),(1,.one (.c (.fQ (cU c))))]) (fun _=>.nil) _ (fun u=>3-u.1) ⟨0,by omega,(by intros;first|trivial|omega)⟩ (bU (m5 _) (by repeat' first|exact bo2|refine xqI rfl rfl ?_| (with_reducible apply bo3)| ((with_reducible apply bo1);exact bpH rfl (by simp) rfl rfl rfl)|fail)) ?_);(rintro⟨k,w,hinv⟩ bpQ e);by_cases v:k<3
  ·have hm:c.cP.getD k default∈c.cP:=cC (by omega);have f:=hc.prog _ hm;have g:=hc.req _ hm;repeat' first| (first|apply bn1|refine bpL (fun h=> ?_) fun h=> ?_|apply aL2 f g)<;>(simp only[go_sem];try simp (disch:=omega) only[Iw])|apply bn2 (by omega)|refine bnE (fun h=> ?_) fun h=> ?_|refine⟨by omega,?_⟩|fail
   ·exact aZ b (dB false) rfl rfl (j7 fun hB=>by have:=((a.1 hB).2.2.2.2 _ hm).1;omega)
   ·exact aZ b (dB false) rfl rfl (j7 fun hB=>by have:=((a.1 hB).2.2.2.2 _ hm).2;simp_all)
   · (refine e _ _ _ ⟨k+1,by omega,iS hinv ⟨by omega,by simp_all⟩⟩ (by omega) (by(try dsimp only);omega) (bU (m5 _) (by repeat' first|exact bo2|refine xqI rfl rfl ?_|fail)))
  ·repeat' first|apply bn1<;>(simp only[go_sem])|apply bn3 (by omega)|fail
   exact aZ b (dB true) rfl rfl (q9 (a.2 ⟨m,s,n,t,aKJ fun i hi=>hinv i (by omega)⟩))
 ·have j: ¬aQ c:=fun hB=>d ⟨(a.1 hB).1,(a.1 hB).2.1,(a.1 hB).2.2.1,(a.1 hB).2.2.2.1⟩;repeat' first| (first|apply bn1|refine bpL (fun h=> ?_) fun h=> ?_|apply aD5 hc.map|apply aCC (l:=c.lat) hc.lat)<;>(simp only[go_sem])|refine bnE (fun h=> ?_) fun h=> ?_|fail
  all_goals first|exact aZ b (dB false) rfl rfl (j7 j)|exact absurd ⟨by simp_all,by omega,by simp_all,by omega⟩ d
theorem aMS {l:List Int} (hl:l.length<2^40) (h:K (dB (decide ((l.length:Int)=64∧All l 0 65535))) H nx):aB Tryz.prog aI7 [boR [.isl (l.map aJ)]] H nx K:=by
 refine aB.pure (args0:=[boR [.isl (l.map aJ)]]) (R:=fun f=>f=dB (decide ((l.length:Int)=64∧All l 0 65535))) ?_ rfl (aI ⟨aE rfl,trivial⟩) (fun r hr=>hr▸h);clear h;refine aMO rfl fun Q a=> ?_;unfold aJK;repeat' first|apply bn1<;>(simp only[go_sem])|refine bnE (fun h=> ?_) fun h=> ?_|fail
 ·exact aZ a (dB false) rfl rfl (j7 fun e=>by omega)
 (refine aM.loop (α:={k:Nat//k≤l.length∧(∀i,i<k→0≤l.getD i default∧l.getD i default≤65535)}) (fun u=>en [(3,boP u.1),(1,.one (.c (.fQ [.isl (l.map aJ)])))]) (fun _=>.nil) _ (fun u=>l.length-u.1) ⟨0,by omega,(by intros;first|trivial|omega)⟩ (bU (m5 _) (by repeat' first|exact bo2|refine xqI rfl rfl ?_| (with_reducible apply bo3)| ((with_reducible apply bo1);exact bpH rfl (by simp) rfl rfl rfl)|fail)) ?_);(rintro⟨k,g,hinv⟩ bpQ b);by_cases d:k<l.length
 ·repeat' first| (first|apply bn1|apply aBC)<;>(simp only[go_sem];try simp (disch:=omega) only[Iw])|apply bn2 (by omega)|refine bnE (fun h=> ?_) fun h=> ?_|refine⟨by omega,?_⟩|fail
  ·exact aZ a (dB false) rfl rfl (j7 fun e=>by have:=aj1 e.2 d;omega)
  · (refine b _ _ _ ⟨k+1,by omega,iS hinv (by omega)⟩ (by omega) (by(try dsimp only);omega) (bU (m5 _) (by repeat' first|exact bo2|refine xqI rfl rfl ?_|fail)))
 ·repeat' first|apply bn1<;>(simp only[go_sem])|apply bn3 (by omega)|fail
  exact aZ a (dB true) rfl rfl (q9 ⟨by omega,aEA fun i hi=>hinv i (by omega)⟩)
theorem aKH {w:List Int} {u:List Int} (hw:w.length<2^40) (hu:u.length<2^40) (h:K (dB (decide (JS w u))) H nx):aB Tryz.prog aIU [boR [.isl (w.map aJ),.isl (u.map aJ)]] H nx K:=by
 refine aB.pure (args0:=[boR [.isl (w.map aJ),.isl (u.map aJ)]]) (R:=fun a=>a=dB (decide (JS w u))) ?_ rfl (aI ⟨aE rfl,trivial⟩) (fun r hr=>hr▸h);clear h;refine aLR rfl fun Q b=> ?_;unfold aJM;repeat' first| (first|apply bn1|refine bpL (fun h=> ?_) fun h=> ?_|apply aMS hw|apply aCC (l:=u) hu)<;>(simp only[go_sem])|fail
 all_goals first|with_reducible refine aZ b _ rfl rfl ?_|skip
 all_goals first|exact j7 (by unfold JS;grind)|exact pD (by unfold JS;grind)
theorem aM8 {j:Job}:cI j.who::cI j.n::tG j.rsp=aS j:=rfl
theorem aRZ:aB Tryz.prog v8 [] (hp []) 0
 fun r H' a=>a=1∧H'=hp [(0,⟨1,64,(List.replicate 64 (0:Int)).map aJ⟩)]∧r=boR [.osl 1 0 0 64 64]:=by
 refine aQI rfl fun Q b=> ?_
 unfold aNN
 repeat' first|apply bn1<;>(simp only[go_sem])|fail
 (refine b _ _ _ _ _ 1 (boR [.osl 1 0 0 64 64]) (hp [(0,⟨1,64,(List.replicate 64 (0:Int)).map aJ⟩)]) _ _ (.inr rfl) rfl (fU [1] (by omega) (by repeat' first|exact bo2| ((with_reducible apply bo0);exact bpB (by omega) rfl rfl (by rfl) rfl)| ((with_reducible apply bo1);apply bo6)|exact bo4|apply bo5|fail) ⟨⟨by simp,by simp[sgL],_,rfl,bP (aG bF _) rfl rfl⟩,trivial⟩ (by simp[sgL])) ?_)
 exact⟨rfl,rfl,rfl⟩
theorem aSB (h:K (boR [.osl 1 nx 0 64 64]) (H.set nx ⟨1,64,(List.replicate 64 (0:Int)).map aJ⟩) (nx+1)):aB Tryz.prog v8 [] H nx K:=by
 refine aRZ.AF (l0:=[]) [] rfl trivial trivial (by simp) (by simp) (by simp) fun r H' e _ ⟨a,b,c⟩=> ?_;subst a;subst b;subst c;have d:back (tau 0 nx (nth [])) (hp [(0,⟨1,64,(List.replicate 64 (0:Int)).map aJ⟩)]) 1 H=H.set nx ⟨1,64,(List.replicate 64 (0:Int)).map aJ⟩:=by simp only[back,hp,aA.set,tau,bq2,if_true,if_false,Nat.sub_zero,Nat.add_zero,Option.map_some,uB,aA.eL]
 rw[←d] at h;exact h
theorem aSG:aB Tryz.prog v7 [] (hp []) 0
 fun r H' i=>∃hc,6≤hc∧i=2∧H'=hp [(0,⟨1,64,(List.replicate 64 (0:Int)).map aJ⟩),(1,⟨1,hc,(List.replicate 6 (-1:Int)).map aJ⟩)]∧r=boR [.osl 1 0 0 64 64,.osl 1 1 0 6 hc]:=by
 refine aQ1 rfl fun Q j=> ?_
 unfold aNO
 generalize a:List.replicate 64 (0:Int)=bk1
 have d: ∀{H:aA} {nx:Nat} {K:D→aA→Nat→Prop},K (boR [.osl 1 nx 0 64 64]) (H.set nx ⟨1,64,bk1.map aJ⟩) (nx+1)→aB Tryz.prog v8 [] H nx K:=fun h=>by subst a;exact aSB h
 repeat' first| (first|apply bn1|apply d)<;>(simp only[go_sem])|fail
 apply aM.EJ 1
 refine aM.sG 4 (β:=Nat×Nat) (fun b u=>en [(2,boP u.1),(1,bkP 2 (b+1)),(0,bkP 2 b)])
  (fun b u=>hp [(b,⟨2,1,[[.osl 0 0 0 0 0,.osl 0 0 0 0 0]]⟩),(b+1,⟨2,1,[[.osl 1 (b+2) 0 64 64,.osl 1 (b+3) 0 u.1 u.2]]⟩),(b+2,⟨1,64,bk1.map aJ⟩),(b+3,⟨1,u.2,(List.replicate u.1 (-1:Int)).map aJ⟩)]) (fun u=>u.1≤6∧u.1≤u.2) (fun u=>6-u.1) (0,0)
  ?_ ⟨by dsimp only;omega,by dsimp only;omega⟩ ?_
 · (refine cR [0,3,5,7] (by omega) (by repeat' first|exact bo2|refine xqI rfl rfl ?_|refine xqP (by omega) rfl rfl ?_|fail) ⟨⟨by simp,by simp[sgL],_,rfl,aP (by repeat' first| (with_reducible first|exact bo4|apply bo5)| ((with_reducible apply bo0);exact bpA)|fail)⟩,⟨by simp,by simp[sgL],_,rfl,aP (by repeat' first|exact bo2| (with_reducible first|exact bo4|apply bo5)| ((with_reducible apply bo0);first|exact bpA|exact bpB (by omega) rfl rfl (by rfl) rfl)|fail)⟩,⟨by simp,by simp[sgL],_,rfl,bP (aG bF _) rfl rfl⟩,⟨by simp,by simp[sgL],_,rfl,bP (aG bF _) rfl rfl⟩,trivial⟩ (by simp[sgL]))
 ·rintro⟨k,cap⟩ ⟨l,hc⟩ bpQ e;dsimp only at l hc;have c:List.replicate (k+1) (-1:Int)=List.replicate k (-1)++[-1]:=bx2;by_cases m:k<6
  ·repeat' first|apply bn1<;>(simp only[go_sem];try simp (disch:=omega) only[Iw])|apply bn2 (by omega)| (with_reducible first|refine fun(cap:Nat) (g:_≤cap)=> ?_|refine fun(n:_≤cap)=> ?_)|refine⟨by omega,?_⟩|fail
   exact e _ _ _ (k+1,cap) (by omega) (by(refine cR [8,9,10,17] (by omega) (by repeat' first|exact bo2|refine xqI rfl rfl ?_|refine xqP (by omega) rfl rfl ?_|fail) ⟨⟨by simp,by simp[sgL],_,rfl,aP (by repeat' first|exact bo2| (with_reducible first|exact bo4|apply bo5)| ((with_reducible apply bo0);exact bpA)|fail)⟩,⟨by simp,by simp[sgL],_,rfl,aP (by repeat' first|exact bo2| (with_reducible first|exact bo4|apply bo5)| ((with_reducible apply bo0);exact bpB (by omega) rfl rfl (by rfl) rfl)|fail)⟩,⟨by simp,by simp[sgL],_,rfl,bP (aG bF _) rfl rfl⟩,⟨by simp,by simp[sgL],_,rfl,bP (aG bF _) (congrArg _ c) rfl⟩,trivial⟩ (by simp[sgL]))) ⟨by dsimp only;omega,by dsimp only;omega⟩ (by dsimp only;omega)
  ·repeat' first|apply bn1<;>(simp only[go_sem])|apply bn3 (by omega)|fail
   have f:k=6:=(by omega);subst f;(refine j _ _ _ _ _ 2 (boR [.osl 1 0 0 64 64,.osl 1 1 0 6 cap]) (hp [(0,⟨1,64,bk1.map aJ⟩),(1,⟨1,cap,(List.replicate 6 (-1:Int)).map aJ⟩)]) _ _ (.inr rfl) rfl (fU [10,11] (by omega) (by repeat' first|exact bo2| ((with_reducible apply bo0);exact bpB (by omega) rfl rfl (by rfl) rfl)| ((with_reducible apply bo1);apply bo6)|exact bo4|apply bo5|fail) ⟨⟨by simp,by simp[sgL],_,rfl,bP (aG bF _) rfl rfl⟩,⟨by simp,by simp[sgL],_,rfl,bP (aG bF _) rfl rfl⟩,trivial⟩ (by simp[sgL])) ?_);exact⟨cap,hc,rfl,by rw[a],rfl⟩
theorem aR5 (h: ∀hc,6≤hc→K (boR [.osl 1 nx 0 64 64,.osl 1 (nx+1) 0 6 hc]) ((H.set nx ⟨1,64,(List.replicate 64 (0:Int)).map aJ⟩).set (nx+1) ⟨1,hc,(List.replicate 6 (-1:Int)).map aJ⟩) (nx+2)):aB Tryz.prog v7 [] H nx K:=by
 refine aSG.AF (l0:=[]) [] rfl trivial trivial (by simp) (by simp) (by simp) fun r H' e _ ⟨hc,bqB,a,b,c⟩=> ?_;have h:=h hc bqB;subst a;subst b;subst c;generalize List.replicate 64 (0:Int)=bk1 at*;generalize List.replicate 6 (-1:Int)=bqH at*;have d:back (tau 0 nx (nth [])) (hp [(0,⟨1,64,bk1.map aJ⟩),(1,⟨1,hc,bqH.map aJ⟩)]) 2 H=(H.set nx ⟨1,64,bk1.map aJ⟩).set (nx+1) ⟨1,hc,bqH.map aJ⟩:=by simp only[asR,hp,aA.set,tau,bq2,if_true,if_false,Nat.sub_zero,Nat.add_zero,Option.map_some,uB,aA.eL,Nat.zero_ne_one,brN]
 rw[←d] at h;exact h
theorem aMB {w:List Int} (hl:w.length<2^21) (h:K (boR [.isl (w.map aJ)]) H nx):aB Tryz.prog aIW [boR [.isl (w.map aJ)]] H nx K:=by
 refine aB.fresh (R:=fun b=>b=boR [.isl (w.map aJ)]) ?_ rfl (fun r hr=>hr▸h);clear h;refine aKY rfl fun Q c=> ?_;unfold aJE;repeat' first|apply bn1<;>(simp only[go_sem])| (with_reducible first|refine fun(cap:Nat) (a:_≤cap)=> ?_|refine fun(d:_≤cap)=> ?_)|refine⟨by omega,?_⟩|fail
 all_goals exact V4 c (boR [.isl (w.map aJ)]) _ rfl (aH (bW bF rfl rfl (by omega) trivial) eP) rfl rfl
theorem aKA {w:List Int} {u:List Int} (hl:w.length<2^21) (hu:u.length<2^21) (h:K (boR [.isl (w.map aJ),.isl (u.map aJ)]) H nx):aB Tryz.prog aIR [boR [.isl (w.map aJ),.isl (u.map aJ)]] H nx K:=by
 refine aB.fresh (R:=fun b=>b=boR [.isl (w.map aJ),.isl (u.map aJ)]) ?_ rfl (fun r hr=>hr▸h);clear h;refine aKW rfl fun Q c=> ?_;unfold aJH;repeat' first| (first|apply bn1|apply aMB hl)<;>(simp only[go_sem])| (with_reducible first|refine fun(cap:Nat) (a:_≤cap)=> ?_|refine fun(d:_≤cap)=> ?_)|refine⟨by omega,?_⟩|fail
 all_goals exact V4 c (boR [.isl (w.map aJ),.isl (u.map aJ)]) _ rfl (aH (bB rfl) (aH (bW bF rfl rfl (by omega) trivial) eP)) rfl rfl
theorem aMW {r:Rsp} (hl:r.data.length<2^21) (h:K (boR (tG r)) H nx):aB Tryz.prog aI8 [boR (tG r)] H nx K:=by
 refine aB.fresh (R:=fun b=>b=boR (tG r)) ?_ rfl (fun r hr=>hr▸h);clear h;refine aLO rfl fun Q c=> ?_;unfold aJN;repeat' first|apply bn1<;>(simp only[go_sem])| (with_reducible first|refine fun(cap:Nat) (a:_≤cap)=> ?_|refine fun(d:_≤cap)=> ?_)|refine⟨by omega,?_⟩|fail
 all_goals exact V4 c (boR (tG r)) _ rfl (aH (bB rfl) (aH (bB rfl) (aH (bW bF rfl rfl (by omega) trivial) eP))) rfl rfl
theorem aI1 {l:List Job} (hl:l.length<2^21) (g: ∀j∈l,j.rsp.data.length<2^21) (h:K (dS (l.map aS)) H nx):aB Tryz.prog aIM [dS (l.map aS)] H nx K:=by
 refine aB.fresh (R:=fun i=>i=dS (l.map aS)) ?_ rfl (fun r hr=>hr▸h);clear h;refine aLL rfl fun Q m=> ?_;unfold aJF;repeat' first|apply bn1<;>(simp only[go_sem])|fail
 refine aM.sG 1 (β:=Nat×Nat) (fun b u=>en [(4,boP u.1),(3,boQ 5 b u.1 u.2),(0,dS (l.map aS))])
  (fun b u=>hp [(b,⟨5,u.2,(l.take u.1).map aS⟩)]) (fun u=>u.1≤l.length∧u.1≤u.2) (fun u=>l.length-u.1) (0,0) (by(refine cR [1] (by omega) (by repeat' first|exact bo2|refine xqI rfl rfl ?_|refine xqO (by omega) rfl rfl (by rfl) ?_|fail) ⟨⟨by simp,by simp[sgL],_,rfl,bP (aG dZ _) rfl rfl⟩,trivial⟩ (by simp[sgL]))) ⟨by omega,by omega⟩ ?_
 rintro⟨k,cap⟩ ⟨n,hc⟩ bpQ c;dsimp only at n hc;have d:(l.take k).take k=l.take k:=boL (by simp;omega);by_cases a:k<l.length
 ·have hm:=g _ (cC a);repeat' first| (first|apply bn1|apply aMW hm)<;>(simp only[go_sem,d,aM8];try simp (disch:=omega) only[Iw])|apply bn2 (by omega)| (with_reducible first|refine fun(cap:Nat) (f:_≤cap)=> ?_|refine fun(o:_≤cap)=> ?_)|refine⟨by omega,?_⟩| (refine⟨by(rw[CG];omega),?_⟩)|fail
  all_goals exact c _ _ _ (k+1,cap) (by omega) (by(refine cR [28] (by omega) (by repeat' first|exact bo2|refine xqI rfl rfl ?_|refine xqO (by omega) rfl rfl (by rfl) ?_|fail) ⟨⟨by simp,by simp[sgL],_,rfl,bP (aG dZ _) (by rw[nK a]) rfl⟩,trivial⟩ (by simp[sgL]))) ⟨by dsimp only;omega,by dsimp only;omega⟩ (by dsimp only;omega)
 ·repeat' first|apply bn1<;>(simp only[go_sem])|apply bn3 (by omega)|fail
  have e:k=l.length:=by omega
  subst e;exact V4 m (dS (l.map aS)) _ rfl (DJ (rows:=l.map aS) (aG dZ _) (by simp) trivial rfl rfl (by simp[boL]) (by simp;omega)) rfl rfl
theorem beM {q:Req} (h:dH q):q.data.length<2^40∧q.g6.length<2^40:=by
 obtain⟨_,_,c,a,b,_,_,_⟩:=h;have d:=MK (addr:=q.addr) (many:=q.many) (wrap:=q.wrap);have e:=DF c;have hm:q.many≤4:=by omega
 unfold n5 at a b;constructor;·split at a<;>omega
 ·split at b<;>omega
theorem a20 {m:List Rng} {q:Req} (hm:DH m) (a:dH q) (hl:m.length<2^21) (h:K (boP (gZ m q)) H nx):aB Tryz.prog y3 [dS (m.map eN),boR (eB q)] H nx K:=by
 refine aB.pure (args0:=[dS (m.map eN),boR (eB q)]) (R:=fun d=>d=boP (gZ m q)) ?_ rfl (aI ⟨aE rfl,aE rfl,trivial⟩) (fun r hr=>hr▸h);clear h;refine aCQ rfl fun Q e=> ?_;unfold aA7;have f:bV m (bE q.addr q.many q.wrap)<m.length:=by have g:=PQ (p:=(inR · ((bE q.addr q.many q.wrap).getD 0 default))) (l:=m);unfold bV;grind
 have c:=beM a;have b:(bE q.addr q.many q.wrap).length<2^40:=by have:=MK (addr:=q.addr) (many:=q.many) (wrap:=q.wrap);omega
 have d1:=decide_eq_true hm;have d2:=decide_eq_true a;repeat' first| (first|apply bn1|apply aD5 (by omega)|apply aD8 c.1 c.2|apply aC9|apply aDG (by omega) b)<;>(simp only[go_sem,d1,d2,eq_true hm,eq_true a])|refine bnE (fun h=> ?_) fun h=> ?_|refine⟨by omega,?_⟩|fail
 all_goals first|with_reducible refine aZ e _ rfl rfl ?_|skip
 ·unfold gZ;exact(congrArg boP (if_pos h)).symm
 ·unfold gZ;exact(congrArg boP (if_neg h)).symm
theorem bhY {c:Cfg} {s:CSt} {who:Nat} {st:Nat} (G:aQ c) (hs:COk c s) (hw:who<3) (Y:st<4) {d1:D} (I:CvD H (fun _=>True) id 0 (boR (eI s)) d1) (h:K (dB (decide (HV c s who st))) H nx):aB Tryz.prog bgQ [boR (cU c),d1,boP who,boP st] H nx K:=by
 refine aB.pure (args0:=[boR (cU c),boR (eI s),boP who,boP st]) (R:=fun Z=>Z=dB (decide (HV c s who st))) ?_ rfl (aI ⟨aE rfl,I,aE rfl,aE rfl,trivial⟩) (fun r hr=>hr▸h);clear h;refine biY rfl fun Q w=> ?_;unfold bg5;obtain⟨g,J⟩:=hC G;have x:=J who;have y:DH c.map:=G.1;have aa:=G.1.1;have b:=hs.pl;have a:=hs.port who hw;obtain⟨p,hp⟩: ∃p,s.bM.getD who default=p:=⟨_,rfl⟩
 have z:aF s who=p:=hp;obtain⟨u,d⟩: ∃u,p.queue.getD 0 default=u:=⟨_,rfl⟩
 have v:HV c s who st↔(0<p.queue.length∧p.out.length<4∧gZ c.map (bT c who u)=st∧ ∀j∈p.out,(bT c who j.n).id=(bT c who u).id→j.left=st):=by unfold HV;rw[z,d]
 rw[z] at a;obtain⟨ab,L⟩:=a.next;obtain⟨ad,l⟩:=a.ql;have m:=a.queue 0;rw[d] at m;have ae:=a.ol;obtain⟨P,boS⟩: ∃P,c.cP.getD who default=P:=⟨_,rfl⟩
 rw[boS] at x L;have A: ∀n:Int,bT c who n=P.getD n.toNat default:=fun n=>by unfold bT;rw[Int.toNat_natCast,boS]
 by_cases h0:p.queue.length=0
 ·have bpN:((p.queue.length:Int)=0)=True:=eq_true (by omega);repeat' first|apply bn1<;>(simp only[go_sem,b,hp,bpN])|refine⟨by omega,?_⟩|fail
  exact aZ w _ rfl rfl (j7 (by rw[v];omega))
 have bpN:((p.queue.length:Int)=0)=False:=eq_false (by omega);by_cases h4:p.out.length=4
 ·have bpO:((p.out.length:Int)=4)=True:=eq_true (by omega);repeat' first|apply bn1<;>(simp only[go_sem,b,hp,bpN,bpO])|refine⟨by omega,?_⟩|fail
  exact aZ w _ rfl rfl (j7 (by rw[v];omega))
 have bpO:((p.out.length:Int)=4)=False:=eq_false (by omega);have m:=m (by omega);obtain⟨q,M⟩: ∃q,P.getD u.toNat default=q:=⟨_,rfl⟩
 have B:bT c who u=q:=by rw[A];exact M
 have C:dH q:=B▸GK G (a.asks hw (by omega) (by omega));rw[B] at v;by_cases t:gZ c.map q=st
 ·have bpP:(gZ c.map q=(st:Int))=True:=eq_true t;repeat' first| (first|apply bn1|apply a20 y C (by omega))<;>(simp only[go_sem,b,g,hp,boS,d,M,bpN,bpO,bpP])|refine⟨by omega,?_⟩|fail
  refine aM.gP (β:=Nat) (fun k=>en [(11,boP k),(10,.one (.c (.ptr 7 31 0 0))),(9,.one (.c (.ptr 4 8 0 0))),(4,.one (.c (.ptr 3 0 0 0))),(3,boP st),(2,boP who)]) (fun k H1 _=>H1 0=some ⟨3,1,[cU c]⟩∧H1 8=some ⟨4,1,[cD p]⟩∧H1 31=some ⟨7,1,[eB q]⟩∧k≤p.out.length∧ ∀i,i<k→(bT c who (p.out.getD i default).n).id=q.id→(p.out.getD i default).left=st) (fun k=>p.out.length-k) 0 ⟨noF,_,by repeat' first|exact bo2|refine xqI rfl rfl ?_|refine xqP (by omega) rfl rfl ?_|fail,aK,rfl,rfl,rfl,by omega,fun i hi=>by omega⟩ ?_;rintro k H1 af X ⟨bqC,N,O,hk,hinv⟩ bpQ S;by_cases T:k<p.out.length
  ·obtain⟨o,U⟩: ∃o,p.out.getD k default=o:=⟨_,rfl⟩
   have E:o∈p.out:=(by rw[←U];exact cC T);obtain⟨_,ag,_⟩:=a.out o E;obtain⟨V,l⟩: ∃V,P.getD o.n.toNat default=V:=⟨_,rfl⟩
   have f:bT c who o.n=V:=(by rw[A];exact l);repeat' first| (first|apply bn1|refine bpL (fun h=> ?_) fun h=> ?_)<;>(simp only[go_sem,bqC,N,O,b,g,hp,boS,d,U,l];try simp (disch:=omega) only[Iw])|apply bn2 (by omega)|refine bnE (fun h=> ?_) fun h=> ?_|refine⟨by omega,?_⟩|fail
   all_goals first
    | (refine aZ w _ rfl rfl (j7 ?_)
       rw[v]
       rintro⟨_,_,_,F⟩
       have:=F o E (by rw[f];omega)
       omega)
    |exact S _ _ _ (k+1) noF _ (by omega) (by omega) (by repeat' first|exact bo2|refine xqI rfl rfl ?_|refine xqP (by omega) rfl rfl ?_|fail) aK ⟨bqC,N,O,by omega,fun i hi e=>by
     by_cases W:i<k
     ·exact hinv i W e
     ·have:i=k:=(by omega);subst this;rw[U] at e ⊢;rw[f] at e;omega⟩
  ·repeat' first|apply bn1<;>(simp only[go_sem,bqC,N,O])|apply bn3 (by omega)|fail
   refine aZ w _ rfl rfl (q9 ?_);rw[v];refine⟨by omega,by omega,t,fun j hj e=> ?_⟩;obtain⟨i,hi,rfl⟩:=bqY.1 hj;have:=hinv i (by omega);rw[KL,n1 hi,Option.getD_some] at this;exact this e
 ·have bpP:(gZ c.map q=(st:Int))=False:=eq_false t;repeat' first| (first|apply bn1|apply a20 y C (by omega))<;>(simp only[go_sem,b,g,hp,boS,d,M,bpN,bpO,bpP])|refine⟨by omega,?_⟩|fail
  exact aZ w _ rfl rfl (j7 (by rw[v];omega))
end
end Go.Proofs.YtdkfhdmagdaceaaGreat
namespace Go.AM
theorem aXE {l:List Job} {j:Job} (h:key j∈l.map key):jT (Go.Proofs.YtdkfhdmagdaceaaGreat.UB l) [j.who,j.n]=some 1:=by
 induction l with
 |nil=>simp at h
 |cons x l a=>
  unfold jT Go.Proofs.YtdkfhdmagdaceaaGreat.UB;rw[n3,List.find?_cons];by_cases he:[j.who,j.n]=[x.who,x.n]
  ·simp[he]
  ·have b:key j∈l.map key:=by
    rw[n3,t3] at h
    rcases h with h|h
    ·exact absurd (by simp only[key,Prod.mk.injEq] at h;rw[h.1,h.2]) he
    ·exact h
   simp only[he,decide_false]
   exact a b
theorem aXB {α:Type} [Inhabited α] {l:List α} {i:Nat} (h:i<l.length):l=l.take i++l.getD i default::l.drop (i+1):=by
 have:l.getD i default=l[i]:=by simp[List.getD,h]
 rw[this,←brB h,boN]
end Go.AM
namespace Go.Proofs.YtdkfhdmagdaceaaGreat
open Go Go.AM
attribute [local irreducible] aM wv aB vd wvH
section
variable {H : aA} {nx : Nat} {K : D → aA → Nat → Prop}
theorem aVW {c:Cfg} {s:TSt} (hb:aQ c) (ht:aTQ s) (h:K (dB (stB c s)) H nx):aB Tryz.prog j9 [boR (cU c),boR (eSt s)] H nx K:=by
 refine aB.pure (args0:=[boR (cU c),boR (eSt s)]) (R:=fun rr=>rr=dB (stB c s)) ?_ rfl (aI ⟨aE rfl,aE rfl,trivial⟩) (fun r hr=>hr▸h);clear h;refine GV rfl fun Q O=> ?_;unfold mC;obtain⟨bh,t⟩:=hC hb;obtain⟨bpN,bpO,bpP,bpY,aU1,aU2,aXK⟩:=ht;have hd: ∀j∈s.wait++s.done++s.told,j.rsp.data.length<2^40:=fun j o=>by have:=aXK j o;omega
 by_cases h0:JS s.words s.holds∧(s.asked.length:Int)=3∧kW s.wait∧kW s.done
 case neg=>
  have bj: ¬BA c s:=fun hs=>h0 ⟨ZS hs.atm,by rw[hs.JI];rfl,hs.NR,hs.NW⟩;repeat' first| (first|apply bn1|refine bpL (fun h=> ?_) fun h=> ?_|refine JZ (w:=s.words) (u:=s.holds) (by omega) (by omega) (aE rfl) ?_|refine IK (l:=s.wait) (by omega) (aE rfl) ?_|refine IK (l:=s.done) (by omega) (aE rfl) ?_)<;>(simp only[go_sem])|refine bnE (fun h=> ?_) fun h=> ?_|fail
  all_goals first|exact aZ O (dB false) rfl rfl (congrArg dB (aWH bj).symm)|exact absurd ⟨by simp_all,by omega,by simp_all,by simp_all⟩ h0
 obtain⟨P,Z,aq,ar⟩:=h0;have Z:s.asked.length=3:=by omega
 have au:=af9 Z;repeat' first| (first|apply bn1|apply bpK (by omega)|refine JZ (w:=s.words) (u:=s.holds) (by omega) (by omega) (aE rfl) ?_|refine IK (l:=s.wait) (by omega) (aE rfl) ?_|refine IK (l:=s.done) (by omega) (aE rfl) ?_)<;>(simp only[go_sem,eq_true P,eq_true aq,eq_true ar])|fail
 refine aM.sG 0 (β:=Nat) (fun b k=>en [(38,boP k),(37,boP s.asked.length),(36,dS (s.asked.map aJ)),(5,boP (s.asked.take k).sum),(3,.one (.c (.fQ (eSt s)))),(2,.one (.c (.fQ (cU c))))]) (fun b k=>.nil) (fun k=>k≤3∧(0≤(s.asked.take k).sum∧(s.asked.take k).sum≤12*k)∧ ∀i,i<k→0≤s.asked.getD i default∧s.asked.getD i default≤(c.cP.getD i default).length) (fun k=>3-k) 0 (bU (m5 _) (by repeat' first|exact bo2|refine xqI rfl rfl ?_| (with_reducible apply bo3)| ((with_reducible apply bo1);exact bpH rfl (by simp) rfl rfl rfl)|fail)) ⟨by omega,by simp,fun i hi=>by omega⟩ ?_;rintro k ⟨S,⟨h1,h2⟩,hinv⟩ bpQ bk;by_cases z:k<3
 ·have aw:=alS (l:=s.asked) (k:=k) (by omega);have ax:=t k;repeat' first| (first|apply bn1|apply fE)<;>(simp only[go_sem];try simp (disch:=omega) only[Iw])|apply bn2 (by omega)|refine bnE (fun h=> ?_) fun h=> ?_|refine⟨by omega,?_⟩|fail
  ·exact aZ O (dB false) rfl rfl (congrArg dB (aWH fun hs=>by have:=hs.DC k z;omega).symm)
  ·exact bk _ _ _ (k+1) (by omega) (by rw[aw];exact bU (by omega) (by repeat' first|exact bo2|refine xqI rfl rfl ?_|fail)) ⟨by omega,by rw[aw];omega,iS hinv (by omega)⟩ (by omega)
 have aa:k=3:=by omega
 subst aa;have v:aTF c s.asked:=hinv
 have bm: ∀i,0≤s.asked.getD i default∧s.asked.getD i default≤12:=fun i=>by
  by_cases hi:i<3;·have h1:=v i hi;have h2:=t i;omega
  ·have:s.asked.getD i default=0:=(by simp[List.getD,show s.asked.length≤i by omega]);omega
 repeat' first|apply bn1<;>(simp only[go_sem])|apply bn3 (by omega)|fail
 obtain⟨bm8,p⟩: ∃bm8:List TE,bm8=[s.wait,s.done,s.told]:=⟨_,rfl⟩
 have cb:bm8.length=3:=by subst p;rfl
 have ay:[[D1.isl (s.wait.map aS)],[D1.isl (s.done.map aS)],[D1.isl (s.told.map aS)]]=bm8.map IF:=by subst p;rfl
 obtain⟨seen,G⟩: ∃seen:Nat→List Job,seen=fun k=>(bm8.take k).flatten:=⟨_,rfl⟩
 have B:seen 0=[]:=by subst G;rfl
 have I:seen 3=s.wait++s.done++s.told:=by subst G;subst p;simp
 have d: ∀k,k<3→seen (k+1)=seen k++bm8.getD k default:=fun k S=>by subst G;simp only;rw[brQ (by omega),List.flatten_append];simp[List.getD,show k<bm8.length by omega]
 have az: ∀k,k<3→∃r,seen 3=seen k++bm8.getD k default++r:=fun k S=>by
  have:k=0∨k=1∨k=2:=by omega
  rcases this with rfl|rfl|rfl;·exact⟨bm8.getD 1 default++bm8.getD 2 default,by rw[d 2 (by omega),d 1 (by omega),d 0 (by omega),C0]⟩
  ·exact⟨bm8.getD 2 default,by rw[d 2 (by omega),d 1 (by omega)]⟩
  ·exact⟨[],by rw[d 2 (by omega),bq6]⟩
 have ab: ∀k,k<3→∀j∈bm8.getD k default,j∈s.wait++s.done++s.told:=fun k S j o=>by obtain⟨r,hr⟩:=az k S;rw[←I,hr];exact brA _ (brH _ o)
 have bn:bm8.getD 0 default=s.wait:=by subst p;rfl
 have T: ∀j,j∈s.done++s.told↔∃k,(k=1∨k=2)∧j∈bm8.getD k default:=fun j=>by
  subst p;constructor
  ·intro h;rcases o3.1 h with h|h;·exact⟨1,.inl rfl,h⟩
   ·exact⟨2,.inr rfl,h⟩
  ·rintro⟨k,rfl|rfl,h⟩;·exact brA _ h
   ·exact brH _ h
 have J: ∀k,k<3→(bm8.getD k default).length<2^21:=fun k S=>by
  have:k=0∨k=1∨k=2:=by omega
  subst p;rcases this with rfl|rfl|rfl<;>(simp[List.getD];omega)
 have cc: ∀k,k≤3→(seen k).length≤k*2^21:=fun k S=>by
  have e1:=J 0 (by omega);have e2:=J 1 (by omega);have e3:=J 2 (by omega);have bpR:(seen 1).length=(bm8.getD 0 default).length:=by rw[d 0 (by omega),B,List.nil_append]
  have f2:(seen 2).length=(seen 1).length+(bm8.getD 1 default).length:=by rw[d 1 (by omega),t2]
  have bpS:(seen 3).length=(seen 2).length+(bm8.getD 2 default).length:=by rw[d 2 (by omega),t2]
  have:k=0∨k=1∨k=2∨k=3:=by omega
  rcases this with rfl|rfl|rfl|rfl;·rw[B];simp
  ·omega
  ·omega
  ·omega
 rw[ay];clear ay p G
 refine aM.sG 1 (β:=Nat) (fun b k=>en [(65,boP k),(64,boP 3),(63,dS (bm8.map IF)),(8,.one (.c (.omap b))),(5,boP (s.asked.take 3).sum),(3,.one (.c (.fQ (eSt s)))),(2,.one (.c (.fQ (cU c))))]) (fun b k=>hp [(b,u4 ⟨2,true,UB (seen k)⟩)])
  (fun k=>k≤3∧(∀j∈seen k,InA s.asked j)∧((seen k).map key).Nodup∧(0<k→∀j∈s.wait,j.rsp=oW)∧ ∀i,i<k→0<i→∀j∈bm8.getD i default,as5 c j) (fun k=>3-k) 0 ?_ ⟨by omega,fun j o=>by rw[B] at o;simp at o,by rw[B];simp,fun h=>by omega,fun i hi=>by omega⟩ ?_
 ·refine cR [31] (by omega) ?_ ⟨⟨by simp,by simp[sgL],_,rfl,GH (by rw[B];rfl)⟩,trivial⟩ (by simp[sgL]);refine oF (oF (oF (oF (oF (oF (oF K6 ?_) ?_) ?_) ?_) ?_) ?_) ?_
  all_goals first
   |exact DJ (rows:=bm8.map IF) (aG al7 bm8) (by simp;omega) (by simp) rfl rfl (boL (by simp)) (by simp;omega)
   |exact apS (aa6 (by omega) rfl)
   | (repeat' (first|exact bo2| ((with_reducible apply bo1);exact bo8 rfl)|fail);done)
 rintro k ⟨S,ad,ae,ba,af⟩ bqG bo;by_cases z:k<3
 ·have C:=d k z;have bb:=ab k z;have bp:=J k z;obtain⟨rest,D⟩:=az k z;have ag:k=0→bm8.getD k default=s.wait:=fun h=>by rw[h];exact bn
  have bc:0<k→∀j∈bm8.getD k default,j∈s.done++s.told:=fun h j o=>(T j).2 ⟨k,by omega,o⟩;have bq: ∀i,i<k→0<i→∀j∈bm8.getD i default,as5 c j:=af
  have bd:(∀j∈bm8.getD k default,as5 c j)→∀i,i<k+1→0<i→∀j∈bm8.getD i default,as5 c j:=fun h i hi h0=>by
   rcases br8.1 hi with h2|h2;·exact af i h2 h0
   ·subst h2;exact h
  generalize ah:bm8.getD k default=cur at C bb bp ag bc D bd;repeat' first|apply bn1<;>(simp only[go_sem,ah])|apply bn2 (by omega)|refine⟨by omega,?_⟩|fail
  refine aM.sG 1 (β:=Nat) (fun b i=>en [(72,boP i),(71,boP cur.length),(70,dS (cur.map aS)),(65,boP k),(64,boP 3),(63,dS (bm8.map IF)),(9,boP k),(8,.one (.c (.omap b))),(5,boP (s.asked.take 3).sum),(3,.one (.c (.fQ (eSt s)))),(2,.one (.c (.fQ (cU c))))]) (fun b i=>hp [(b,u4 ⟨2,true,UB (seen k++cur.take i)⟩)])
   (fun i=>i≤cur.length∧(∀j∈seen k++cur.take i,InA s.asked j)∧((seen k++cur.take i).map key).Nodup∧ ∀j∈cur.take i,if k=0 then j.rsp=oW else as5 c j) (fun i=>cur.length-i) 0 (by(refine cR [42] (by omega) (by repeat' first|exact bo2|refine xqI rfl rfl ?_| (with_reducible apply bo3)| ((with_reducible apply bo0);exact bpD (by omega) rfl)| ((with_reducible apply bo1);apply bo7)|fail) ⟨⟨by simp,by simp[sgL],_,rfl,GH (by simp)⟩,trivial⟩ (by simp[sgL]))) ⟨by omega,by simpa using ad,by simpa using ae,by simp⟩ ?_
  rintro i ⟨hi,ai,aj,L⟩ bqR bf;by_cases M:i<cur.length
  ·have ak:=cC M;have bg:=bb _ ak;have N:=hd _ bg;have E:cur.take (i+1)=cur.take i++[cur.getD i default]:=(by rw[brQ M];simp[List.getD,M]);have al:s.wait++s.done++s.told=(seen k++cur.take i)++cur.getD i default::(cur.drop (i+1)++rest):=(by rw[←I,D,C0,C0,←List.cons_append,←C0 (cur.take i),←aXB M]);have br:k=0→cur.getD i default∈s.wait:=fun h=>by rw[←ag h];exact ak
   have bs:0<k→cur.getD i default∈s.done++s.told:=fun h=>bc h _ ak;generalize A:cur.getD i default=j at*;have an: ¬InA s.asked j→¬BA c s:=fun h hs=>h (hs.inA j bg);have ao:key j∈(seen k++cur.take i).map key→¬BA c s:=fun h hs=>by have hn:=hs.nodup;unfold keys at hn;rw[al,bqX] at hn;exact(brG.1 hn).2.2 _ h _ (by simp) rfl
   by_cases F:InA s.asked j
   case neg=>
    unfold InA at F;have bt:(s.asked.length:Int)=3:=(by omega);have bu:=bm j.who.toNat;have ax:=t j.who.toNat;repeat' first| (first|apply bn1|apply bpJ (by omega)|refine bpL (fun h=> ?_) fun h=> ?_|apply oR|apply fE)<;>(simp only[go_sem,A];try simp (disch:=omega) only[Iw])|apply bn2 (by omega)|refine⟨by omega,?_⟩|fail
    all_goals first
     |exact aZ O (dB false) rfl rfl (congrArg dB (aWH (an F)).symm)
     | (exfalso;omega)
   have g:key j∉(seen k++cur.take i).map key∨key j∈(seen k++cur.take i).map key:=(Classical.em _).symm
   have U: ∀x∈seen k++cur.take (i+1),InA s.asked x:=fun x q=>by
    rw[E,←C0] at q;rcases o3.1 q with q|q;·exact ai x q
    ·simp at q;subst q;exact F
   have bw:oA c j.who j.n:=by obtain⟨⟨q1,q2⟩,q3,q4⟩:=F;have:=v j.who.toNat (by omega);exact⟨⟨q1,q2⟩,q3,by omega⟩
   obtain⟨⟨q1,q2⟩,q3,q4⟩:=F;have bu:=v j.who.toNat (by omega);have ax:=t j.who.toNat;rcases g with g|g
   case inr=>
    have e:=aXE g;repeat' first| (first|apply bn1|apply bpK (by omega)|apply oR|apply fE)<;>(simp only[go_sem,A,e,Option.getD_some];try simp (disch:=omega) only[Iw])|apply bn2 (by omega)|refine⟨by omega,?_⟩|fail
    all_goals exact aZ O (dB false) rfl rfl (congrArg dB (aWH (ao g)).symm)
   have e:=alK g;have y:=alD g;have V:((seen k++cur.take (i+1)).map key).Nodup:=by rw[E,←C0,bqX];refine brG.2 ⟨aj,by simp,fun a ha b hb he=> ?_⟩;simp at hb;subst hb;subst he;exact g ha
   have W:(if k=0 then j.rsp=oW else as5 c j)→∀x∈cur.take (i+1),if k=0 then x.rsp=oW else as5 c x:=fun h x q=>by
    rw[E] at q;rcases o3.1 q with q|q;·exact L x q
    ·simp at q;subst q;exact h
   by_cases m:k=0
   ·by_cases f:j.rsp=oW
    ·repeat' first| (first|apply bn1|apply bpJ (by omega)|apply bpK (by omega)|apply oR|apply fE|apply HK N)<;>(simp only[go_sem,A,e,y,Option.getD_none,eq_true f];try simp (disch:=omega) only[Iw])|apply bn2 (by omega)|refine⟨by omega,?_⟩|fail
     exact bf _ _ _ (i+1) (by omega) (by(refine cR [52] (by omega) (by repeat' first|exact bo2|refine xqI rfl rfl ?_| (with_reducible apply bo3)| ((with_reducible apply bo0);exact bpD (by omega) rfl)| ((with_reducible apply bo1);apply bo7)|fail) ⟨⟨by simp,by simp[sgL],_,rfl,GH (by rw[E,C0])⟩,trivial⟩ (by simp[sgL]))) ⟨by omega,U,V,W (by rw[if_pos m];exact f)⟩ (by omega)
    ·repeat' first| (first|apply bn1|apply bpJ (by omega)|apply bpK (by omega)|apply oR|apply fE|apply HK N)<;>(simp only[go_sem,A,e,y,Option.getD_none,eq_false f];try simp (disch:=omega) only[Iw])|apply bn2 (by omega)|refine⟨by omega,?_⟩|fail
     exact aZ O (dB false) rfl rfl (congrArg dB (aWH fun hs=>f (hs.P4 j (br m))).symm)
   ·have bx:0<k:=(by omega);have X: ¬as5 c j→¬BA c s:=fun h hs=>h (hs.R8 j (bs bx));by_cases f:pA j.rsp
    ·repeat' first| (first|apply bn1|apply bpJ (by omega)|apply bpK (by omega)|apply oR|apply fE|apply I8 N|apply iJ bh bw)<;>(simp only[go_sem,A,e,y,Option.getD_none,eq_true f];try simp (disch:=omega) only[Iw])|apply bn2 (by omega)|refine bnE (fun h=> ?_) fun h=> ?_|refine⟨by omega,?_⟩|fail
     ·exact aZ O (dB false) rfl rfl (congrArg dB (aWH (X fun h=>by have:=h.2;omega)).symm)
     ·exact bf _ _ _ (i+1) (by omega) (by(refine cR [52] (by omega) (by repeat' first|exact bo2|refine xqI rfl rfl ?_| (with_reducible apply bo3)| ((with_reducible apply bo0);exact bpD (by omega) rfl)| ((with_reducible apply bo1);apply bo7)|fail) ⟨⟨by simp,by simp[sgL],_,rfl,GH (by rw[E,C0])⟩,trivial⟩ (by simp[sgL]))) ⟨by omega,U,V,W (by rw[if_neg m];exact⟨f,by omega⟩)⟩ (by omega)
    ·repeat' first| (first|apply bn1|apply bpJ (by omega)|apply bpK (by omega)|apply oR|apply fE|apply I8 N)<;>(simp only[go_sem,A,e,y,Option.getD_none,eq_false f];try simp (disch:=omega) only[Iw])|apply bn2 (by omega)|refine⟨by omega,?_⟩|fail
     exact aZ O (dB false) rfl rfl (congrArg dB (aWH (X fun h=>f h.1)).symm)
  ·have bz:i=cur.length:=(by omega);subst bz;rw[bq4,←C] at ai aj;rw[bq4] at L;rw[bq4,←C];repeat' first|apply bn1<;>(simp only[go_sem];try simp (disch:=omega) only[Iw])|apply bn3 (by omega)|fail
   refine bo _ _ _ (k+1) (by omega) (by(refine cR [52] (by omega) (by repeat' first|exact bo2|refine xqI rfl rfl ?_| (with_reducible apply bo3)| ((with_reducible apply bo0);exact bpD (by omega) rfl)| ((with_reducible apply bo1);apply bo7)|fail) ⟨⟨by simp,by simp[sgL],_,rfl,GH rfl⟩,trivial⟩ (by simp[sgL]))) ⟨by omega,ai,aj,fun _=> ?_,?_⟩ (by omega)
   ·by_cases m:k=0;·intro j o;have:=L j (by rw[ag m];exact o);rwa [if_pos m] at this
    ·exact ba (by omega)
   ·intro i2 h1 h2;by_cases m:k=0;·omega
    ·exact bd (fun j o=>by have:=L j o;rwa [if_neg m] at this) i2 h1 h2
 ·have aa:k=3:=by omega
  subst aa;rw[I] at ad ae;have ca:=congrArg List.length I;rw[t2,t2] at ca;repeat' first|apply bn1<;>(simp only[go_sem])|apply bn3 (by omega)|fail
  refine aZ O (dB (decide (((UB (seen 3)).length:Int)=(s.asked.take 3).sum))) rfl rfl (congrArg dB ?_);rw[amR];by_cases Y:((seen 3).length:Int)=(s.asked.take 3).sum;·rw[decide_eq_true Y];refine(aXJ (aUA P Z v aq ar ad ae (by omega) (ba (by omega)) fun j o=> ?_)).symm;obtain⟨k,S,o⟩:=(T j).1 o;exact af k (by omega) (by omega) j o
  ·rw[decide_eq_false Y];exact(aWH fun hs=>by have:=hs.count;omega).symm
end
end Go.Proofs.YtdkfhdmagdaceaaGreat
