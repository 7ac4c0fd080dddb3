/- Texts laid together by a program: rules, contracts and the walk that leads to the law. -/
import Derived.Test.YtdkfhdmagdaceaaGreatPJ9
import Derived.Test.YtdkfhdmagdaceaaGreatPJ7
import Derived.Test.YtdkfhdmagdaceaaGreatPJ4
import Derived.Test.YtdkfhdmagdaceaaGreatPJ6
import Derived.Test.YtdkfhdmagdaceaaGreatPJ3
set_option linter.unusedVariables false
set_option linter.unusedSimpArgs false
set_option linter.unusedSectionVars false
set_option maxRecDepth 100000
set_option maxHeartbeats 8000000
namespace Go.Proofs.YtdkfhdmagdaceaaGreat
open Go Go.AM
attribute [local irreducible] aM wv aB vd wvH
section
variable {H : aA} {nx : Nat} {K : D → aA → Nat → Prop}
theorem aD5 {l:List Rng} (hl:l.length<2^40) (h:K (dB (decide (DH l))) H nx):aB Tryz.prog aBG [dS (l.map eN)] H nx K:=by
 refine aB.pure (args0:=[dS (l.map eN)]) (R:=fun A=>A=dB (decide (DH l))) ?_ rfl (aI ⟨aE rfl,trivial⟩) (fun r hr=>hr▸h);clear h;refine aDM rfl fun Q g=> ?_;unfold aBO;by_cases m:(l.length:Int)≤4
 ·repeat' first|apply bn1<;>(simp only[go_sem])|apply bn3 (by omega)|fail
  refine aM.gP (β:=Nat) (fun k=>en [(3,boP k),(0,dS (l.map eN))]) (fun k _ _=>k≤l.length∧ ∀i,i<k→V9 l i) (fun k=>l.length-k) 0 ⟨noF,_,by repeat' first|exact bo2|refine xqI rfl rfl ?_|fail,aK,by omega,fun i hi=>by omega⟩ ?_;rintro k H1 n w ⟨F,hinv⟩ bpQ p;by_cases o:k<l.length
  ·obtain⟨r,hr⟩: ∃r,r=l.getD k default:=⟨_,rfl⟩
   have e:l.getD k default=r:=hr.symm;have a: ¬SF r→¬DH l:=fun h hm=>h (by rw[hr];exact(hm.2 k o).1);repeat' first| (first|apply bn1|refine bpL (fun h=> ?_) fun h=> ?_|apply aBC)<;>(simp only[go_sem,e,boC])|apply bn2 (by omega)|refine bnE (fun h=> ?_) fun h=> ?_|refine⟨by omega,?_⟩|fail
   ·exact aZ g (dB false) rfl rfl (j7 (a fun hm=>by unfold SF at hm;omega))
   ·exact aZ g (dB false) rfl rfl (j7 (a fun hm=>by unfold SF at hm;omega))
   ·exact aZ g (dB false) rfl rfl (j7 (a fun hm=>by unfold SF at hm;omega))
   have q:SF r:=(by unfold SF;omega);refine aM.gP (β:=Nat) (fun j=>en [(5,boP j),(4,.one (.c (.ptr 4 (n+8) 0 0))),(3,boP k),(0,dS (l.map eN))]) (fun j y _=>(j≤k∧ ∀i,i<j→aaM (l.getD i default) r=false)∧y (n+8)=some ⟨4,1,[eN r]⟩) (fun j=>k-j) 0 ⟨noF,_,by repeat' first|exact bo2|refine xqI rfl rfl ?_|refine xqP (by omega) rfl rfl ?_|fail,aK,⟨by omega,fun i hi=>by omega⟩,by simp only[aA.set,if_true]⟩ ?_;rintro j y B z ⟨⟨G,b⟩,bp4⟩ bqG s;by_cases C:j<k
   ·obtain⟨t,u⟩: ∃t,t=l.getD j default:=⟨_,rfl⟩
    have d:l.getD j default=t:=u.symm;repeat' first| (first|apply bn1|refine bpL (fun h=> ?_) fun h=> ?_)<;>(simp only[go_sem,d,bp4];try simp (disch:=omega) only[Iw])|apply bn2 (by omega)|refine bnE (fun h=> ?_) fun h=> ?_|refine⟨by omega,?_⟩|fail
    ·refine aZ g (dB false) rfl rfl (j7 fun hm=> ?_);have D:=(hm.2 k o).2;refine D (cH.2 ⟨l.getD j default,bqY.2 ⟨j,by simp;omega,by simp[List.getD,show j<l.length by omega]⟩,decide_eq_true ?_⟩);rw[d,e];omega
    all_goals exact s _ _ _ (j+1) noF _ (by omega) (by omega) (by repeat' first|exact bo2|refine xqI rfl rfl ?_|refine xqP (by omega) rfl rfl ?_|fail) aK ⟨⟨by omega,iS b (by rw[d];exact decide_eq_false (by omega))⟩,bp4⟩
   ·repeat' first|apply bn1<;>(simp only[go_sem];try simp (disch:=omega) only[Iw])|apply bn3 (by omega)|fail
    refine p _ _ _ (k+1) noF _ (by omega) (by omega) (by repeat' first|exact bo2|refine xqI rfl rfl ?_|fail) aK ⟨by omega,iS hinv ⟨by rw[e];exact q,fun hc=> ?_⟩⟩;obtain⟨x,E,f⟩:=cH.1 hc;obtain⟨i,hi,rfl⟩:=bqY.1 E;have hi':i<k:=(by simp at hi;omega);have:=b i (by omega);simp only[List.getD,show i<l.length by omega,n1,Option.getD_some] at this;rw[e] at f;simp only[brU] at f;rw[this] at f;cases f
  ·repeat' first|apply bn1<;>(simp only[go_sem])|apply bn3 (by omega)|fail
   have v:k=l.length:=(by omega);subst v;exact aZ g (dB true) rfl rfl (q9 ⟨m,hinv⟩)
 ·repeat' first|apply bn1<;>(simp only[go_sem])|apply bn2 (by omega)|fail
  exact aZ g (dB false) rfl rfl (j7 fun h=>m h.1)
theorem aCC {l:List Int} {lo:Int} {up:Int} (hl:l.length<2^40) (h:K (dB (decide (All l lo up))) H nx):aB Tryz.prog aA3 [dS (l.map aJ),boP lo,boP up] H nx K:=by
 refine aB.pure (args0:=[dS (l.map aJ),boP lo,boP up]) (R:=fun d=>d=dB (decide (All l lo up))) ?_ rfl (aI ⟨aE rfl,aE rfl,aE rfl,trivial⟩) (fun r hr=>hr▸h);clear h;refine aDN rfl fun Q c=> ?_;unfold aBP;repeat' first|apply bn1<;>(simp only[go_sem])|fail
 (refine aM.loop (α:={k:Nat//k≤l.length∧(∀i,i<k→lo≤l.getD i default∧l.getD i default≤up)}) (fun u=>en [(7,boP u.1),(2,boP up),(1,boP lo),(0,dS (l.map aJ))]) (fun _=>.nil) _ (fun u=>l.length-u.1) ⟨0,by omega,(by intros;first|trivial|omega)⟩ (bU (m5 _) (by repeat' first|exact bo2|refine xqI rfl rfl ?_|fail)) ?_);(rintro⟨k,f,hinv⟩ bpQ a);by_cases b:k<l.length
 ·repeat' first| (first|apply bn1|apply aBC)<;>(simp only[go_sem];try simp (disch:=omega) only[Iw])|apply bn2 (by omega)|refine bnE (fun h=> ?_) fun h=> ?_|refine⟨by omega,?_⟩|fail
  ·exact aZ c (dB false) rfl rfl (j7 fun e=>by have:=aj1 e b;omega)
  · (refine a _ _ _ ⟨k+1,by omega,iS hinv (by omega)⟩ (by omega) (by(try dsimp only);omega) (bU (m5 _) (by repeat' first|exact bo2|refine xqI rfl rfl ?_|fail)))
 ·repeat' first|apply bn1<;>(simp only[go_sem])|apply bn3 (by omega)|fail
  exact aZ c (dB true) rfl rfl (q9 (aEA fun i hi=>hinv i (by omega)))
theorem aD8 {q:Req} (b:q.data.length<2^40) (hl:q.g6.length<2^40) (h:K (dB (decide (dH q))) H nx):aB Tryz.prog aBF [boR (eB q)] H nx K:=by
 refine aB.pure (args0:=[boR (eB q)]) (R:=fun c=>c=dB (decide (dH q))) ?_ rfl (aI ⟨aE rfl,trivial⟩) (fun r hr=>hr▸h);clear h;refine aDW rfl fun Q a=> ?_;unfold aBM;repeat' first| (first|apply bn1|refine bpL (fun h=> ?_) fun h=> ?_|apply aBC|apply aC2|apply aCI|apply aCC (l:=q.data) b|apply aCC (l:=q.g6) hl)<;>(simp only[go_sem])|refine bnE (fun h=> ?_) fun h=> ?_| ((refine bnF (fun h=> ?_) (fun h=> ?_))<;>try subst h)|fail
 all_goals first|with_reducible refine aZ a _ rfl rfl ?_|skip
 all_goals
  have d:wrM q=true↔(q.kind=2∨q.kind=4):=by simp[wrM]
  have e:All ([]:List Int) 0 65535:=by simp[All]
  have f:All ([]:List Int) 0 3:=by simp[All]
  have g:q.data.length=0→q.data=[]:=H4.1
  have i:q.g6.length=0→q.g6=[]:=H4.1
  clear a
  first|exact j7 (by unfold dH n5;grind)|exact q9 (by unfold dH n5;grind)|exact pD (by unfold dH n5;grind)
theorem aMP {r:Rsp} (hr:r.data.length<2^40) (h:K (dB (decide (pA r))) H nx):aB Tryz.prog aIP [boR (tG r)] H nx K:=by
 refine aB.pure (args0:=[boR (tG r)]) (R:=fun a=>a=dB (decide (pA r))) ?_ rfl (aI ⟨aE rfl,trivial⟩) (fun r hr=>hr▸h);clear h;refine aMN rfl fun Q b=> ?_;unfold aJL;repeat' first| (first|apply bn1|refine bpL (fun h=> ?_) fun h=> ?_|apply aBC|apply aCC (l:=r.data) hr)<;>(simp only[go_sem])|fail
 all_goals first|with_reducible refine aZ b _ rfl rfl ?_|skip
 all_goals first|exact j7 (by unfold pA;grind)|exact pD (by unfold pA;grind)|exact q9 (by unfold pA;grind)
theorem aL2 {p:Prog} (hp:p.length<2^40) (d: ∀q∈p,q.data.length<2^40∧q.g6.length<2^40) (h:K (dB (decide (∀q∈p,dH q))) H nx):aB Tryz.prog aI2 [dS (p.map eB)] H nx K:=by
 refine aB.pure (args0:=[dS (p.map eB)]) (R:=fun e=>e=dB (decide (∀q∈p,dH q))) ?_ rfl (aI ⟨aE rfl,trivial⟩) (fun r hr=>hr▸h);clear h;refine aLI rfl fun Q c=> ?_;unfold aJC;repeat' first|apply bn1<;>(simp only[go_sem])|fail
 (refine aM.loop (α:={k:Nat//k≤p.length∧(∀i,i<k→dH (p.getD i default))}) (fun u=>en [(3,boP u.1),(0,dS (p.map eB))]) (fun _=>.nil) _ (fun u=>p.length-u.1) ⟨0,by omega,(by intros;first|trivial|omega)⟩ (bU (m5 _) (by repeat' first|exact bo2|refine xqI rfl rfl ?_|fail)) ?_);(rintro⟨k,g,hinv⟩ bpQ b);by_cases a:k<p.length
 ·have hm:=d _ (cC a);repeat' first| (first|apply bn1|apply aD8 hm.1 hm.2)<;>(simp only[go_sem];try simp (disch:=omega) only[Iw])|apply bn2 (by omega)|refine bnE (fun h=> ?_) fun h=> ?_|refine⟨by omega,?_⟩|fail
  ·exact aZ c (dB false) rfl rfl (j7 fun f=>by have:=f _ (cC a);simp_all)
  · (refine b _ _ _ ⟨k+1,by omega,iS hinv (by simp_all)⟩ (by omega) (by(try dsimp only);omega) (bU (m5 _) (by repeat' first|exact bo2|refine xqI rfl rfl ?_|fail)))
 ·repeat' first|apply bn1<;>(simp only[go_sem])|apply bn3 (by omega)|fail
  exact aZ c (dB true) rfl rfl (q9 (aKJ fun i hi=>hinv i (by omega)))
theorem aKG {c:Cfg} (hc:jO c) (h:K (dB (decide (aQ c))) H nx):aB Tryz.prog aIV [boR (cU c)] H nx K:=by
 refine aB.pure (args0:=[boR (cU c)]) (R:=fun o=>o=dB (decide (aQ c))) ?_ rfl (aI ⟨aE rfl,trivial⟩) (fun r hr=>hr▸h);clear h;refine aLX rfl fun Q b=> ?_;unfold aJQ;have a:aQ c↔DH c.map∧(c.lat.length:Int)=4∧All c.lat 0 3∧(c.cP.length:Int)=3∧ ∀p∈c.cP,(p.length:Int)≤12∧ ∀q∈p,dH q:=by unfold aQ mV;simp only[cH,not_exists,not_and,decide_eq_true_eq,Classical.not_imp,Classical.not_not]
 by_cases d:DH c.map∧(c.lat.length:Int)=4∧All c.lat 0 3∧(c.cP.length:Int)=3
 ·obtain⟨m,s,n,t⟩:=d;repeat' first| (first|apply bn1|apply bpK (by omega)|apply aD5 hc.map|apply aCC (l:=c.lat) hc.lat)<;>(simp only[go_sem,eq_true m,eq_true n])|apply bn3 (by omega)|fail
  (refine aM.loop (α:={k:Nat//k≤3∧(∀i,i<k→((c.cP.getD i default).length:Int)≤12∧ ∀q∈c.cP.getD i default,dH q)}) (fun u=>en [(3,boP u.1),(1,.one (.c (.fQ (cU c))))]) (fun _=>.nil) _ (fun u=>3-u.1) ⟨0,by omega,(by intros;first|trivial|omega)⟩ (bU (m5 _) (by repeat' first|exact bo2|refine xqI rfl rfl ?_| (with_reducible apply bo3)| ((with_reducible apply bo1);exact bpH rfl (by simp) rfl rfl rfl)|fail)) ?_);(rintro⟨k,w,hinv⟩ bpQ e);by_cases v:k<3
  ·have hm:c.cP.getD k default∈c.cP:=cC (by omega);have f:=hc.prog _ hm;have g:=hc.req _ hm;repeat' first| (first|apply bn1|refine bpL (fun h=> ?_) fun h=> ?_|apply aL2 f g)<;>(simp only[go_sem];try simp (disch:=omega) only[Iw])|apply bn2 (by omega)|refine bnE (fun h=> ?_) fun h=> ?_|refine⟨by omega,?_⟩|fail
   ·exact aZ b (dB false) rfl rfl (j7 fun hB=>by have:=((a.1 hB).2.2.2.2 _ hm).1;omega)
   ·exact aZ b (dB false) rfl rfl (j7 fun hB=>by have:=((a.1 hB).2.2.2.2 _ hm).2;simp_all)
   · (refine e _ _ _ ⟨k+1,by omega,iS hinv ⟨by omega,by simp_all⟩⟩ (by omega) (by(try dsimp only);omega) (bU (m5 _) (by repeat' first|exact bo2|refine xqI rfl rfl ?_|fail)))
  ·repeat' first|apply bn1<;>(simp only[go_sem])|apply bn3 (by omega)|fail
   exact aZ b (dB true) rfl rfl (q9 (a.2 ⟨m,s,n,t,aKJ fun i hi=>hinv i (by omega)⟩))
 ·have j: ¬aQ c:=fun hB=>d ⟨(a.1 hB).1,(a.1 hB).2.1,(a.1 hB).2.2.1,(a.1 hB).2.2.2.1⟩;repeat' first| (first|apply bn1|refine bpL (fun h=> ?_) fun h=> ?_|apply aD5 hc.map|apply aCC (l:=c.lat) hc.lat)<;>(simp only[go_sem])|refine bnE (fun h=> ?_) fun h=> ?_|fail
  all_goals first|exact aZ b (dB false) rfl rfl (j7 j)|exact absurd ⟨by simp_all,by omega,by simp_all,by omega⟩ d
theorem aMS {l:List Int} (hl:l.length<2^40) (h:K (dB (decide ((l.length:Int)=64∧All l 0 65535))) H nx):aB Tryz.prog aI7 [boR [.isl (l.map aJ)]] H nx K:=by
 refine aB.pure (args0:=[boR [.isl (l.map aJ)]]) (R:=fun f=>f=dB (decide ((l.length:Int)=64∧All l 0 65535))) ?_ rfl (aI ⟨aE rfl,trivial⟩) (fun r hr=>hr▸h);clear h;refine aMO rfl fun Q a=> ?_;unfold aJK;repeat' first|apply bn1<;>(simp only[go_sem])|refine bnE (fun h=> ?_) fun h=> ?_|fail
 ·exact aZ a (dB false) rfl rfl (j7 fun e=>by omega)
 (refine aM.loop (α:={k:Nat//k≤l.length∧(∀i,i<k→0≤l.getD i default∧l.getD i default≤65535)}) (fun u=>en [(3,boP u.1),(1,.one (.c (.fQ [.isl (l.map aJ)])))]) (fun _=>.nil) _ (fun u=>l.length-u.1) ⟨0,by omega,(by intros;first|trivial|omega)⟩ (bU (m5 _) (by repeat' first|exact bo2|refine xqI rfl rfl ?_| (with_reducible apply bo3)| ((with_reducible apply bo1);exact bpH rfl (by simp) rfl rfl rfl)|fail)) ?_);(rintro⟨k,g,hinv⟩ bpQ b);by_cases d:k<l.length
 ·repeat' first| (first|apply bn1|apply aBC)<;>(simp only[go_sem];try simp (disch:=omega) only[Iw])|apply bn2 (by omega)|refine bnE (fun h=> ?_) fun h=> ?_|refine⟨by omega,?_⟩|fail
  ·exact aZ a (dB false) rfl rfl (j7 fun e=>by have:=aj1 e.2 d;omega)
  · (refine b _ _ _ ⟨k+1,by omega,iS hinv (by omega)⟩ (by omega) (by(try dsimp only);omega) (bU (m5 _) (by repeat' first|exact bo2|refine xqI rfl rfl ?_|fail)))
 ·repeat' first|apply bn1<;>(simp only[go_sem])|apply bn3 (by omega)|fail
  exact aZ a (dB true) rfl rfl (q9 ⟨by omega,aEA fun i hi=>hinv i (by omega)⟩)
theorem aKH {w:List Int} {u:List Int} (hw:w.length<2^40) (hu:u.length<2^40) (h:K (dB (decide (JS w u))) H nx):aB Tryz.prog aIU [boR [.isl (w.map aJ),.isl (u.map aJ)]] H nx K:=by
 refine aB.pure (args0:=[boR [.isl (w.map aJ),.isl (u.map aJ)]]) (R:=fun a=>a=dB (decide (JS w u))) ?_ rfl (aI ⟨aE rfl,trivial⟩) (fun r hr=>hr▸h);clear h;refine aLR rfl fun Q b=> ?_;unfold aJM;repeat' first| (first|apply bn1|refine bpL (fun h=> ?_) fun h=> ?_|apply aMS hw|apply aCC (l:=u) hu)<;>(simp only[go_sem])|fail
 all_goals first|with_reducible refine aZ b _ rfl rfl ?_|skip
 all_goals first|exact j7 (by unfold JS;grind)|exact pD (by unfold JS;grind)
end
attribute [go_sem] agE ai7
section
variable {H : aA} {nx : Nat} {K : D → aA → Nat → Prop}
theorem c9 {a:Job} {b:Job} (h:K (dB (uL a b)) H nx):aB Tryz.prog aKL [boR (aS a),boR (aS b)] H nx K:=by
 refine aB.pure (args0:=[boR (aS a),boR (aS b)]) (R:=fun c=>c=dB (uL a b)) ?_ rfl (aI ⟨aE rfl,aE rfl,trivial⟩) (fun r hr=>hr▸h);clear h;refine aPS rfl fun Q d=> ?_;unfold ap2;repeat' first| (first|apply bn1|refine bpL (fun h=> ?_) fun h=> ?_)<;>(simp only[go_sem])|fail
 all_goals first|with_reducible refine aZ d _ rfl rfl ?_|skip
 all_goals first|exact q9 (by grind)|exact j7 (by grind)|exact pD (by grind)
theorem aKK {l:List Job} {who:Int} {n:Int} (hl:l.length<2^40) (h:K (boP (bK (iM who n) l)) H nx):aB Tryz.prog aIN [dS (l.map aS),boP who,boP n] H nx K:=by
 refine aB.pure (args0:=[dS (l.map aS),boP who,boP n]) (R:=fun c=>c=boP (bK (iM who n) l)) ?_ rfl (aI ⟨aE rfl,aE rfl,aE rfl,trivial⟩) (fun r hr=>hr▸h);clear h;refine aM1 rfl fun Q b=> ?_;unfold aJR;repeat' first|apply bn1<;>(simp only[go_sem])|fail
 (refine aM.loop (α:={k:Nat//k≤l.length∧(∀i,i<k→iM who n (l.getD i default)=false)}) (fun u=>en [(7,boP u.1),(2,boP n),(1,boP who),(0,dS (l.map aS))]) (fun _=>.nil) _ (fun u=>l.length-u.1) ⟨0,by omega,(by intros;first|trivial|omega)⟩ (bU (m5 _) (by repeat' first|exact bo2|refine xqI rfl rfl ?_|fail)) ?_);(rintro⟨k,d,hinv⟩ bpQ a);repeat' first| (first|apply bn1|refine bpL (fun h=> ?_) fun h=> ?_)<;>(simp only[go_sem];try simp (disch:=omega) only[Iw])|refine bnE (fun h=> ?_) fun h=> ?_|refine⟨by omega,?_⟩|fail
 ·refine aZ b _ rfl rfl (qA (bq3 (CU (by omega) (decide_eq_true (by omega)) hinv)))
 · (refine a _ _ _ ⟨k+1,by omega,iS hinv (decide_eq_false (by omega))⟩ (by omega) (by(try dsimp only);omega) (bU (m5 _) (by repeat' first|exact bo2|refine xqI rfl rfl ?_|fail)))
 · (refine a _ _ _ ⟨k+1,by omega,iS hinv (decide_eq_false (by omega))⟩ (by omega) (by(try dsimp only);omega) (bU (m5 _) (by repeat' first|exact bo2|refine xqI rfl rfl ?_|fail)))
 ·refine aZ b _ rfl rfl (qA (bq3 (tI fun i hi=>hinv i (by omega))))
theorem ap1 {c:Cfg} {l:List Job} {e:Ev} (hl:l.length<2^40) (hp:c.cP.length=3) (m:oA c e.who e.n) (o: ∀j∈l,j.who=e.who→j.n<e.n→oA c j.who j.n) (h:K (dB (decide (¬0≤bK (adI c e) l))) H nx):aB Tryz.prog b8 [boR (cU c),dS (l.map aS),boP e.who,boP e.n] H nx K:=by
 refine aB.pure (args0:=[boR (cU c),dS (l.map aS),boP e.who,boP e.n]) (R:=fun p=>p=dB (decide (¬0≤bK (adI c e) l))) ?_ rfl (aI ⟨aE rfl,aE rfl,aE rfl,aE rfl,trivial⟩) (fun r hr=>hr▸h);clear h;refine aP9 rfl fun Q g=> ?_;unfold aNK;obtain⟨q,s,t⟩:=m;repeat' first|apply bn1<;>(simp only[go_sem])|fail
 (refine aM.loop (α:={k:Nat//k≤l.length∧(∀i,i<k→adI c e (l.getD i default)=false)}) (fun u=>en [(9,boP u.1),(4,.one (.c (.fQ (cU c)))),(3,boP e.n),(2,boP e.who),(1,dS (l.map aS))]) (fun _=>.nil) _ (fun u=>l.length-u.1) ⟨0,by omega,(by intros;first|trivial|omega)⟩ (bU (m5 _) (by repeat' first|exact bo2|refine xqI rfl rfl ?_| (with_reducible apply bo3)| ((with_reducible apply bo1);exact bpH rfl (by simp) rfl rfl rfl)|fail)) ?_);(rintro⟨k,x,hinv⟩ bpQ b);by_cases d:k<l.length
 ·by_cases a:(l.getD k default).who=e.who∧(l.getD k default).n<e.n
  ·obtain⟨v,w,f⟩:=o (l.getD k default) (by simp[List.getD,d]) a.1 a.2;rw[a.1] at f;repeat' first| (first|apply bn1|apply bpJ (by omega))<;>(simp only[go_sem];try simp (disch:=omega) only[Iw])|apply bn2 (by omega)|refine bnE (fun h=> ?_) fun h=> ?_|refine⟨by omega,?_⟩|fail
   ·refine aZ g _ rfl rfl (j7 (fun hm=>hm (cH.2 ⟨l.getD k default,by simp[List.getD,d],decide_eq_true (by unfold bT;grind)⟩)))
   · (refine b _ _ _ ⟨k+1,by omega,iS hinv (decide_eq_false (by unfold bT;grind))⟩ (by omega) (by(try dsimp only);omega) (bU (m5 _) (by repeat' first|exact bo2|refine xqI rfl rfl ?_|fail)))
  ·repeat' first| (first|apply bn1|apply bpK (by omega)|refine bpL (fun h=> ?_) fun h=> ?_)<;>(simp only[go_sem];try simp (disch:=omega) only[Iw])|apply bn2 (by omega)|refine⟨by omega,?_⟩|fail
   · (refine b _ _ _ ⟨k+1,by omega,iS hinv (decide_eq_false (by grind))⟩ (by omega) (by(try dsimp only);omega) (bU (m5 _) (by repeat' first|exact bo2|refine xqI rfl rfl ?_|fail)))
   · (refine b _ _ _ ⟨k+1,by omega,iS hinv (decide_eq_false (by grind))⟩ (by omega) (by(try dsimp only);omega) (bU (m5 _) (by repeat' first|exact bo2|refine xqI rfl rfl ?_|fail)))
 ·repeat' first|apply bn1<;>(simp only[go_sem])|apply bn3 (by omega)|fail
  ·refine aZ g _ rfl rfl (q9 (by rw[tI fun i hi=>hinv i (by omega)];omega))
theorem aPM (l:List Job) (j:Job) (hl:l.length<2^21):aB Tryz.prog aJS [dS (l.map aS),boR (aS j)] .nil 0 fun q _ t=>t=0∧q.imm=true∧q=dS ((BM l j).map aS):=by
 refine aSO rfl fun Q r=> ?_;unfold aN3;generalize m:l.findIdx (uL j)=f;repeat' first|apply bn1<;>(simp only[go_sem])|fail
 refine aM.ar4 1 (α:={p:Nat×Nat//p.1≤l.length∧(aN7 l j f p.1).length≤p.2}) (fun b u=>en [(7,boP u.1.1),(6,dB (decide (f<u.1.1))),(5,boQ 5 b (aN7 l j f u.1.1).length u.1.2),(3,.one (.c (.fQ (aS j)))),(0,dS (l.map aS))])
  (fun b u=>hp [(b,⟨5,u.1.2,(aN7 l j f u.1.1).map aS⟩)]) (fun u=>l.length-u.1.1) ⟨(0,0),by omega,by simp[aN7]⟩ (by(refine cR [2] (by omega) (by repeat' first|exact bo2|refine xqI rfl rfl ?_|refine xqO (by omega) rfl rfl (by rfl) ?_| (with_reducible apply bo3)| ((with_reducible apply bo1);exact bpH rfl (by simp) rfl rfl rfl)|fail) ⟨⟨by simp,by simp[sgL],_,rfl,bP (aG dZ _) rfl rfl⟩,trivial⟩ (by simp[sgL]))) ?_
 rintro⟨⟨k,cap⟩,s,hc⟩ bpQ d;dsimp only at s hc;have hlen:=aTU (j:=j) (f:=f) s;by_cases a:k<l.length
 ·have i:=fun e:k≤f=>aT2 (j:=j) a (m▸e);rw[m] at i;repeat' first| (first|apply bn1|refine bpL (fun h=> ?_) fun h=> ?_|apply c9)<;>(simp only[go_sem];try simp (disch:=omega) only[Iw])|apply bn2 (by omega)| (with_reducible first|refine fun(cap:Nat) (g:_≤cap)=> ?_|refine fun(n:_≤cap)=> ?_)| ((refine bnF (fun h=> ?_) (fun h=> ?_))<;>try subst h)|refine⟨by omega,?_⟩|fail
  ·have H:=aT6 (j:=j) a (show k=f from (i (by omega)).1 (by assumption));have aUT:=congrArg List.length H;simp only[t2,List.length_cons,List.length_nil] at aUT;have e:=(i (by omega)).1 (by assumption);(refine d _ _ _ ⟨(k+1,cap),by omega,by dsimp only;omega⟩ (by omega) (by(try dsimp only);omega) (by(refine cR [33] (by omega) (by repeat' first|exact bo2|refine xqI rfl rfl ?_|refine xqO (by omega) rfl rfl (by first|rfl|omega) ?_| (with_reducible apply bo3)| ((with_reducible apply bo0);(exact bpF (by((try dsimp only);exact dbT (by omega))) rfl))| ((with_reducible apply bo1);apply bo7)|fail) ⟨⟨by simp,by simp[sgL],_,rfl,bP (aG dZ _) (congrArg _ H) rfl⟩,trivial⟩ (by simp[sgL]))))
  ·have v: ¬k=f:=fun he=>by have:=(i (by omega)).2 he;simp_all
   have H:=aT3 (j:=j) a (show k<f by omega);have aUT:=congrArg List.length H;simp only[t2,List.length_cons,List.length_nil] at aUT;(refine d _ _ _ ⟨(k+1,cap),by omega,by dsimp only;omega⟩ (by omega) (by(try dsimp only);omega) (by(refine cR [27] (by omega) (by repeat' first|exact bo2|refine xqI rfl rfl ?_|refine xqO (by omega) rfl rfl (by first|rfl|omega) ?_| (with_reducible apply bo3)| ((with_reducible apply bo0);(exact bpF (by((try dsimp only);exact dbE (by omega))) rfl))| ((with_reducible apply bo1);apply bo7)|fail) ⟨⟨by simp,by simp[sgL],_,rfl,bP (aG dZ _) (congrArg _ H) rfl⟩,trivial⟩ (by simp[sgL]))))
  ·have H:=aT8 (j:=j) a (show f<k by omega);have aUT:=congrArg List.length H;simp only[t2,List.length_cons,List.length_nil] at aUT;(refine d _ _ _ ⟨(k+1,cap),by omega,by dsimp only;omega⟩ (by omega) (by(try dsimp only);omega) (by(refine cR [27] (by omega) (by repeat' first|exact bo2|refine xqI rfl rfl ?_|refine xqO (by omega) rfl rfl (by first|rfl|omega) ?_| (with_reducible apply bo3)| ((with_reducible apply bo0);(exact bpF (by((try dsimp only);exact dbE (by omega))) rfl))| ((with_reducible apply bo1);apply bo7)|fail) ⟨⟨by simp,by simp[sgL],_,rfl,bP (aG dZ _) (congrArg _ H) rfl⟩,trivial⟩ (by simp[sgL]))))
 ·have o:k=l.length:=by omega
  subst o;subst m;repeat' first|apply bn1<;>(simp only[go_sem])|apply bn3 (by omega)|refine bnE (fun h=> ?_) fun h=> ?_| (with_reducible first|refine fun(cap:Nat) (g:_≤cap)=> ?_|refine fun(n:_≤cap)=> ?_)|refine⟨by omega,?_⟩|fail
  ·exact V4 r (dS _) _ rfl (yP (l:=aN7 l j _ l.length++[j]) dZ rfl (by simp) (by simp;omega) trivial) rfl (by rw[aTO (by omega)])
  ·exact V4 r (dS _) _ rfl (yP (l:=aN7 l j _ l.length) dZ rfl (by simp) (by omega) trivial) rfl (by rw[aTW (by omega)])
theorem aS4 {l:List Job} {j:Job} (hl:l.length<2^21) (h:K (dS ((BM l j).map aS)) H nx):aB Tryz.prog aJS [dS (l.map aS),boR (aS j)] H nx K:=(aPM l j hl).fresh rfl (fun r hr=>hr▸h)
end
attribute [go_sem] Y5
section
variable {H : aA} {nx : Nat} {K : D → aA → Nat → Prop}
theorem aRW{old:Int}{new:Int}{g6:Int} (a:0≤old∧old≤65535) (b:0≤new∧new≤65535) (c:0≤g6∧g6≤3) (h:K (boP (xZ old new g6)) H nx):aB Tryz.prog aNH [boP old,boP new,boP g6] H nx K:=by
 refine aB.pure (args0:=[boP old,boP new,boP g6]) (R:=fun d=>d=boP (xZ old new g6)) ?_ rfl (aI ⟨aE rfl,aE rfl,aE rfl,trivial⟩) (fun r hr=>hr▸h);clear h;refine aQM rfl fun Q e=> ?_;unfold aNS;repeat' first| (first|apply bn1|apply bpK (by omega)|apply aBC)<;>(simp only[go_sem,brF a.1,bsG a.1,brF b.1,bsG b.1,brF c.1,bsG c.1];try simp (disch:=omega) only[Iw])|apply bn3 (by omega)|refine bnE (fun h=> ?_) fun h=> ?_|fail
 all_goals first|with_reducible refine aZ e _ rfl rfl ?_|skip
 all_goals exact qA (by unfold xZ;simp[*])
theorem aS1 (w all:List Int) (wc wm:Nat) (h:w.length=64) (i:64≤wc) (j:All all 0 63) (m:all.length<2^21):aB Tryz.prog W3 [boR [.osl 1 0 0 64 wc],dS (all.map aJ)] (hp [(0,⟨1,wm,w.map aJ⟩)]) 1
 fun r H' n=>n=1∧ ∃d,H'=hp [(0,d)]∧C7 d∧d=⟨1,wm,w.map aJ⟩∧r=dS ((all.map fun a=>w.getD a.toNat default).map aJ):=by
 refine aR8 rfl fun Q o=> ?_
 unfold aN4
 repeat' first|apply bn1<;>(simp only[go_sem])|fail
 refine aM.sG 2 (β:=Nat×Nat) (fun b u=>en [(6,boP u.1),(5,boQ 1 (b+1) u.1 u.2),(2,bkP 1 b),(1,dS (all.map aJ))])
  (fun b u=>hp [(0,⟨1,wm,w.map aJ⟩),(b,⟨1,1,[[.osl 1 0 0 64 wc]]⟩),(b+1,⟨1,u.2,((all.take u.1).map fun a=>w.getD a.toNat default).map aJ⟩)]) (fun u=>u.1≤all.length∧u.1≤u.2) (fun u=>all.length-u.1) (0,0)
  (by(refine cR [1,3,0] (by omega) (by repeat' first|exact bo2|refine xqI rfl rfl ?_|refine xqP (by omega) rfl rfl ?_|refine xqO (by omega) rfl rfl (by rfl) ?_|fail) ⟨⟨by simp,by simp[sgL],_,rfl,bP (aG bF _) rfl rfl⟩,⟨by simp,by simp[sgL],_,rfl,aP (by repeat' first|exact bo2| (with_reducible first|exact bo4|apply bo5)| ((with_reducible apply bo0);exact bpB (by omega) rfl rfl (by rfl) rfl)|fail)⟩,⟨by simp,by simp[sgL],_,rfl,bP (aG bF _) rfl rfl⟩,trivial⟩ (by simp[sgL]))) ⟨by omega,by omega⟩ ?_
 rintro⟨k,cap⟩ ⟨p,hc⟩ bpQ e
 dsimp only at p hc
 by_cases c:k<all.length
 ·have s:=HB j c;repeat' first|apply bn1<;>(simp only[go_sem];try simp (disch:=omega) only[Iw])|apply bn2 (by omega)| (with_reducible first|refine fun(cap:Nat) (g:_≤cap)=> ?_|refine fun(q:_≤cap)=> ?_)|refine⟨by omega,?_⟩| (refine⟨by(rw[CG];omega),?_⟩)|fail
  refine e _ _ _ (k+1,cap) (by omega) (by(refine cR [6,22,0] (by omega) (by repeat' first|exact bo2|refine xqI rfl rfl ?_|refine xqP (by omega) rfl rfl ?_|refine xqO (by omega) rfl rfl (by rfl) ?_|fail) ⟨⟨by simp,by simp[sgL],_,rfl,bP (aG bF _) rfl rfl⟩,⟨by simp,by simp[sgL],_,rfl,aP (by repeat' first|exact bo2| (with_reducible first|exact bo4|apply bo5)| ((with_reducible apply bo0);exact bpB (by omega) rfl rfl (by rfl) rfl)|fail)⟩,⟨by simp,by simp[sgL],_,rfl,bP (aG bF _) (by rw[nK c,bqX,boL (l:=List.map _ (List.take k all)) (by simp;omega)];rfl) rfl⟩,trivial⟩ (by simp[sgL]))) ⟨by dsimp only;omega,by dsimp only;omega⟩ (by dsimp only;omega)
 ·repeat' first|apply bn1<;>(simp only[go_sem])|apply bn3 (by omega)|fail
  have f:k=all.length:=by omega
  subst f;exact lA o (dS _) _ _ rfl (yP (l:=(all.take all.length).map fun a=>w.getD a.toNat default) bF rfl (by simp) (by simp;omega) (by decide)) rfl (oB bF _) ⟨rfl,by rw[bq4]⟩
variable{w:List Int}{wc wm:Nat}
theorem aSW{all:List Int}{i:Nat} (b:w.length=64) (c:64≤wc) (e:All all 0 63) (d:all.length<2^21) (hi:i<nx) (f:H i=some ⟨1,wm,w.map aJ⟩) (h:K (dS ((all.map fun a=>w.getD a.toNat default).map aJ)) (H.set i ⟨1,wm,w.map aJ⟩) nx):
 aB Tryz.prog W3 [boR [.osl 1 i 0 64 wc],dS (all.map aJ)] H nx K:=
 (aS1 w all wc wm b c e d).OU i rfl (gW ⟨aH (aaF (by omega) rfl rfl rfl rfl) eP,aE rfl,trivial⟩) hi f (oB bF _) fun r k ⟨g,j⟩=>by subst g;subst j;exact h
theorem aSV (w all data g6:List Int) (wc wm:Nat) (i:w.length=64) (hw:All w 0 65535) (j:64≤wc) (l:All all 0 63) (m:all.length<2^21) (h:All data 0 65535) (n:data.length=all.length) (hl:All g6 0 3) (o:g6.length=all.length):
 aB Tryz.prog H5 [boR [.osl 1 0 0 64 wc],dS (all.map aJ),dS (data.map aJ),dS (g6.map aJ)] (hp [(0,⟨1,wm,w.map aJ⟩)]) 1
 fun r H' p=>p=1∧ ∃a,H'=hp [(0,a)]∧C7 a∧a=⟨1,wm,(FV w all data g6 all.length).map aJ⟩∧r=boR [.osl 1 0 0 64 wc]:=by
 refine aRX rfl fun Q q=> ?_
 unfold aN6
 repeat' first|apply bn1<;>(simp only[go_sem])|fail
 refine aM.sG 2 (β:=Nat) (fun b k=>en [(9,boP k),(8,bkP 1 (b+1)),(4,bkP 1 b),(3,dS (g6.map aJ)),(2,dS (data.map aJ)),(1,dS (all.map aJ))])
  (fun b k=>hp [(0,⟨1,wm,(FV w all data g6 k).map aJ⟩),(b,⟨1,1,[[.osl 1 0 0 64 wc]]⟩),(b+1,⟨1,1,[[.osl 0 0 0 0 0]]⟩)]) (fun k=>k≤all.length) (fun k=>all.length-k) 0
  (by(refine cR [1,2,0] (by omega) (by repeat' first|exact bo2|refine xqI rfl rfl ?_|refine xqP (by omega) rfl rfl ?_|fail) ⟨⟨by simp,by simp[sgL],_,rfl,bP (aG bF _) rfl rfl⟩,⟨by simp,by simp[sgL],_,rfl,aP (by repeat' first|exact bo2| (with_reducible first|exact bo4|apply bo5)| ((with_reducible apply bo0);exact bpB (by omega) rfl rfl (by rfl) rfl)|fail)⟩,⟨by simp,by simp[sgL],_,rfl,aP (by repeat' first|exact bo2| (with_reducible first|exact bo4|apply bo5)| ((with_reducible apply bo0);exact bpA)|fail)⟩,trivial⟩ (by simp[sgL]))) (by omega) ?_
 rintro k t bpQ c
 have s:=AX (w:=w) (all:=all) (data:=data) (g6:=g6) k
 have d:=afR (all:=all) (g6:=g6) hw h k
 by_cases e:k<all.length
 ·have u:=HB l e;have f:(all.getD k default).toNat<(FV w all data g6 k).length:=by omega
  repeat' first| (first|apply bn1|apply aRW (HB d f) (HB h (by omega)) (HB hl (by omega)))<;>(simp only[go_sem];try simp (disch:=omega) only[Iw])|apply bn2 (by omega)|refine⟨by omega,?_⟩|fail
  exact c _ _ _ (k+1) (by omega) (by(refine cR [4,5,0] (by omega) (by repeat' first|exact bo2|refine xqI rfl rfl ?_|refine xqP (by omega) rfl rfl ?_|fail) ⟨⟨by simp,by simp[sgL],_,rfl,bP (aG bF _) rfl rfl⟩,⟨by simp,by simp[sgL],_,rfl,aP (by repeat' first|exact bo2| (with_reducible first|exact bo4|apply bo5)| ((with_reducible apply bo0);exact bpB (by omega) rfl rfl (by rfl) rfl)|fail)⟩,⟨by simp,by simp[sgL],_,rfl,aP (by repeat' first|exact bo2| (with_reducible first|exact bo4|apply bo5)| ((with_reducible apply bo0);exact bpA)|fail)⟩,trivial⟩ (by simp[sgL]))) (by omega) (by omega)
 ·repeat' first|apply bn1<;>(simp only[go_sem])|apply bn3 (by omega)|fail
  have g:k=all.length:=by omega
  subst g;exact lA q (boR [.osl 1 0 0 64 wc]) _ _ rfl (aH (aaF (by omega) rfl rfl rfl rfl) eP) rfl (oB bF _) ⟨rfl,rfl⟩
theorem aS5{all data g6:List Int}{i:Nat} (a:w.length=64) (hw:All w 0 65535) (b:64≤wc) (f:All all 0 63) (c:all.length<2^21) (g:All data 0 65535) (d:data.length=all.length) (hl:All g6 0 3) (e:g6.length=all.length)
 (hi:i<nx) (j:H i=some ⟨1,wm,w.map aJ⟩) (h:K (boR [.osl 1 i 0 64 wc]) (H.set i ⟨1,wm,(FV w all data g6 all.length).map aJ⟩) nx):
 aB Tryz.prog H5 [boR [.osl 1 i 0 64 wc],dS (all.map aJ),dS (data.map aJ),dS (g6.map aJ)] H nx K:=
 (aSV w all data g6 wc wm a hw b f c g d hl e).OU i rfl (gW ⟨aH (aaF (by omega) rfl rfl rfl rfl) eP,aE rfl,aE rfl,aE rfl,trivial⟩) hi j (oB bF _) fun r m ⟨k,l⟩=>by subst k;subst l;exact h
theorem aSK (w a all:List Int) (wc wm hc hm:Nat) (s:a.length=6) (t:6≤hc) (y:all.length<2^21) (z:All all 0 63):
 aB Tryz.prog v9 [boR [.osl 1 0 0 64 wc,.osl 1 1 0 6 hc],dS (all.map aJ)] (hp [(0,⟨1,wm,w.map aJ⟩),(1,⟨1,hm,a.map aJ⟩)]) 2
 fun r H' A=>A=2∧ ∃c d,H'=hp [(0,c),(1,d)]∧C7 c∧C7 d∧c=⟨1,wm,w.map aJ⟩∧d=⟨1,hm,(iU a all).map aJ⟩∧r=boR [.osl 1 0 0 64 wc,.osl 1 1 0 6 hc]:=by
 refine aRM rfl fun Q B=> ?_
 unfold aNU
 repeat' first|apply bn1<;>(simp only[go_sem])|fail
 refine aM.sG 2 (β:=Nat) (fun b k=>en [(5,boP k),(4,bkP 2 (b+1)),(2,bkP 2 b),(1,dS (all.map aJ))])
  (fun b k=>hp [(0,⟨1,wm,w.map aJ⟩),(1,⟨1,hm,(xI a all k).map aJ⟩),(b,⟨2,1,[[.osl 1 0 0 64 wc,.osl 1 1 0 6 hc]]⟩),(b+1,⟨2,1,[[.osl 0 0 0 0 0,.osl 0 0 0 0 0]]⟩)]) (fun k=>k≤6) (fun k=>6-k) 0
  (by(refine cR [2,3,0,1] (by omega) (by repeat' first|exact bo2|refine xqI rfl rfl ?_|refine xqP (by omega) rfl rfl ?_|fail) ⟨⟨by simp,by simp[sgL],_,rfl,bP (aG bF _) rfl rfl⟩,⟨by simp,by simp[sgL],_,rfl,bP (aG bF _) (congrArg _ ac9) rfl⟩,⟨by simp,by simp[sgL],_,rfl,aP (by repeat' first|exact bo2| (with_reducible first|exact bo4|apply bo5)| ((with_reducible apply bo0);exact bpB (by omega) rfl rfl (by rfl) rfl)|fail)⟩,⟨by simp,by simp[sgL],_,rfl,aP (by repeat' first|exact bo2| (with_reducible first|exact bo4|apply bo5)| ((with_reducible apply bo0);exact bpA)|fail)⟩,trivial⟩ (by simp[sgL]))) (by omega) ?_
 rintro k H bpQ i
 have C:=aiJ (all:=all) (show k≤a.length by omega)
 by_cases D:k<6
 ·have E:=akN (all:=all) (show k<a.length by omega);have l:=acP (all:=all) (show k<a.length by omega);repeat' first|apply bn1<;>(simp only[go_sem])|apply bn2 (by omega)|fail
  refine aM.sG 0 (β:=Nat×Int) (fun b u=>en [(6,boP u.1),(5,boP k),(4,bkP 2 6),(2,bkP 2 5),(1,dS (all.map aJ))])
   (fun b u=>hp [(0,⟨1,wm,w.map aJ⟩),(1,⟨1,hm,((xI a all k).set k u.2).map aJ⟩),(5,⟨2,1,[[.osl 1 0 0 64 wc,.osl 1 1 0 6 hc]]⟩),(6,⟨2,1,[[.osl 0 0 0 0 0,.osl 0 0 0 0 0]]⟩)]) (fun u=>u.1≤all.length∧u.2=if a.getD k default∈all.take u.1 then-1 else a.getD k default) (fun u=>all.length-u.1) (0,a.getD k default)
   (by(refine cR [0,1,5,6] (by omega) (by repeat' first|exact bo2|refine xqI rfl rfl ?_|refine xqP (by omega) rfl rfl ?_|fail) ⟨⟨by simp,by simp[sgL],_,rfl,bP (aG bF _) rfl rfl⟩,⟨by simp,by simp[sgL],_,rfl,bP (aG bF _) (congrArg _ l) rfl⟩,⟨by simp,by simp[sgL],_,rfl,aP (by repeat' first|exact bo2| (with_reducible first|exact bo4|apply bo5)| ((with_reducible apply bo0);exact bpB (by omega) rfl rfl (by rfl) rfl)|fail)⟩,⟨by simp,by simp[sgL],_,rfl,aP (by repeat' first|exact bo2| (with_reducible first|exact bo4|apply bo5)| ((with_reducible apply bo0);exact bpA)|fail)⟩,trivial⟩ (by simp[sgL]))) ⟨by omega,by simp⟩ ?_
  rintro⟨j,v⟩ ⟨F,p⟩ aUS e;dsimp only at F p;by_cases f:j<all.length
  ·have I:=HB z f;have G:((xI a all k).set k v).getD k default=v:=(by rw[wV (by omega),if_pos rfl]);have g: ∀x,((xI a all k).set k v).set k x=(xI a all k).set k x:=fun x=>by rw[List.set_set]
   have q:=nK f;repeat' first|apply bn1<;>(simp only[go_sem,G,g];try simp (disch:=omega) only[Iw])|apply bn2 (by omega)|refine bnE (fun h=> ?_) fun h=> ?_|refine⟨by omega,?_⟩|fail
   ·exact e _ _ _ (j+1,-1) (by omega) (by(refine cR [0,1,5,6] (by omega) (by repeat' first|exact bo2|refine xqI rfl rfl ?_|refine xqP (by omega) rfl rfl ?_|fail) ⟨⟨by simp,by simp[sgL],_,rfl,bP (aG bF _) rfl rfl⟩,⟨by simp,by simp[sgL],_,rfl,bP (aG bF _) rfl rfl⟩,⟨by simp,by simp[sgL],_,rfl,aP (by repeat' first|exact bo2| (with_reducible first|exact bo4|apply bo5)| ((with_reducible apply bo0);exact bpB (by omega) rfl rfl (by rfl) rfl)|fail)⟩,⟨by simp,by simp[sgL],_,rfl,aP (by repeat' first|exact bo2| (with_reducible first|exact bo4|apply bo5)| ((with_reducible apply bo0);exact bpA)|fail)⟩,trivial⟩ (by simp[sgL]))) ⟨by dsimp only;omega,by dsimp only;rw[q];grind⟩ (by dsimp only;omega)
   ·exact e _ _ _ (j+1,v) (by omega) (by(refine cR [0,1,5,6] (by omega) (by repeat' first|exact bo2|refine xqI rfl rfl ?_|refine xqP (by omega) rfl rfl ?_|fail) ⟨⟨by simp,by simp[sgL],_,rfl,bP (aG bF _) rfl rfl⟩,⟨by simp,by simp[sgL],_,rfl,bP (aG bF _) rfl rfl⟩,⟨by simp,by simp[sgL],_,rfl,aP (by repeat' first|exact bo2| (with_reducible first|exact bo4|apply bo5)| ((with_reducible apply bo0);exact bpB (by omega) rfl rfl (by rfl) rfl)|fail)⟩,⟨by simp,by simp[sgL],_,rfl,aP (by repeat' first|exact bo2| (with_reducible first|exact bo4|apply bo5)| ((with_reducible apply bo0);exact bpA)|fail)⟩,trivial⟩ (by simp[sgL]))) ⟨by dsimp only;omega,by dsimp only;rw[q];grind⟩ (by dsimp only;omega)
  ·have m:j=all.length:=(by omega);subst m;have n:=agQ (x:=v) (show k<a.length by omega) (by rw[p,bq4]);repeat' first|apply bn1<;>(simp only[go_sem];try simp (disch:=omega) only[Iw])|apply bn3 (by omega)|fail
   exact i _ _ _ (k+1) (by omega) (by(refine cR [5,6,0,1] (by omega) (by repeat' first|exact bo2|refine xqI rfl rfl ?_|refine xqP (by omega) rfl rfl ?_|fail) ⟨⟨by simp,by simp[sgL],_,rfl,bP (aG bF _) rfl rfl⟩,⟨by simp,by simp[sgL],_,rfl,bP (aG bF _) (by rw[n]) rfl⟩,⟨by simp,by simp[sgL],_,rfl,aP (by repeat' first|exact bo2| (with_reducible first|exact bo4|apply bo5)| ((with_reducible apply bo0);exact bpB (by omega) rfl rfl (by rfl) rfl)|fail)⟩,⟨by simp,by simp[sgL],_,rfl,aP (by repeat' first|exact bo2| (with_reducible first|exact bo4|apply bo5)| ((with_reducible apply bo0);exact bpA)|fail)⟩,trivial⟩ (by simp[sgL]))) (by omega) (by omega)
 ·repeat' first|apply bn1<;>(simp only[go_sem])|apply bn3 (by omega)|fail
  have o:k=a.length:=by omega
  subst o;exact aTE B (boR [.osl 1 0 0 64 wc,.osl 1 1 0 6 hc]) _ _ _ rfl (by repeat' first|exact bo2| ((with_reducible apply bo0);exact bpB (by omega) rfl rfl (by rfl) rfl)| ((with_reducible apply bo1);apply bo6)|exact bo4|apply bo5|fail) rfl rfl (oB bF _) (oB bF _) ⟨rfl,by rw[ahC],rfl⟩
variable{hc:Nat}
theorem aSH{a all:List Int}{hm i j:Nat} (b:a.length=6) (c:6≤hc) (d:all.length<2^21) (k:All all 0 63)
 (hi:i<nx) (l:j<nx) (e:i≠j) (f:H i=some ⟨1,wm,w.map aJ⟩) (g:H j=some ⟨1,hm,a.map aJ⟩) (h:K (boR [.osl 1 i 0 64 wc,.osl 1 j 0 6 hc]) ((H.set i ⟨1,wm,w.map aJ⟩).set j ⟨1,hm,(iU a all).map aJ⟩) nx):
 aB Tryz.prog v9 [boR [.osl 1 i 0 64 wc,.osl 1 j 0 6 hc],dS (all.map aJ)] H nx K:=
 (aSK w a all wc wm hc hm b c d k).aUH i j rfl (gW ⟨aH (aaF (by omega) rfl rfl rfl rfl) (aH (aaF (by omega) rfl rfl rfl rfl) eP),aE rfl,trivial⟩) hi l e f g (oB bF _) (oB bF _) fun r m n ⟨o,p,q⟩=>by subst o;subst p;subst q;exact h
theorem aTB (m:List Rng) (w e:List Int) (who:Int) (q:Req) (wc wm hc hm:Nat) (x:m.length<2^21) (y:WK w e) (f:64≤wc) (o:6≤hc) (hw:0≤who∧who≤2) (z:dH q):
 aB Tryz.prog aN2 [dS (m.map eN),boR [.osl 1 0 0 64 wc,.osl 1 1 0 6 hc],boP who,boR (eB q)] (hp [(0,⟨1,wm,w.map aJ⟩),(1,⟨1,hm,e.map aJ⟩)]) 2
 fun r H' A=>A=2∧ ∃b c,H'=hp [(0,b),(1,c)]∧C7 b∧C7 c∧b=⟨1,wm,(doM m w e who q).1.1.map aJ⟩∧c=⟨1,hm,(doM m w e who q).1.2.map aJ⟩∧r= .tup [.agg [.osl 1 0 0 64 wc,.osl 1 1 0 6 hc],.agg (tG (doM m w e who q).2)]:=by
 obtain⟨g,s,t,B⟩:=y
 obtain⟨C,D,i,j,k,u,v,E⟩:=z
 have F:=DF i
 have G:=ai5 i
 have H:=MK (addr:=q.addr) (many:=q.many) (wrap:=q.wrap)
 have d:All (bE q.addr q.many q.wrap) 0 63:=V1
 have I:=PQ (p:=(inR · ((bE q.addr q.many q.wrap).getD 0 default))) (l:=m)
 have J:bV m (bE q.addr q.many q.wrap)<m.length:=by unfold bV;grind
 have n:wrM q=true→q.data.length=(bE q.addr q.many q.wrap).length∧q.g6.length=(bE q.addr q.many q.wrap).length:=by intro h;unfold wrM at h;unfold n5 at j k;simp at h;simp only[h,if_true] at j k;omega
 refine aSX rfl fun Q a=> ?_
 unfold aOF
 repeat' first| (first|apply bn1| (refine bpM (fun h=> ?_) (fun h=> ?_)<;>try subst h)|apply aC9|apply aDG (by omega) (by omega)|apply aC2|refine aSW g f d (by omega) (by omega) rfl ?_| (refine aS5 g s f d (by omega) u (n (by unfold wrM;simp;omega)).1 v (n (by unfold wrM;simp;omega)).2 (by omega) rfl ?_)|refine aSH t o (by omega) d (by omega) (by omega) (by omega) rfl rfl ?_)<;>(simp only[go_sem];try simp (disch:=omega) only[Iw])|refine bnE (fun h=> ?_) fun h=> ?_| ((refine bnF (fun h=> ?_) (fun h=> ?_))<;>try subst h)|refine⟨by omega,?_⟩|fail
 all_goals have K:=W4 (q:=q)
 all_goals first
  |rw[alZ (by assumption)] at a
  |rw[anB (by assumption) (by assumption) (by assumption)] at a
  |rw[akI (by assumption) (by assumption)] at a
  |rw[amK (by assumption) (by assumption)] at a
  |rw[aqU (by assumption) (by grind) (by assumption) (by assumption)] at a
  |rw[aoE (by assumption) (by grind) (by assumption) (by grind)] at a
  |rw[ao1 (by assumption) (by grind) (by omega)] at a
  | (exfalso;grind)
 all_goals exact aTE a _ _ _ _ rfl (by repeat' first|exact bo2| (with_reducible first|apply aUP|apply aUQ)| ((with_reducible apply bo0);first|exact bo9 rfl|exact bpB (by omega) rfl rfl (by rfl) rfl|exact bpE)|exact bo4|apply bo5|fail) rfl rfl (oB bF _) (oB bF _) ⟨rfl,rfl,rfl⟩
theorem aS7{m:List Rng}{a:List Int}{who:Int}{q:Req}{hm i j:Nat} (b:m.length<2^21) (k:WK w a) (c:64≤wc) (d:6≤hc) (hw:0≤who∧who≤2) (l:dH q)
 (hi:i<nx) (n:j<nx) (e:i≠j) (f:H i=some ⟨1,wm,w.map aJ⟩) (g:H j=some ⟨1,hm,a.map aJ⟩)
 (h:K (.tup [.agg [.osl 1 i 0 64 wc,.osl 1 j 0 6 hc],.agg (tG (doM m w a who q).2)]) ((H.set i ⟨1,wm,(doM m w a who q).1.1.map aJ⟩).set j ⟨1,hm,(doM m w a who q).1.2.map aJ⟩) nx):
 aB Tryz.prog aN2 [dS (m.map eN),boR [.osl 1 i 0 64 wc,.osl 1 j 0 6 hc],boP who,boR (eB q)] H nx K:=
 (aTB m w a who q wc wm hc hm b k c d hw l).aUH i j rfl (gW ⟨aE rfl,aH (aaF (by omega) rfl rfl rfl rfl) (aH (aaF (by omega) rfl rfl rfl rfl) eP),aE rfl,aE rfl,trivial⟩) hi n e f g (oB bF _) (oB bF _) fun r o p ⟨s,t,u⟩=>by subst s;subst t;subst u;exact h
variable{l:List Job}
theorem aSZ{a:Nat} (m:a<l.length) (hl:l.length<2^21) (h:K (dS ((MT l a).map aS)) H nx):aB Tryz.prog gR [dS (l.map aS),boP a] H nx K:=by
 refine aB.fresh (R:=fun n=>n=dS ((MT l a).map aS)) ?_ rfl (fun r hr=>hr▸h);clear h;refine aRY rfl fun Q o=> ?_;unfold aN5;repeat' first|apply bn1<;>(simp only[go_sem])|fail
 refine aM.sG 1 (β:=Nat×Nat) (fun b u=>en [(6,boP u.1),(5,boQ 5 b (aPD l a u.1).length u.2),(1,boP a),(0,dS (l.map aS))])
  (fun b u=>hp [(b,⟨5,u.2,(aPD l a u.1).map aS⟩)]) (fun u=>u.1≤l.length∧(aPD l a u.1).length≤u.2) (fun u=>l.length-u.1) (0,0) (by(refine cR [1] (by omega) (by repeat' first|exact bo2|refine xqI rfl rfl ?_|refine xqO (by omega) rfl rfl (by rfl) ?_|fail) ⟨⟨by simp,by simp[sgL],_,rfl,bP (aG dZ _) rfl rfl⟩,trivial⟩ (by simp[sgL]))) ⟨by omega,by simp[aPD]⟩ ?_
 rintro⟨k,cap⟩ ⟨i,hc⟩ bpQ d;dsimp only at i hc;have hlen:=aTT (a:=a) i;by_cases e:k<l.length
 ·repeat' first|apply bn1<;>(simp only[go_sem];try simp (disch:=omega) only[Iw])|apply bn2 (by omega)|refine bnE (fun h=> ?_) fun h=> ?_| (with_reducible first|refine fun(cap:Nat) (j:_≤cap)=> ?_|refine fun(p:_≤cap)=> ?_)|refine⟨by omega,?_⟩|fail
  ·have c:=aUC e (a:=a) (by omega);have f:=congrArg List.length c;simp only[t2,List.length_cons,List.length_nil] at f;exact d _ _ _ (k+1,cap) (by omega) (by(refine cR [18] (by omega) (by repeat' first|exact bo2|refine xqI rfl rfl ?_|refine xqO (by omega) rfl rfl (by first|rfl|omega) ?_|fail) ⟨⟨by simp,by simp[sgL],_,rfl,bP (aG dZ _) (congrArg _ c) rfl⟩,trivial⟩ (by simp[sgL]))) ⟨by dsimp only;omega,by dsimp only;omega⟩ (by dsimp only;omega)
  ·have c:=aUB e (a:=a) (by omega);have f:=congrArg List.length c;exact d _ _ _ (k+1,cap) (by omega) (by(refine cR [4] (by omega) (by repeat' first|exact bo2|refine xqI rfl rfl ?_|refine xqO (by omega) rfl rfl (by first|rfl|omega) ?_|fail) ⟨⟨by simp,by simp[sgL],_,rfl,bP (aG dZ _) (congrArg _ c) rfl⟩,trivial⟩ (by simp[sgL]))) ⟨by dsimp only;omega,by dsimp only;rw[c];exact hc⟩ (by dsimp only;omega)
 ·repeat' first|apply bn1<;>(simp only[go_sem])|apply bn3 (by omega)|fail
  have g:k=l.length:=by omega
  subst g;exact V4 o (dS _) _ rfl (yP (l:=aPD l a l.length) dZ rfl (by simp) (by omega) trivial) rfl (by rw[aT1 m])
def oSt (i0 i1 a b wc hc ac c:Nat) (s:TSt):List D1:=[.osl 1 i0 0 64 wc,.osl 1 i1 0 6 hc,.osl 1 a 0 3 ac,.isl (s.wait.map aS),.isl (s.done.map aS),.osl 5 b 0 s.told.length c]
theorem aR1{a b:Int} (hl:l.length<2^21) (h:K (dS ((BM l ⟨a,b,oW⟩).map aS)) H nx):aB Tryz.prog aJS [dS (l.map aS),boR [cI a,cI b,cI 0,cI 0,.osl 0 0 0 0 0]] H nx K:=(aPM l ⟨a,b,oW⟩ hl).azZ rfl ⟨aE rfl,aH (bB rfl) (aH (bB rfl) (aH (bB rfl) (aH (bB rfl) (aH xG eP)))),trivial⟩ fun r hr=>hr▸h
theorem aSF{a b:Int}{r:Rsp} (hl:l.length<2^21) (h:K (dS ((BM l ⟨a,b,r⟩).map aS)) H nx):aB Tryz.prog aJS [dS (l.map aS),boR (cI a::cI b::tG r)] H nx K:=aS4 (j:=⟨a,b,r⟩) hl h
theorem aO5{z:Int} (b: ¬z<0) (a:z.toNat<l.length) (hl:l.length<2^21) (h:K (dS ((MT l z.toNat).map aS)) H nx):aB Tryz.prog gR [dS (l.map aS),boP z] H nx K:=by have:=aSZ (K:=K) a hl h;rwa [Int.toNat_of_nonneg (by omega)] at this
theorem aSJ (c:Cfg) (s:TSt) (e:Ev) (wc wm hc hm ac am d tm:Nat) (m:aQ c) (k:BA c s) (y:64≤wc) (z:6≤hc) (K:3≤ac) (o:s.told.length≤d) (q:d≤tm):
 aB Tryz.prog v5 [boR (cU c),boR (oSt 0 1 2 3 wc hc ac d s),boR (eEv e)] (hp [(0,⟨1,wm,s.words.map aJ⟩),(1,⟨1,hm,s.holds.map aJ⟩),(2,⟨1,am,s.asked.map aJ⟩),(3,⟨5,tm,s.told.map aS⟩)]) 4
 fun r H' G=>(X6 c s e=0∧ ∃i t,(lS c s e).told.length≤i∧i≤t∧G=5∧H'=hp [(0,⟨1,wm,(lS c s e).words.map aJ⟩),(1,⟨1,hm,(lS c s e).holds.map aJ⟩),(2,⟨1,am,(lS c s e).asked.map aJ⟩),(4,⟨5,t,(lS c s e).told.map aS⟩)]
  ∧r= .tup [.agg (oSt 0 1 2 4 wc hc ac i (lS c s e)),.c (cB true)])∨
  (¬X6 c s e=0∧G=4∧H'=hp [(0,⟨1,wm,s.words.map aJ⟩),(1,⟨1,hm,s.holds.map aJ⟩),(2,⟨1,am,s.asked.map aJ⟩),(3,⟨5,tm,s.told.map aS⟩)]∧r= .tup [.agg (oSt 0 1 2 3 wc hc ac d s),.c (cB false)]):=by
 have hl:=k.lens m
 have H:=k.fit m
 obtain⟨u,v⟩:=hC m
 have L:=k.atm.wl
 have M:=k.atm.hl
 have N:=k.JI
 have I:=m.1.1
 have J:=v e.who.toNat
 refine aQG rfl fun Q g=> ?_
 unfold aNV
 simp only[oSt]
 by_cases b:oA c e.who e.n
 ·have A:=GK m b;obtain⟨w,B⟩:=b;have b:oA c e.who e.n:=⟨w,B⟩
  have C:=fun h=>(pW (l:=s.wait) (who:=e.who) (n:=e.n) h).1;have D:=fun h=>(pW (l:=s.done) (who:=e.who) (n:=e.n) h).1;have O:=aoF (p:=iM e.who e.n) (l:=s.wait);have P:=aoF (p:=iM e.who e.n) (l:=s.done);repeat' first| (first|apply bn1|apply bpK (by omega)|refine bpL (fun h=> ?_) fun h=> ?_|apply aBC|apply aKK (by omega)|refine ap1 (l:=s.wait) (e:=e) (by omega) u b (fun j E _ _=>H.wait j E) ?_|refine ap1 (l:=s.done) (e:=e) (by omega) u b (fun j E _ _=>H.done j E) ?_|apply aR1 (by omega)|apply aSF (by omega)|apply aO5 (l:=s.wait) (by assumption) (C (by assumption)) (by omega)|apply aO5 (l:=s.done) (by assumption) (D (by assumption)) (by omega)|refine aS7 (by omega) k.atm y z w A (by omega) (by omega) (by omega) rfl rfl ?_)<;>(simp only[go_sem];try simp (disch:=omega) only[Iw])|apply bn3 (by omega)|refine bnE (fun h=> ?_) fun h=> ?_| (with_reducible first|refine fun(cap:Nat) (x:_≤cap)=> ?_|refine fun(R:_≤cap)=> ?_)|refine⟨by omega,?_⟩|fail
  all_goals first
   | (have a: ¬X6 c s e=0:=by(unfold X6;grind)
      (refine g _ _ _ _ _ 4 (.tup [.agg (oSt 0 1 2 3 wc hc ac d s),.c (cB false)]) (hp [(0,⟨1,wm,s.words.map aJ⟩),(1,⟨1,hm,s.holds.map aJ⟩),(2,⟨1,am,s.asked.map aJ⟩),(3,⟨5,tm,s.told.map aS⟩)]) _ _ (.inr rfl) rfl (fU [0,1,2,3] (by omega) (by repeat' first|exact bo2| (with_reducible first|apply aUP|apply aUQ|apply aUR)| ((with_reducible apply bo0);first|exact bo9 rfl|exact bpB (by omega) rfl rfl (by rfl) rfl)|exact bo4|apply bo5|fail) ⟨⟨by simp,by simp[sgL],_,rfl,bP (aG bF _) rfl rfl⟩,⟨by simp,by simp[sgL],_,rfl,bP (aG bF _) rfl rfl⟩,⟨by simp,by simp[sgL],_,rfl,bP (aG bF _) rfl rfl⟩,⟨by simp,by simp[sgL],_,rfl,bP (aG dZ _) rfl rfl⟩,trivial⟩ (by simp[sgL])) ?_)
      exact .inr ⟨a,rfl,rfl,rfl⟩)
   |have a:X6 c s e=0:=by(unfold X6;grind)
  ·have f:lS c s e=({s with asked:=s.asked.set e.who.toNat (e.n+1),wait:=BM s.wait ⟨e.who,e.n,oW⟩}:TSt):=(by simp only[lS];rw[if_pos (by assumption)]);rw[f] at g;(refine g _ _ _ _ _ 5 (.tup [.agg (oSt 0 1 2 4 wc hc ac d ({s with asked:=s.asked.set e.who.toNat (e.n+1),wait:=BM s.wait ⟨e.who,e.n,oW⟩}:TSt)),.c (cB true)]) (hp [(0,⟨1,wm,({s with asked:=s.asked.set e.who.toNat (e.n+1),wait:=BM s.wait ⟨e.who,e.n,oW⟩}:TSt).words.map aJ⟩),(1,⟨1,hm,({s with asked:=s.asked.set e.who.toNat (e.n+1),wait:=BM s.wait ⟨e.who,e.n,oW⟩}:TSt).holds.map aJ⟩),(2,⟨1,am,({s with asked:=s.asked.set e.who.toNat (e.n+1),wait:=BM s.wait ⟨e.who,e.n,oW⟩}:TSt).asked.map aJ⟩),(4,⟨5,tm,({s with asked:=s.asked.set e.who.toNat (e.n+1),wait:=BM s.wait ⟨e.who,e.n,oW⟩}:TSt).told.map aS⟩)]) _ _ (.inr rfl) rfl (fU [3,0,1,2] (by omega) (by repeat' first|exact bo2| (with_reducible first|apply aUP|apply aUQ|apply aUR)| ((with_reducible apply bo0);first|exact bo9 rfl|exact bpB (by omega) rfl rfl (by rfl) rfl)|exact bo4|apply bo5|fail) ⟨⟨by simp,by simp[sgL],_,rfl,bP (aG bF _) rfl rfl⟩,⟨by simp,by simp[sgL],_,rfl,bP (aG bF _) rfl rfl⟩,⟨by simp,by simp[sgL],_,rfl,bP (aG bF _) rfl rfl⟩,⟨by simp,by simp[sgL],_,rfl,bP (aG dZ _) rfl rfl⟩,trivial⟩ (by simp[sgL])) ?_);exact .inl ⟨a,d,tm,o,q,rfl,rfl,rfl⟩
  ·have f:lS c s e=({s with words:=(doM c.map s.words s.holds e.who (bT c e.who e.n)).1.1,holds:=(doM c.map s.words s.holds e.who (bT c e.who e.n)).1.2,wait:=MT s.wait (bK (iM e.who e.n) s.wait).toNat,done:=BM s.done ⟨e.who,e.n,(doM c.map s.words s.holds e.who (bT c e.who e.n)).2⟩}:TSt):=(by simp only[lS];rw[if_neg (by assumption),if_pos (by assumption)]);rw[f] at g;(refine g _ _ _ _ _ 5 (.tup [.agg (oSt 0 1 2 4 wc hc ac d ({s with words:=(doM c.map s.words s.holds e.who (bT c e.who e.n)).1.1,holds:=(doM c.map s.words s.holds e.who (bT c e.who e.n)).1.2,wait:=MT s.wait (bK (iM e.who e.n) s.wait).toNat,done:=BM s.done ⟨e.who,e.n,(doM c.map s.words s.holds e.who (bT c e.who e.n)).2⟩}:TSt)),.c (cB true)]) (hp [(0,⟨1,wm,({s with words:=(doM c.map s.words s.holds e.who (bT c e.who e.n)).1.1,holds:=(doM c.map s.words s.holds e.who (bT c e.who e.n)).1.2,wait:=MT s.wait (bK (iM e.who e.n) s.wait).toNat,done:=BM s.done ⟨e.who,e.n,(doM c.map s.words s.holds e.who (bT c e.who e.n)).2⟩}:TSt).words.map aJ⟩),(1,⟨1,hm,({s with words:=(doM c.map s.words s.holds e.who (bT c e.who e.n)).1.1,holds:=(doM c.map s.words s.holds e.who (bT c e.who e.n)).1.2,wait:=MT s.wait (bK (iM e.who e.n) s.wait).toNat,done:=BM s.done ⟨e.who,e.n,(doM c.map s.words s.holds e.who (bT c e.who e.n)).2⟩}:TSt).holds.map aJ⟩),(2,⟨1,am,({s with words:=(doM c.map s.words s.holds e.who (bT c e.who e.n)).1.1,holds:=(doM c.map s.words s.holds e.who (bT c e.who e.n)).1.2,wait:=MT s.wait (bK (iM e.who e.n) s.wait).toNat,done:=BM s.done ⟨e.who,e.n,(doM c.map s.words s.holds e.who (bT c e.who e.n)).2⟩}:TSt).asked.map aJ⟩),(4,⟨5,tm,({s with words:=(doM c.map s.words s.holds e.who (bT c e.who e.n)).1.1,holds:=(doM c.map s.words s.holds e.who (bT c e.who e.n)).1.2,wait:=MT s.wait (bK (iM e.who e.n) s.wait).toNat,done:=BM s.done ⟨e.who,e.n,(doM c.map s.words s.holds e.who (bT c e.who e.n)).2⟩}:TSt).told.map aS⟩)]) _ _ (.inr rfl) rfl (fU [3,0,1,2] (by omega) (by repeat' first|exact bo2| (with_reducible first|apply aUP|apply aUQ|apply aUR)| ((with_reducible apply bo0);first|exact bo9 rfl|exact bpB (by omega) rfl rfl (by rfl) rfl)|exact bo4|apply bo5|fail) ⟨⟨by simp,by simp[sgL],_,rfl,bP (aG bF _) rfl rfl⟩,⟨by simp,by simp[sgL],_,rfl,bP (aG bF _) rfl rfl⟩,⟨by simp,by simp[sgL],_,rfl,bP (aG bF _) rfl rfl⟩,⟨by simp,by simp[sgL],_,rfl,bP (aG dZ _) rfl rfl⟩,trivial⟩ (by simp[sgL])) ?_);exact .inl ⟨a,d,tm,o,q,rfl,rfl,rfl⟩
  ·have f:lS c s e=({s with told:=s.told++[s.done.getD (bK (iM e.who e.n) s.done).toNat default],done:=MT s.done (bK (iM e.who e.n) s.done).toNat}:TSt):=(by simp only[lS];rw[if_neg (by assumption),if_neg (by assumption)]);rw[f] at g;(refine g _ _ _ _ _ 5 (.tup [.agg (oSt 0 1 2 4 wc hc ac cap ({s with told:=s.told++[s.done.getD (bK (iM e.who e.n) s.done).toNat default],done:=MT s.done (bK (iM e.who e.n) s.done).toNat}:TSt)),.c (cB true)]) (hp [(0,⟨1,wm,({s with told:=s.told++[s.done.getD (bK (iM e.who e.n) s.done).toNat default],done:=MT s.done (bK (iM e.who e.n) s.done).toNat}:TSt).words.map aJ⟩),(1,⟨1,hm,({s with told:=s.told++[s.done.getD (bK (iM e.who e.n) s.done).toNat default],done:=MT s.done (bK (iM e.who e.n) s.done).toNat}:TSt).holds.map aJ⟩),(2,⟨1,am,({s with told:=s.told++[s.done.getD (bK (iM e.who e.n) s.done).toNat default],done:=MT s.done (bK (iM e.who e.n) s.done).toNat}:TSt).asked.map aJ⟩),(4,⟨5,cap,({s with told:=s.told++[s.done.getD (bK (iM e.who e.n) s.done).toNat default],done:=MT s.done (bK (iM e.who e.n) s.done).toNat}:TSt).told.map aS⟩)]) _ _ (.inr rfl) rfl (fU [75,0,1,2] (by omega) (by repeat' first|exact bo2| (with_reducible first|apply aUP|apply aUQ|apply aUR)| ((with_reducible apply bo0);first|exact bo9 rfl| (exact bpB (by omega) rfl rfl (by first|rfl| (simp;done)) rfl))|exact bo4|apply bo5|fail) ⟨⟨by simp,by simp[sgL],_,rfl,bP (aG bF _) rfl rfl⟩,⟨by simp,by simp[sgL],_,rfl,bP (aG bF _) rfl rfl⟩,⟨by simp,by simp[sgL],_,rfl,bP (aG bF _) rfl rfl⟩,⟨by simp,by simp[sgL],_,rfl,bP (aG dZ _) rfl rfl⟩,trivial⟩ (by simp[sgL])) ?_);exact .inl ⟨a,cap,cap,by simpa using x,m5 _,rfl,rfl,rfl⟩
 ·have a: ¬X6 c s e=0:=fun h=>b (M8 h).1;by_cases F:0≤e.who∧e.who≤2
  ·have S: ¬(0≤e.n∧e.n≤(c.cP.getD e.who.toNat default).length-1):=fun h=>b ⟨F,h⟩;repeat' first| (first|apply bn1|apply bpK (by omega)|apply aBC)<;>(simp only[go_sem];try simp (disch:=omega) only[Iw])|apply bn2 (by omega)|refine⟨by omega,?_⟩|fail
   all_goals (refine g _ _ _ _ _ 4 (.tup [.agg (oSt 0 1 2 3 wc hc ac d s),.c (cB false)]) (hp [(0,⟨1,wm,s.words.map aJ⟩),(1,⟨1,hm,s.holds.map aJ⟩),(2,⟨1,am,s.asked.map aJ⟩),(3,⟨5,tm,s.told.map aS⟩)]) _ _ (.inr rfl) rfl (fU [0,1,2,3] (by omega) (by repeat' first|exact bo2| (with_reducible first|apply aUP|apply aUQ|apply aUR)| ((with_reducible apply bo0);first|exact bo9 rfl|exact bpB (by omega) rfl rfl (by rfl) rfl)|exact bo4|apply bo5|fail) ⟨⟨by simp,by simp[sgL],_,rfl,bP (aG bF _) rfl rfl⟩,⟨by simp,by simp[sgL],_,rfl,bP (aG bF _) rfl rfl⟩,⟨by simp,by simp[sgL],_,rfl,bP (aG bF _) rfl rfl⟩,⟨by simp,by simp[sgL],_,rfl,bP (aG dZ _) rfl rfl⟩,trivial⟩ (by simp[sgL])) ?_)
   all_goals exact .inr ⟨a,rfl,rfl,rfl⟩
  ·repeat' first| (first|apply bn1|apply bpJ (by omega)|apply aBC)<;>(simp only[go_sem])|fail
   all_goals (refine g _ _ _ _ _ 4 (.tup [.agg (oSt 0 1 2 3 wc hc ac d s),.c (cB false)]) (hp [(0,⟨1,wm,s.words.map aJ⟩),(1,⟨1,hm,s.holds.map aJ⟩),(2,⟨1,am,s.asked.map aJ⟩),(3,⟨5,tm,s.told.map aS⟩)]) _ _ (.inr rfl) rfl (fU [0,1,2,3] (by omega) (by repeat' first|exact bo2| (with_reducible first|apply aUP|apply aUQ|apply aUR)| ((with_reducible apply bo0);first|exact bo9 rfl|exact bpB (by omega) rfl rfl (by rfl) rfl)|exact bo4|apply bo5|fail) ⟨⟨by simp,by simp[sgL],_,rfl,bP (aG bF _) rfl rfl⟩,⟨by simp,by simp[sgL],_,rfl,bP (aG bF _) rfl rfl⟩,⟨by simp,by simp[sgL],_,rfl,bP (aG bF _) rfl rfl⟩,⟨by simp,by simp[sgL],_,rfl,bP (aG dZ _) rfl rfl⟩,trivial⟩ (by simp[sgL])) ?_)
   all_goals exact .inr ⟨a,rfl,rfl,rfl⟩
theorem aP2{τ:Nat→Nat}{n m:Nat}:bA.rn τ ⟨n,m,l.map aS⟩=⟨n,m,l.map aS⟩:=by refine rF fun r hr x a=> ?_;obtain⟨y,_,rfl⟩:=CF.1 hr;exact w2.1 (dZ y).2 x a
theorem aO4{c:Cfg}{s:TSt}{e:Ev}{hm ac am i tm i0 i1 a d:Nat} (y:aQ c) (z:BA c s) (k:64≤wc) (l:6≤hc) (m:3≤ac) (n:s.told.length≤i) (o:i≤tm)
 (A:i0<nx) (B:i1<nx) (C:a<nx) (D:d<nx) (w:[i0,i1,a,d].Nodup) (E:H i0=some ⟨1,wm,s.words.map aJ⟩) (F:H i1=some ⟨1,hm,s.holds.map aJ⟩) (G:H a=some ⟨1,am,s.asked.map aJ⟩) (I:H d=some ⟨5,tm,s.told.map aS⟩)
 (h:X6 c s e=0→∀f b,(lS c s e).told.length≤f→f≤b→K (.tup [.agg (oSt i0 i1 a nx wc hc ac f (lS c s e)),.c (cB true)]) (((((H.set i0 ⟨1,wm,(lS c s e).words.map aJ⟩).set i1 ⟨1,hm,(lS c s e).holds.map aJ⟩).set a ⟨1,am,(lS c s e).asked.map aJ⟩).del d).set nx ⟨5,b,(lS c s e).told.map aS⟩) (nx+1))
 (J: ¬X6 c s e=0→K (.tup [.agg (oSt i0 i1 a d wc hc ac i s),.c (cB false)]) ((((H.set i0 ⟨1,wm,s.words.map aJ⟩).set i1 ⟨1,hm,s.holds.map aJ⟩).set a ⟨1,am,s.asked.map aJ⟩).set d ⟨5,tm,s.told.map aS⟩) nx):
 aB Tryz.prog v5 [boR (cU c),boR (oSt i0 i1 a d wc hc ac i s),boR (eEv e)] H nx K:=by
 refine(aSJ c s e wc wm hc hm ac am i tm y z k l m n o).AF [i0,i1,a,d] rfl ⟨aE rfl,?_,aE rfl,trivial⟩ ?_ ?_ ?_ w fun r H' O _ q=> ?_
 ·unfold oSt;exact aH (aaF (by simp) rfl rfl rfl rfl) (aH (aaF (by simp) rfl rfl rfl rfl) (aH (aaF (by simp) rfl rfl rfl rfl) (aH (bB rfl) (aH (bB rfl) (aH (aaF (by simp) rfl rfl rfl rfl) eP)))))
 ·exact⟨⟨by simp,id,_,E,bP (aG bF _) rfl rfl⟩,⟨by simp,id,_,F,bP (aG bF _) rfl rfl⟩,⟨by simp,id,_,G,bP (aG bF _) rfl rfl⟩,⟨by simp,id,_,I,bP (aG dZ _) rfl rfl⟩,trivial⟩
 ·exact w
 ·intro x L;simp only[t3,bq7,or_false] at L;omega
 ·rcases q with⟨bqB,f,b,M,N,p,t,u⟩|⟨bqB,p,t,u⟩
  ·subst p;subst t;subst u;have j:=h bqB f b M N;generalize lS c s e=g at*;have v:back (tau 4 nx (nth [i0,i1,a,d])) (hp [(0,⟨1,wm,g.words.map aJ⟩),(1,⟨1,hm,g.holds.map aJ⟩),(2,⟨1,am,g.asked.map aJ⟩),(4,⟨5,b,g.told.map aS⟩)]) 5 H=((((H.set i0 ⟨1,wm,g.words.map aJ⟩).set i1 ⟨1,hm,g.holds.map aJ⟩).set a ⟨1,am,g.asked.map aJ⟩).del d).set nx ⟨5,b,g.told.map aS⟩:=(by simp[back,hp,aA.set,aA.nil,tau,nth,uB,aP2,aA.eL,aA.yI]);rw[←v] at j;exact j
  ·subst p;subst t;subst u;have j:=J bqB;have v:back (tau 4 nx (nth [i0,i1,a,d])) (hp [(0,⟨1,wm,s.words.map aJ⟩),(1,⟨1,hm,s.holds.map aJ⟩),(2,⟨1,am,s.asked.map aJ⟩),(3,⟨5,tm,s.told.map aS⟩)]) 4 H=((((H.set i0 ⟨1,wm,s.words.map aJ⟩).set i1 ⟨1,hm,s.holds.map aJ⟩).set a ⟨1,am,s.asked.map aJ⟩).set d ⟨5,tm,s.told.map aS⟩):=(by simp[back,hp,aA.set,aA.nil,tau,nth,uB,aP2,aA.eL,aA.yI]);rw[←v] at j;exact j
theorem aoT{i0 i1 a b ac c:Nat}{s:TSt}:(oSt i0 i1 a b wc hc ac c s).length=6:=rfl
theorem ak4{i0 i1 a b ac c:Nat}{s:TSt}:(oSt i0 i1 a b wc hc ac c s).take 6=oSt i0 i1 a b wc hc ac c s:=rfl
theorem ajY{i0 i1 a b ac c k:Nat}{s:TSt}{cs:List D1}:iA cs (k+1) (oSt i0 i1 a b wc hc ac c s)=iA cs (k+1) [.osl 1 i0 0 64 wc,.osl 1 i1 0 6 hc,.osl 1 a 0 3 ac,.isl (s.wait.map aS),.isl (s.done.map aS),.osl 5 b 0 s.told.length c]:=rfl
attribute [go_sem] aoT ak4 ajY
end
end Go.Proofs.YtdkfhdmagdaceaaGreat
