/- Texts laid together by a program: rules, contracts and the walk that leads to the law. -/
import Derived.Test.YtmccpdapaccnoaaGreatPK9
import Derived.Test.YtmccpdapaccnoaaGreatPK7
import Derived.Test.YtmccpdapaccnoaaGreatPK4
import Derived.Test.YtmccpdapaccnoaaGreatPK6
import Derived.Test.YtmccpdapaccnoaaGreatPK11
import Derived.Test.YtmccpdapaccnoaaGreatPK10
set_option linter.unusedVariables false
set_option linter.unusedSimpArgs false
set_option linter.unusedSectionVars false
set_option maxRecDepth 100000
set_option maxHeartbeats 8000000
namespace Go.Proofs.YtmccpdapaccnoaaGreat
open Go Go.AM
attribute [local irreducible] aM wv aB vd wvH
section
variable {H : aA} {nx : Nat} {K : D → aA → Nat → Prop}
theorem aD5 {l:List Rng} (hl:l.length<2^40) (h:K (dB (decide (DH l))) H nx):aB Tryz.prog aBG [dS (l.map eN)] H nx K:=by
 refine aB.pure (args0:=[dS (l.map eN)]) (R:=fun rr=>rr=dB (decide (DH l))) ?_ rfl (aI ⟨aE rfl,trivial⟩) (fun r hr=>hr▸h);clear h;refine aDM rfl fun Q hQ=> ?_;unfold aBO;by_cases hl4:(l.length:Int)≤4
 ·repeat' first|apply bn1<;>(simp only[go_sem])|apply bn3 (by omega)|fail
  refine aM.gP (β:=Nat) (fun k=>en [(3,boP k),(0,dS (l.map eN))]) (fun k _ _=>k≤l.length∧ ∀i,i<k→V9 l i) (fun k=>l.length-k) 0 ⟨noF,_,by repeat' first|exact bo2|refine xqI rfl rfl ?_|fail,aK,by omega,fun i hi=>by omega⟩ ?_;rintro k H1 nx1 hnx1 ⟨hk,hinv⟩ bpQ hKL;by_cases hlt:k<l.length
  ·obtain⟨r,hr⟩: ∃r,r=l.getD k default:=⟨_,rfl⟩
   have hr':l.getD k default=r:=hr.symm;have hbad: ¬SF r→¬DH l:=fun h hm=>h (by rw[hr];exact(hm.2 k hlt).1);repeat' first| (first|apply bn1|refine bpL (fun h=> ?_) fun h=> ?_|apply aBC)<;>(simp only[go_sem,hr',boC])|apply bn2 (by omega)|refine bnE (fun h=> ?_) fun h=> ?_|refine⟨by omega,?_⟩|fail
   ·exact aZ hQ (dB false) rfl rfl (j7 (hbad fun hm=>by unfold SF at hm;omega))
   ·exact aZ hQ (dB false) rfl rfl (j7 (hbad fun hm=>by unfold SF at hm;omega))
   ·exact aZ hQ (dB false) rfl rfl (j7 (hbad fun hm=>by unfold SF at hm;omega))
   have hro:SF r:=(by unfold SF;omega);refine aM.gP (β:=Nat) (fun j=>en [(5,boP j),(4,.one (.c (.ptr 4 (nx1+8) 0 0))),(3,boP k),(0,dS (l.map eN))]) (fun j H2 _=>(j≤k∧ ∀i,i<j→aaM (l.getD i default) r=false)∧H2 (nx1+8)=some ⟨4,1,[eN r]⟩) (fun j=>k-j) 0 ⟨noF,_,by repeat' first|exact bo2|refine xqI rfl rfl ?_|refine xqP (by omega) rfl rfl ?_|fail,aK,⟨by omega,fun i hi=>by omega⟩,by simp only[aA.set,if_true]⟩ ?_;rintro j H2 nx2 hnx2 ⟨⟨hj,hinvj⟩,bp4⟩ bqG hKM;by_cases hjl:j<k
   ·obtain⟨r2,hr2⟩: ∃r2,r2=l.getD j default:=⟨_,rfl⟩
    have hr2':l.getD j default=r2:=hr2.symm;repeat' first| (first|apply bn1|refine bpL (fun h=> ?_) fun h=> ?_)<;>(simp only[go_sem,hr2',bp4];try simp (disch:=omega) only[Iw])|apply bn2 (by omega)|refine bnE (fun h=> ?_) fun h=> ?_|refine⟨by omega,?_⟩|fail
    ·refine aZ hQ (dB false) rfl rfl (j7 fun hm=> ?_);have h2:=(hm.2 k hlt).2;refine h2 (cH.2 ⟨l.getD j default,bqY.2 ⟨j,by simp;omega,by simp[List.getD,show j<l.length by omega]⟩,decide_eq_true ?_⟩);rw[hr2',hr'];omega
    all_goals exact hKM _ _ _ (j+1) noF _ (by omega) (by omega) (by repeat' first|exact bo2|refine xqI rfl rfl ?_|refine xqP (by omega) rfl rfl ?_|fail) aK ⟨⟨by omega,iS hinvj (by rw[hr2'];exact decide_eq_false (by omega))⟩,bp4⟩
   ·repeat' first|apply bn1<;>(simp only[go_sem];try simp (disch:=omega) only[Iw])|apply bn3 (by omega)|fail
    refine hKL _ _ _ (k+1) noF _ (by omega) (by omega) (by repeat' first|exact bo2|refine xqI rfl rfl ?_|fail) aK ⟨by omega,iS hinv ⟨by rw[hr'];exact hro,fun hc=> ?_⟩⟩;obtain⟨x,hx,hx2⟩:=cH.1 hc;obtain⟨i,hi,rfl⟩:=bqY.1 hx;have hi':i<k:=(by simp at hi;omega);have:=hinvj i (by omega);simp only[List.getD,show i<l.length by omega,n1,Option.getD_some] at this;rw[hr'] at hx2;simp only[brU] at hx2;rw[this] at hx2;cases hx2
  ·repeat' first|apply bn1<;>(simp only[go_sem])|apply bn3 (by omega)|fail
   have hk2:k=l.length:=(by omega);subst hk2;exact aZ hQ (dB true) rfl rfl (q9 ⟨hl4,hinv⟩)
 ·repeat' first|apply bn1<;>(simp only[go_sem])|apply bn2 (by omega)|fail
  exact aZ hQ (dB false) rfl rfl (j7 fun h=>hl4 h.1)
theorem aCC {l:List Int} {lo:Int} {up:Int} (hl:l.length<2^40) (h:K (dB (decide (All l lo up))) H nx):aB Tryz.prog aA3 [dS (l.map aJ),boP lo,boP up] H nx K:=by
 refine aB.pure (args0:=[dS (l.map aJ),boP lo,boP up]) (R:=fun rr=>rr=dB (decide (All l lo up))) ?_ rfl (aI ⟨aE rfl,aE rfl,aE rfl,trivial⟩) (fun r hr=>hr▸h);clear h;refine aDN rfl fun Q hQ=> ?_;unfold aBP;repeat' first|apply bn1<;>(simp only[go_sem])|fail
 (refine aM.loop (α:={k:Nat//k≤l.length∧(∀i,i<k→lo≤l.getD i default∧l.getD i default≤up)}) (fun u=>en [(7,boP u.1),(2,boP up),(1,boP lo),(0,dS (l.map aJ))]) (fun _=>.nil) _ (fun u=>l.length-u.1) ⟨0,by omega,(by intros;first|trivial|omega)⟩ (bU (m5 _) (by repeat' first|exact bo2|refine xqI rfl rfl ?_|fail)) ?_);(rintro⟨k,hk,hinv⟩ bpQ hKL);by_cases hlt:k<l.length
 ·repeat' first| (first|apply bn1|apply aBC)<;>(simp only[go_sem];try simp (disch:=omega) only[Iw])|apply bn2 (by omega)|refine bnE (fun h=> ?_) fun h=> ?_|refine⟨by omega,?_⟩|fail
  ·exact aZ hQ (dB false) rfl rfl (j7 fun ha=>by have:=aj1 ha hlt;omega)
  · (refine hKL _ _ _ ⟨k+1,by omega,iS hinv (by omega)⟩ (by omega) (by(try dsimp only);omega) (bU (m5 _) (by repeat' first|exact bo2|refine xqI rfl rfl ?_|fail)))
 ·repeat' first|apply bn1<;>(simp only[go_sem])|apply bn3 (by omega)|fail
  exact aZ hQ (dB true) rfl rfl (q9 (aEA fun i hi=>hinv i (by omega)))
theorem aD8 {q:Req} (hd:q.data.length<2^40) (hl:q.g6.length<2^40) (h:K (dB (decide (dH q))) H nx):aB Tryz.prog aBF [boR (eB q)] H nx K:=by
 refine aB.pure (args0:=[boR (eB q)]) (R:=fun rr=>rr=dB (decide (dH q))) ?_ rfl (aI ⟨aE rfl,trivial⟩) (fun r hr=>hr▸h);clear h;refine aDW rfl fun Q hQ=> ?_;unfold aBM;repeat' first| (first|apply bn1|refine bpL (fun h=> ?_) fun h=> ?_|apply aBC|apply aC2|apply aCI|apply aCC (l:=q.data) hd|apply aCC (l:=q.g6) hl)<;>(simp only[go_sem])|refine bnE (fun h=> ?_) fun h=> ?_| ((refine bnF (fun h=> ?_) (fun h=> ?_))<;>try subst h)|fail
 all_goals first|with_reducible refine aZ hQ _ rfl rfl ?_|skip
 all_goals
  have e2:wrM q=true↔(q.kind=2∨q.kind=4):=by simp[wrM]
  have e3:All ([]:List Int) 0 65535:=by simp[All]
  have e4:All ([]:List Int) 0 3:=by simp[All]
  have e5:q.data.length=0→q.data=[]:=H4.1
  have e6:q.g6.length=0→q.g6=[]:=H4.1
  clear hQ
  first|exact j7 (by unfold dH n5;grind)|exact q9 (by unfold dH n5;grind)|exact pD (by unfold dH n5;grind)
theorem aMP {r:Rsp} (hr:r.data.length<2^40) (h:K (dB (decide (pA r))) H nx):aB Tryz.prog aIP [boR (tG r)] H nx K:=by
 refine aB.pure (args0:=[boR (tG r)]) (R:=fun rr=>rr=dB (decide (pA r))) ?_ rfl (aI ⟨aE rfl,trivial⟩) (fun r hr=>hr▸h);clear h;refine aMN rfl fun Q hQ=> ?_;unfold aJL;repeat' first| (first|apply bn1|refine bpL (fun h=> ?_) fun h=> ?_|apply aBC|apply aCC (l:=r.data) hr)<;>(simp only[go_sem])|fail
 all_goals first|with_reducible refine aZ hQ _ rfl rfl ?_|skip
 all_goals first|exact j7 (by unfold pA;grind)|exact pD (by unfold pA;grind)|exact q9 (by unfold pA;grind)
theorem aL2 {p:Prog} (hp:p.length<2^40) (hq: ∀q∈p,q.data.length<2^40∧q.g6.length<2^40) (h:K (dB (decide (∀q∈p,dH q))) H nx):aB Tryz.prog aI2 [dS (p.map eB)] H nx K:=by
 refine aB.pure (args0:=[dS (p.map eB)]) (R:=fun rr=>rr=dB (decide (∀q∈p,dH q))) ?_ rfl (aI ⟨aE rfl,trivial⟩) (fun r hr=>hr▸h);clear h;refine aLI rfl fun Q hQ=> ?_;unfold aJC;repeat' first|apply bn1<;>(simp only[go_sem])|fail
 (refine aM.loop (α:={k:Nat//k≤p.length∧(∀i,i<k→dH (p.getD i default))}) (fun u=>en [(3,boP u.1),(0,dS (p.map eB))]) (fun _=>.nil) _ (fun u=>p.length-u.1) ⟨0,by omega,(by intros;first|trivial|omega)⟩ (bU (m5 _) (by repeat' first|exact bo2|refine xqI rfl rfl ?_|fail)) ?_);(rintro⟨k,hk,hinv⟩ bpQ hKL);by_cases hlt:k<p.length
 ·have hm:=hq _ (cC hlt);repeat' first| (first|apply bn1|apply aD8 hm.1 hm.2)<;>(simp only[go_sem];try simp (disch:=omega) only[Iw])|apply bn2 (by omega)|refine bnE (fun h=> ?_) fun h=> ?_|refine⟨by omega,?_⟩|fail
  ·exact aZ hQ (dB false) rfl rfl (j7 fun ha=>by have:=ha _ (cC hlt);simp_all)
  · (refine hKL _ _ _ ⟨k+1,by omega,iS hinv (by simp_all)⟩ (by omega) (by(try dsimp only);omega) (bU (m5 _) (by repeat' first|exact bo2|refine xqI rfl rfl ?_|fail)))
 ·repeat' first|apply bn1<;>(simp only[go_sem])|apply bn3 (by omega)|fail
  exact aZ hQ (dB true) rfl rfl (q9 (aKJ fun i hi=>hinv i (by omega)))
theorem aKG {c:Cfg} (hc:jO c) (h:K (dB (decide (aQ c))) H nx):aB Tryz.prog aIV [boR (cU c)] H nx K:=by
 refine aB.pure (args0:=[boR (cU c)]) (R:=fun rr=>rr=dB (decide (aQ c))) ?_ rfl (aI ⟨aE rfl,trivial⟩) (fun r hr=>hr▸h);clear h;refine aLX rfl fun Q hQ=> ?_;unfold aJQ;have hbp:aQ c↔DH c.map∧(c.lat.length:Int)=4∧All c.lat 0 3∧(c.cP.length:Int)=3∧ ∀p∈c.cP,(p.length:Int)≤12∧ ∀q∈p,dH q:=by unfold aQ mV;simp only[cH,not_exists,not_and,decide_eq_true_eq,Classical.not_imp,Classical.not_not]
 by_cases h0:DH c.map∧(c.lat.length:Int)=4∧All c.lat 0 3∧(c.cP.length:Int)=3
 ·obtain⟨h1,h2,h3,h4⟩:=h0;repeat' first| (first|apply bn1|apply bpK (by omega)|apply aD5 hc.map|apply aCC (l:=c.lat) hc.lat)<;>(simp only[go_sem,eq_true h1,eq_true h3])|apply bn3 (by omega)|fail
  (refine aM.loop (α:={k:Nat//k≤3∧(∀i,i<k→((c.cP.getD i default).length:Int)≤12∧ ∀q∈c.cP.getD i default,dH q)}) (fun u=>en [(3,boP u.1),(1,.one (.c (.fQ (cU c))))]) (fun _=>.nil) _ (fun u=>3-u.1) ⟨0,by omega,(by intros;first|trivial|omega)⟩ (bU (m5 _) (by repeat' first|exact bo2|refine xqI rfl rfl ?_| (with_reducible apply bo3)| ((with_reducible apply bo1);exact bpH rfl (by simp) rfl rfl rfl)|fail)) ?_);(rintro⟨k,hk,hinv⟩ bpQ hKL);by_cases hlt:k<3
  ·have hm:c.cP.getD k default∈c.cP:=cC (by omega);have hm1:=hc.prog _ hm;have hm2:=hc.req _ hm;repeat' first| (first|apply bn1|refine bpL (fun h=> ?_) fun h=> ?_|apply aL2 hm1 hm2)<;>(simp only[go_sem];try simp (disch:=omega) only[Iw])|apply bn2 (by omega)|refine bnE (fun h=> ?_) fun h=> ?_|refine⟨by omega,?_⟩|fail
   ·exact aZ hQ (dB false) rfl rfl (j7 fun hB=>by have:=((hbp.1 hB).2.2.2.2 _ hm).1;omega)
   ·exact aZ hQ (dB false) rfl rfl (j7 fun hB=>by have:=((hbp.1 hB).2.2.2.2 _ hm).2;simp_all)
   · (refine hKL _ _ _ ⟨k+1,by omega,iS hinv ⟨by omega,by simp_all⟩⟩ (by omega) (by(try dsimp only);omega) (bU (m5 _) (by repeat' first|exact bo2|refine xqI rfl rfl ?_|fail)))
  ·repeat' first|apply bn1<;>(simp only[go_sem])|apply bn3 (by omega)|fail
   exact aZ hQ (dB true) rfl rfl (q9 (hbp.2 ⟨h1,h2,h3,h4,aKJ fun i hi=>hinv i (by omega)⟩))
 ·have hno: ¬aQ c:=fun hB=>h0 ⟨(hbp.1 hB).1,(hbp.1 hB).2.1,(hbp.1 hB).2.2.1,(hbp.1 hB).2.2.2.1⟩;repeat' first| (first|apply bn1|refine bpL (fun h=> ?_) fun h=> ?_|apply aD5 hc.map|apply aCC (l:=c.lat) hc.lat)<;>(simp only[go_sem])|refine bnE (fun h=> ?_) fun h=> ?_|fail
  all_goals first|exact aZ hQ (dB false) rfl rfl (j7 hno)|exact absurd ⟨by simp_all,by omega,by simp_all,by omega⟩ h0
theorem aMS {l:List Int} (hl:l.length<2^40) (h:K (dB (decide ((l.length:Int)=64∧All l 0 65535))) H nx):aB Tryz.prog aI7 [boR [.isl (l.map aJ)]] H nx K:=by
 refine aB.pure (args0:=[boR [.isl (l.map aJ)]]) (R:=fun rr=>rr=dB (decide ((l.length:Int)=64∧All l 0 65535))) ?_ rfl (aI ⟨aE rfl,trivial⟩) (fun r hr=>hr▸h);clear h;refine aMO rfl fun Q hQ=> ?_;unfold aJK;repeat' first|apply bn1<;>(simp only[go_sem])|refine bnE (fun h=> ?_) fun h=> ?_|fail
 ·exact aZ hQ (dB false) rfl rfl (j7 fun ha=>by omega)
 (refine aM.loop (α:={k:Nat//k≤l.length∧(∀i,i<k→0≤l.getD i default∧l.getD i default≤65535)}) (fun u=>en [(3,boP u.1),(1,.one (.c (.fQ [.isl (l.map aJ)])))]) (fun _=>.nil) _ (fun u=>l.length-u.1) ⟨0,by omega,(by intros;first|trivial|omega)⟩ (bU (m5 _) (by repeat' first|exact bo2|refine xqI rfl rfl ?_| (with_reducible apply bo3)| ((with_reducible apply bo1);exact bpH rfl (by simp) rfl rfl rfl)|fail)) ?_);(rintro⟨k,hk,hinv⟩ bpQ hKL);by_cases hlt:k<l.length
 ·repeat' first| (first|apply bn1|apply aBC)<;>(simp only[go_sem];try simp (disch:=omega) only[Iw])|apply bn2 (by omega)|refine bnE (fun h=> ?_) fun h=> ?_|refine⟨by omega,?_⟩|fail
  ·exact aZ hQ (dB false) rfl rfl (j7 fun ha=>by have:=aj1 ha.2 hlt;omega)
  · (refine hKL _ _ _ ⟨k+1,by omega,iS hinv (by omega)⟩ (by omega) (by(try dsimp only);omega) (bU (m5 _) (by repeat' first|exact bo2|refine xqI rfl rfl ?_|fail)))
 ·repeat' first|apply bn1<;>(simp only[go_sem])|apply bn3 (by omega)|fail
  exact aZ hQ (dB true) rfl rfl (q9 ⟨by omega,aEA fun i hi=>hinv i (by omega)⟩)
theorem aKH {w:List Int} {u:List Int} (hw:w.length<2^40) (hu:u.length<2^40) (h:K (dB (decide (JS w u))) H nx):aB Tryz.prog aIU [boR [.isl (w.map aJ),.isl (u.map aJ)]] H nx K:=by
 refine aB.pure (args0:=[boR [.isl (w.map aJ),.isl (u.map aJ)]]) (R:=fun rr=>rr=dB (decide (JS w u))) ?_ rfl (aI ⟨aE rfl,trivial⟩) (fun r hr=>hr▸h);clear h;refine aLR rfl fun Q hQ=> ?_;unfold aJM;repeat' first| (first|apply bn1|refine bpL (fun h=> ?_) fun h=> ?_|apply aMS hw|apply aCC (l:=u) hu)<;>(simp only[go_sem])|fail
 all_goals first|with_reducible refine aZ hQ _ rfl rfl ?_|skip
 all_goals first|exact j7 (by unfold JS;grind)|exact pD (by unfold JS;grind)
theorem aM8 {j:Job}:cI j.who::cI j.n::tG j.rsp=aS j:=rfl
theorem aRZ:aB Tryz.prog v8 [] (hp []) 0
 fun r H' n'=>n'=1∧H'=hp [(0,⟨1,64,(List.replicate 64 (0:Int)).map aJ⟩)]∧r=boR [.osl 1 0 0 64 64]:=by
 refine aQI rfl fun Q hQ=> ?_
 unfold aNN
 repeat' first|apply bn1<;>(simp only[go_sem])|fail
 (refine hQ _ _ _ _ _ 1 (boR [.osl 1 0 0 64 64]) (hp [(0,⟨1,64,(List.replicate 64 (0:Int)).map aJ⟩)]) _ _ (.inr rfl) rfl (fU [1] (by omega) (by repeat' first|exact bo2| ((with_reducible apply bo0);exact bpB (by omega) rfl rfl (by rfl) rfl)| ((with_reducible apply bo1);apply bo6)|exact bo4|apply bo5|fail) ⟨⟨by simp,by simp[sgL],_,rfl,bP (aG bF _) rfl rfl⟩,trivial⟩ (by simp[sgL])) ?_)
 exact⟨rfl,rfl,rfl⟩
theorem aSB (h:K (boR [.osl 1 nx 0 64 64]) (H.set nx ⟨1,64,(List.replicate 64 (0:Int)).map aJ⟩) (nx+1)):aB Tryz.prog v8 [] H nx K:=by
 refine aRZ.AF (l0:=[]) [] rfl trivial trivial (by simp) (by simp) (by simp) fun r H' n' _ ⟨q1,q2,q3⟩=> ?_;subst q1;subst q2;subst q3;have e1:back (tau 0 nx (nth [])) (hp [(0,⟨1,64,(List.replicate 64 (0:Int)).map aJ⟩)]) 1 H=H.set nx ⟨1,64,(List.replicate 64 (0:Int)).map aJ⟩:=by simp only[back,hp,aA.set,tau,bq2,if_true,if_false,Nat.sub_zero,Nat.add_zero,Option.map_some,uB,aA.eL]
 rw[←e1] at h;exact h
theorem aSG:aB Tryz.prog v7 [] (hp []) 0
 fun r H' n'=>∃hc,6≤hc∧n'=2∧H'=hp [(0,⟨1,64,(List.replicate 64 (0:Int)).map aJ⟩),(1,⟨1,hc,(List.replicate 6 (-1:Int)).map aJ⟩)]∧r=boR [.osl 1 0 0 64 64,.osl 1 1 0 6 hc]:=by
 refine aQ1 rfl fun Q hQ=> ?_
 unfold aNO
 generalize hw0:List.replicate 64 (0:Int)=bk1
 have hmn: ∀{H:aA} {nx:Nat} {K:D→aA→Nat→Prop},K (boR [.osl 1 nx 0 64 64]) (H.set nx ⟨1,64,bk1.map aJ⟩) (nx+1)→aB Tryz.prog v8 [] H nx K:=fun h=>by subst hw0;exact aSB h
 repeat' first| (first|apply bn1|apply hmn)<;>(simp only[go_sem])|fail
 apply aM.EJ 1
 refine aM.sG 4 (β:=Nat×Nat) (fun b u=>en [(2,boP u.1),(1,bkP 2 (b+1)),(0,bkP 2 b)])
  (fun b u=>hp [(b,⟨2,1,[[.osl 0 0 0 0 0,.osl 0 0 0 0 0]]⟩),(b+1,⟨2,1,[[.osl 1 (b+2) 0 64 64,.osl 1 (b+3) 0 u.1 u.2]]⟩),(b+2,⟨1,64,bk1.map aJ⟩),(b+3,⟨1,u.2,(List.replicate u.1 (-1:Int)).map aJ⟩)]) (fun u=>u.1≤6∧u.1≤u.2) (fun u=>6-u.1) (0,0)
  ?_ ⟨by dsimp only;omega,by dsimp only;omega⟩ ?_
 · (refine cR [0,3,5,7] (by omega) (by repeat' first|exact bo2|refine xqI rfl rfl ?_|refine xqP (by omega) rfl rfl ?_|fail) ⟨⟨by simp,by simp[sgL],_,rfl,aP (by repeat' first| (with_reducible first|exact bo4|apply bo5)| ((with_reducible apply bo0);exact bpA)|fail)⟩,⟨by simp,by simp[sgL],_,rfl,aP (by repeat' first|exact bo2| (with_reducible first|exact bo4|apply bo5)| ((with_reducible apply bo0);first|exact bpA|exact bpB (by omega) rfl rfl (by rfl) rfl)|fail)⟩,⟨by simp,by simp[sgL],_,rfl,bP (aG bF _) rfl rfl⟩,⟨by simp,by simp[sgL],_,rfl,bP (aG bF _) rfl rfl⟩,trivial⟩ (by simp[sgL]))
 ·rintro⟨k,cap⟩ ⟨hk,hc⟩ bpQ hKL;dsimp only at hk hc;have hrep:List.replicate (k+1) (-1:Int)=List.replicate k (-1)++[-1]:=List.replicate_succ';by_cases hlt:k<6
  ·repeat' first|apply bn1<;>(simp only[go_sem];try simp (disch:=omega) only[Iw])|apply bn2 (by omega)| (with_reducible first|refine fun(cap:Nat) (hcap:_≤cap)=> ?_|refine fun(hcp:_≤cap)=> ?_)|refine⟨by omega,?_⟩|fail
   exact hKL _ _ _ (k+1,cap) (by omega) (by(refine cR [8,9,10,17] (by omega) (by repeat' first|exact bo2|refine xqI rfl rfl ?_|refine xqP (by omega) rfl rfl ?_|fail) ⟨⟨by simp,by simp[sgL],_,rfl,aP (by repeat' first|exact bo2| (with_reducible first|exact bo4|apply bo5)| ((with_reducible apply bo0);exact bpA)|fail)⟩,⟨by simp,by simp[sgL],_,rfl,aP (by repeat' first|exact bo2| (with_reducible first|exact bo4|apply bo5)| ((with_reducible apply bo0);exact bpB (by omega) rfl rfl (by rfl) rfl)|fail)⟩,⟨by simp,by simp[sgL],_,rfl,bP (aG bF _) rfl rfl⟩,⟨by simp,by simp[sgL],_,rfl,bP (aG bF _) (congrArg _ hrep) rfl⟩,trivial⟩ (by simp[sgL]))) ⟨by dsimp only;omega,by dsimp only;omega⟩ (by dsimp only;omega)
  ·repeat' first|apply bn1<;>(simp only[go_sem])|apply bn3 (by omega)|fail
   have hk2:k=6:=(by omega);subst hk2;(refine hQ _ _ _ _ _ 2 (boR [.osl 1 0 0 64 64,.osl 1 1 0 6 cap]) (hp [(0,⟨1,64,bk1.map aJ⟩),(1,⟨1,cap,(List.replicate 6 (-1:Int)).map aJ⟩)]) _ _ (.inr rfl) rfl (fU [10,11] (by omega) (by repeat' first|exact bo2| ((with_reducible apply bo0);exact bpB (by omega) rfl rfl (by rfl) rfl)| ((with_reducible apply bo1);apply bo6)|exact bo4|apply bo5|fail) ⟨⟨by simp,by simp[sgL],_,rfl,bP (aG bF _) rfl rfl⟩,⟨by simp,by simp[sgL],_,rfl,bP (aG bF _) rfl rfl⟩,trivial⟩ (by simp[sgL])) ?_);exact⟨cap,hc,rfl,by rw[hw0],rfl⟩
theorem aR5 (h: ∀hc,6≤hc→K (boR [.osl 1 nx 0 64 64,.osl 1 (nx+1) 0 6 hc]) ((H.set nx ⟨1,64,(List.replicate 64 (0:Int)).map aJ⟩).set (nx+1) ⟨1,hc,(List.replicate 6 (-1:Int)).map aJ⟩) (nx+2)):aB Tryz.prog v7 [] H nx K:=by
 refine aSG.AF (l0:=[]) [] rfl trivial trivial (by simp) (by simp) (by simp) fun r H' n' _ ⟨hc,bqB,q1,q2,q3⟩=> ?_;have h:=h hc bqB;subst q1;subst q2;subst q3;generalize List.replicate 64 (0:Int)=bk1 at*;generalize List.replicate 6 (-1:Int)=bqH at*;have e1:back (tau 0 nx (nth [])) (hp [(0,⟨1,64,bk1.map aJ⟩),(1,⟨1,hc,bqH.map aJ⟩)]) 2 H=(H.set nx ⟨1,64,bk1.map aJ⟩).set (nx+1) ⟨1,hc,bqH.map aJ⟩:=by simp only[asR,hp,aA.set,tau,bq2,if_true,if_false,Nat.sub_zero,Nat.add_zero,Option.map_some,uB,aA.eL,Nat.zero_ne_one,brN]
 rw[←e1] at h;exact h
theorem aMB {w:List Int} (hl:w.length<2^21) (h:K (boR [.isl (w.map aJ)]) H nx):aB Tryz.prog aIW [boR [.isl (w.map aJ)]] H nx K:=by
 refine aB.fresh (R:=fun rr=>rr=boR [.isl (w.map aJ)]) ?_ rfl (fun r hr=>hr▸h);clear h;refine aKY rfl fun Q hQ=> ?_;unfold aJE;repeat' first|apply bn1<;>(simp only[go_sem])| (with_reducible first|refine fun(cap:Nat) (hcap:_≤cap)=> ?_|refine fun(hcp:_≤cap)=> ?_)|refine⟨by omega,?_⟩|fail
 all_goals exact V4 hQ (boR [.isl (w.map aJ)]) _ rfl (aH (bW bF rfl rfl (by omega) trivial) eP) rfl rfl
theorem aKA {w:List Int} {u:List Int} (hl:w.length<2^21) (hu:u.length<2^21) (h:K (boR [.isl (w.map aJ),.isl (u.map aJ)]) H nx):aB Tryz.prog aIR [boR [.isl (w.map aJ),.isl (u.map aJ)]] H nx K:=by
 refine aB.fresh (R:=fun rr=>rr=boR [.isl (w.map aJ),.isl (u.map aJ)]) ?_ rfl (fun r hr=>hr▸h);clear h;refine aKW rfl fun Q hQ=> ?_;unfold aJH;repeat' first| (first|apply bn1|apply aMB hl)<;>(simp only[go_sem])| (with_reducible first|refine fun(cap:Nat) (hcap:_≤cap)=> ?_|refine fun(hcp:_≤cap)=> ?_)|refine⟨by omega,?_⟩|fail
 all_goals exact V4 hQ (boR [.isl (w.map aJ),.isl (u.map aJ)]) _ rfl (aH (bB rfl) (aH (bW bF rfl rfl (by omega) trivial) eP)) rfl rfl
theorem aMW {r:Rsp} (hl:r.data.length<2^21) (h:K (boR (tG r)) H nx):aB Tryz.prog aI8 [boR (tG r)] H nx K:=by
 refine aB.fresh (R:=fun rr=>rr=boR (tG r)) ?_ rfl (fun r hr=>hr▸h);clear h;refine aLO rfl fun Q hQ=> ?_;unfold aJN;repeat' first|apply bn1<;>(simp only[go_sem])| (with_reducible first|refine fun(cap:Nat) (hcap:_≤cap)=> ?_|refine fun(hcp:_≤cap)=> ?_)|refine⟨by omega,?_⟩|fail
 all_goals exact V4 hQ (boR (tG r)) _ rfl (aH (bB rfl) (aH (bB rfl) (aH (bW bF rfl rfl (by omega) trivial) eP))) rfl rfl
theorem aI1 {l:List Job} (hl:l.length<2^21) (hd: ∀j∈l,j.rsp.data.length<2^21) (h:K (dS (l.map aS)) H nx):aB Tryz.prog aIM [dS (l.map aS)] H nx K:=by
 refine aB.fresh (R:=fun rr=>rr=dS (l.map aS)) ?_ rfl (fun r hr=>hr▸h);clear h;refine aLL rfl fun Q hQ=> ?_;unfold aJF;repeat' first|apply bn1<;>(simp only[go_sem])|fail
 refine aM.sG 1 (β:=Nat×Nat) (fun b u=>en [(4,boP u.1),(3,boQ 5 b u.1 u.2),(0,dS (l.map aS))])
  (fun b u=>hp [(b,⟨5,u.2,(l.take u.1).map aS⟩)]) (fun u=>u.1≤l.length∧u.1≤u.2) (fun u=>l.length-u.1) (0,0) (by(refine cR [1] (by omega) (by repeat' first|exact bo2|refine xqI rfl rfl ?_|refine xqO (by omega) rfl rfl (by rfl) ?_|fail) ⟨⟨by simp,by simp[sgL],_,rfl,bP (aG dZ _) rfl rfl⟩,trivial⟩ (by simp[sgL]))) ⟨by omega,by omega⟩ ?_
 rintro⟨k,cap⟩ ⟨hk,hc⟩ bpQ hKL;dsimp only at hk hc;have htt:(l.take k).take k=l.take k:=boL (by simp;omega);by_cases hlt:k<l.length
 ·have hm:=hd _ (cC hlt);repeat' first| (first|apply bn1|apply aMW hm)<;>(simp only[go_sem,htt,aM8];try simp (disch:=omega) only[Iw])|apply bn2 (by omega)| (with_reducible first|refine fun(cap:Nat) (hcap:_≤cap)=> ?_|refine fun(hcp:_≤cap)=> ?_)|refine⟨by omega,?_⟩| (refine⟨by(rw[CG];omega),?_⟩)|fail
  all_goals exact hKL _ _ _ (k+1,cap) (by omega) (by(refine cR [28] (by omega) (by repeat' first|exact bo2|refine xqI rfl rfl ?_|refine xqO (by omega) rfl rfl (by rfl) ?_|fail) ⟨⟨by simp,by simp[sgL],_,rfl,bP (aG dZ _) (by rw[nK hlt]) rfl⟩,trivial⟩ (by simp[sgL]))) ⟨by dsimp only;omega,by dsimp only;omega⟩ (by dsimp only;omega)
 ·repeat' first|apply bn1<;>(simp only[go_sem])|apply bn3 (by omega)|fail
  have hk2:k=l.length:=by omega
  subst hk2;exact V4 hQ (dS (l.map aS)) _ rfl (DJ (rows:=l.map aS) (aG dZ _) (by simp) trivial rfl rfl (by simp[boL]) (by simp;omega)) rfl rfl
theorem beM {q:Req} (h:dH q):q.data.length<2^40∧q.g6.length<2^40:=by
 obtain⟨_,_,h3,h4,h5,_,_,_⟩:=h;have hb4:=MK (addr:=q.addr) (many:=q.many) (wrap:=q.wrap);have hbl:=DF h3;have hm:q.many≤4:=by omega
 unfold n5 at h4 h5;constructor;·split at h4<;>omega
 ·split at h5<;>omega
theorem a20 {m:List Rng} {q:Req} (hm:DH m) (hq:dH q) (hl:m.length<2^21) (h:K (boP (gZ m q)) H nx):aB Tryz.prog y3 [dS (m.map eN),boR (eB q)] H nx K:=by
 refine aB.pure (args0:=[dS (m.map eN),boR (eB q)]) (R:=fun rr=>rr=boP (gZ m q)) ?_ rfl (aI ⟨aE rfl,aE rfl,trivial⟩) (fun r hr=>hr▸h);clear h;refine aCQ rfl fun Q hQ=> ?_;unfold aA7;have hwh:bV m (bE q.addr q.many q.wrap)<m.length:=by have hlt:=PQ (p:=(inR · ((bE q.addr q.many q.wrap).getD 0 default))) (l:=m);unfold bV;grind
 have hd:=beM hq;have hb4:(bE q.addr q.many q.wrap).length<2^40:=by have:=MK (addr:=q.addr) (many:=q.many) (wrap:=q.wrap);omega
 have d1:=decide_eq_true hm;have d2:=decide_eq_true hq;repeat' first| (first|apply bn1|apply aD5 (by omega)|apply aD8 hd.1 hd.2|apply aC9|apply aDG (by omega) hb4)<;>(simp only[go_sem,d1,d2,eq_true hm,eq_true hq])|refine bnE (fun h=> ?_) fun h=> ?_|refine⟨by omega,?_⟩|fail
 all_goals first|with_reducible refine aZ hQ _ rfl rfl ?_|skip
 ·unfold gZ;exact(congrArg boP (if_pos h)).symm
 ·unfold gZ;exact(congrArg boP (if_neg h)).symm
theorem bhY {c:Cfg} {s:CSt} {who:Nat} {st:Nat} (hb:aQ c) (hs:COk c s) (hw:who<3) (hst:st<4) {d1:D} (hd1:CvD H (fun _=>True) id 0 (boR (eI s)) d1) (h:K (dB (decide (HV c s who st))) H nx):aB Tryz.prog bgQ [boR (cU c),d1,boP who,boP st] H nx K:=by
 refine aB.pure (args0:=[boR (cU c),boR (eI s),boP who,boP st]) (R:=fun rr=>rr=dB (decide (HV c s who st))) ?_ rfl (aI ⟨aE rfl,hd1,aE rfl,aE rfl,trivial⟩) (fun r hr=>hr▸h);clear h;refine biY rfl fun Q hQ=> ?_;unfold bg5;obtain⟨hp3,hpr⟩:=hC hb;have hprw:=hpr who;have hmo:DH c.map:=hb.1;have hml:=hb.1.1;have hpl:=hs.pl;have hpo:=hs.port who hw;obtain⟨p,hp⟩: ∃p,s.bM.getD who default=p:=⟨_,rfl⟩
 have hp':aF s who=p:=hp;obtain⟨n0,hn0⟩: ∃n0,p.queue.getD 0 default=n0:=⟨_,rfl⟩
 have hM:HV c s who st↔(0<p.queue.length∧p.out.length<4∧gZ c.map (bT c who n0)=st∧ ∀j∈p.out,(bT c who j.n).id=(bT c who n0).id→j.left=st):=by unfold HV;rw[hp',hn0]
 rw[hp'] at hpo;obtain⟨hn1,hn2⟩:=hpo.next;obtain⟨hq1,hq2⟩:=hpo.ql;have hq0:=hpo.queue 0;rw[hn0] at hq0;have hol:=hpo.ol;obtain⟨P,boS⟩: ∃P,c.cP.getD who default=P:=⟨_,rfl⟩
 rw[boS] at hprw hn2;have hre: ∀n:Int,bT c who n=P.getD n.toNat default:=fun n=>by unfold bT;rw[Int.toNat_natCast,boS]
 by_cases h0:p.queue.length=0
 ·have bpN:((p.queue.length:Int)=0)=True:=eq_true (by omega);repeat' first|apply bn1<;>(simp only[go_sem,hpl,hp,bpN])|refine⟨by omega,?_⟩|fail
  exact aZ hQ _ rfl rfl (j7 (by rw[hM];omega))
 have bpN:((p.queue.length:Int)=0)=False:=eq_false (by omega);by_cases h4:p.out.length=4
 ·have bpO:((p.out.length:Int)=4)=True:=eq_true (by omega);repeat' first|apply bn1<;>(simp only[go_sem,hpl,hp,bpN,bpO])|refine⟨by omega,?_⟩|fail
  exact aZ hQ _ rfl rfl (j7 (by rw[hM];omega))
 have bpO:((p.out.length:Int)=4)=False:=eq_false (by omega);have hq0:=hq0 (by omega);obtain⟨q,hq⟩: ∃q,P.getD n0.toNat default=q:=⟨_,rfl⟩
 have hq':bT c who n0=q:=by rw[hre];exact hq
 have hqo:dH q:=hq'▸GK hb (hpo.asks hw (by omega) (by omega));rw[hq'] at hM;by_cases hsl:gZ c.map q=st
 ·have bpP:(gZ c.map q=(st:Int))=True:=eq_true hsl;repeat' first| (first|apply bn1|apply a20 hmo hqo (by omega))<;>(simp only[go_sem,hpl,hp3,hp,boS,hn0,hq,bpN,bpO,bpP])|refine⟨by omega,?_⟩|fail
  refine aM.gP (β:=Nat) (fun k=>en [(11,boP k),(10,.one (.c (.ptr 7 31 0 0))),(9,.one (.c (.ptr 4 8 0 0))),(4,.one (.c (.ptr 3 0 0 0))),(3,boP st),(2,boP who)]) (fun k H1 _=>H1 0=some ⟨3,1,[cU c]⟩∧H1 8=some ⟨4,1,[cD p]⟩∧H1 31=some ⟨7,1,[eB q]⟩∧k≤p.out.length∧ ∀i,i<k→(bT c who (p.out.getD i default).n).id=q.id→(p.out.getD i default).left=st) (fun k=>p.out.length-k) 0 ⟨noF,_,by repeat' first|exact bo2|refine xqI rfl rfl ?_|refine xqP (by omega) rfl rfl ?_|fail,aK,rfl,rfl,rfl,by omega,fun i hi=>by omega⟩ ?_;rintro k H1 nx1 hnx1 ⟨bqC,g1,g2,hk,hinv⟩ bpQ hKL;by_cases hlt:k<p.out.length
  ·obtain⟨o,ho⟩: ∃o,p.out.getD k default=o:=⟨_,rfl⟩
   have hom:o∈p.out:=(by rw[←ho];exact cC hlt);obtain⟨_,ho2,_⟩:=hpo.out o hom;obtain⟨q2,hq2⟩: ∃q2,P.getD o.n.toNat default=q2:=⟨_,rfl⟩
   have hq2':bT c who o.n=q2:=(by rw[hre];exact hq2);repeat' first| (first|apply bn1|refine bpL (fun h=> ?_) fun h=> ?_)<;>(simp only[go_sem,bqC,g1,g2,hpl,hp3,hp,boS,hn0,ho,hq2];try simp (disch:=omega) only[Iw])|apply bn2 (by omega)|refine bnE (fun h=> ?_) fun h=> ?_|refine⟨by omega,?_⟩|fail
   all_goals first
    | (refine aZ hQ _ rfl rfl (j7 ?_)
       rw[hM]
       rintro⟨_,_,_,hall⟩
       have:=hall o hom (by rw[hq2'];omega)
       omega)
    |exact hKL _ _ _ (k+1) noF _ (by omega) (by omega) (by repeat' first|exact bo2|refine xqI rfl rfl ?_|refine xqP (by omega) rfl rfl ?_|fail) aK ⟨bqC,g1,g2,by omega,fun i hi hid=>by
     by_cases hik:i<k
     ·exact hinv i hik hid
     ·have:i=k:=(by omega);subst this;rw[ho] at hid ⊢;rw[hq2'] at hid;omega⟩
  ·repeat' first|apply bn1<;>(simp only[go_sem,bqC,g1,g2])|apply bn3 (by omega)|fail
   refine aZ hQ _ rfl rfl (q9 ?_);rw[hM];refine⟨by omega,by omega,hsl,fun j hj hid=> ?_⟩;obtain⟨i,hi,rfl⟩:=bqY.1 hj;have:=hinv i (by omega);rw[KL,n1 hi,Option.getD_some] at this;exact this hid
 ·have bpP:(gZ c.map q=(st:Int))=False:=eq_false hsl;repeat' first| (first|apply bn1|apply a20 hmo hqo (by omega))<;>(simp only[go_sem,hpl,hp3,hp,boS,hn0,hq,bpN,bpO,bpP])|refine⟨by omega,?_⟩|fail
  exact aZ hQ _ rfl rfl (j7 (by rw[hM];omega))
end
end Go.Proofs.YtmccpdapaccnoaaGreat
namespace Go.AM
theorem aXE {l:List Job} {j:Job} (h:key j∈l.map key):jT (Go.Proofs.YtmccpdapaccnoaaGreat.UB l) [j.who,j.n]=some 1:=by
 induction l with
 |nil=>simp at h
 |cons x l ih=>
  unfold jT Go.Proofs.YtmccpdapaccnoaaGreat.UB;rw[n3,List.find?_cons];by_cases he:[j.who,j.n]=[x.who,x.n]
  ·simp[he]
  ·have h2:key j∈l.map key:=by
    rw[n3,t3] at h
    rcases h with h|h
    ·exact absurd (by simp only[key,Prod.mk.injEq] at h;rw[h.1,h.2]) he
    ·exact h
   simp only[he,decide_false]
   exact ih h2
theorem aXB {α:Type} [Inhabited α] {l:List α} {i:Nat} (h:i<l.length):l=l.take i++l.getD i default::l.drop (i+1):=by
 have:l.getD i default=l[i]:=by simp[List.getD,h]
 rw[this,←brB h,boN]
end Go.AM
namespace Go.Proofs.YtmccpdapaccnoaaGreat
open Go Go.AM
attribute [local irreducible] aM wv aB vd wvH
section
variable {H : aA} {nx : Nat} {K : D → aA → Nat → Prop}
theorem aVW {c:Cfg} {s:TSt} (hb:aQ c) (ht:aTQ s) (h:K (dB (stB c s)) H nx):aB Tryz.prog j9 [boR (cU c),boR (eSt s)] H nx K:=by
 refine aB.pure (args0:=[boR (cU c),boR (eSt s)]) (R:=fun rr=>rr=dB (stB c s)) ?_ rfl (aI ⟨aE rfl,aE rfl,trivial⟩) (fun r hr=>hr▸h);clear h;refine GV rfl fun Q hQ=> ?_;unfold mC;obtain⟨hp3,hp12⟩:=hC hb;obtain⟨bpN,bpO,bpP,bpY,aU1,aU2,aXK⟩:=ht;have hd: ∀j∈s.wait++s.done++s.told,j.rsp.data.length<2^40:=fun j hj=>by have:=aXK j hj;omega
 by_cases h0:JS s.words s.holds∧(s.asked.length:Int)=3∧kW s.wait∧kW s.done
 case neg=>
  have hno: ¬BA c s:=fun hs=>h0 ⟨ZS hs.atm,by rw[hs.JI];rfl,hs.NR,hs.NW⟩;repeat' first| (first|apply bn1|refine bpL (fun h=> ?_) fun h=> ?_|refine JZ (w:=s.words) (u:=s.holds) (by omega) (by omega) (aE rfl) ?_|refine IK (l:=s.wait) (by omega) (aE rfl) ?_|refine IK (l:=s.done) (by omega) (aE rfl) ?_)<;>(simp only[go_sem])|refine bnE (fun h=> ?_) fun h=> ?_|fail
  all_goals first|exact aZ hQ (dB false) rfl rfl (congrArg dB (aWH hno).symm)|exact absurd ⟨by simp_all,by omega,by simp_all,by simp_all⟩ h0
 obtain⟨hatm,hal,hwS,hdS⟩:=h0;have hal:s.asked.length=3:=by omega
 have hsum3:=af9 hal;repeat' first| (first|apply bn1|apply bpK (by omega)|refine JZ (w:=s.words) (u:=s.holds) (by omega) (by omega) (aE rfl) ?_|refine IK (l:=s.wait) (by omega) (aE rfl) ?_|refine IK (l:=s.done) (by omega) (aE rfl) ?_)<;>(simp only[go_sem,eq_true hatm,eq_true hwS,eq_true hdS])|fail
 refine aM.sG 0 (β:=Nat) (fun b k=>en [(38,boP k),(37,boP s.asked.length),(36,dS (s.asked.map aJ)),(5,boP (s.asked.take k).sum),(3,.one (.c (.fQ (eSt s)))),(2,.one (.c (.fQ (cU c))))]) (fun b k=>.nil) (fun k=>k≤3∧(0≤(s.asked.take k).sum∧(s.asked.take k).sum≤12*k)∧ ∀i,i<k→0≤s.asked.getD i default∧s.asked.getD i default≤(c.cP.getD i default).length) (fun k=>3-k) 0 (bU (m5 _) (by repeat' first|exact bo2|refine xqI rfl rfl ?_| (with_reducible apply bo3)| ((with_reducible apply bo1);exact bpH rfl (by simp) rfl rfl rfl)|fail)) ⟨by omega,by simp,fun i hi=>by omega⟩ ?_;rintro k ⟨hk,⟨h1,h2⟩,hinv⟩ bpQ hKL;by_cases hlt:k<3
 ·have hst:=alS (l:=s.asked) (k:=k) (by omega);have hpk:=hp12 k;repeat' first| (first|apply bn1|apply fE)<;>(simp only[go_sem];try simp (disch:=omega) only[Iw])|apply bn2 (by omega)|refine bnE (fun h=> ?_) fun h=> ?_|refine⟨by omega,?_⟩|fail
  ·exact aZ hQ (dB false) rfl rfl (congrArg dB (aWH fun hs=>by have:=hs.DC k hlt;omega).symm)
  ·exact hKL _ _ _ (k+1) (by omega) (by rw[hst];exact bU (by omega) (by repeat' first|exact bo2|refine xqI rfl rfl ?_|fail)) ⟨by omega,by rw[hst];omega,iS hinv (by omega)⟩ (by omega)
 have hk3:k=3:=by omega
 subst hk3;have hask:aTF c s.asked:=hinv
 have hab: ∀i,0≤s.asked.getD i default∧s.asked.getD i default≤12:=fun i=>by
  by_cases hi:i<3;·have h1:=hask i hi;have h2:=hp12 i;omega
  ·have:s.asked.getD i default=0:=(by simp[List.getD,show s.asked.length≤i by omega]);omega
 repeat' first|apply bn1<;>(simp only[go_sem])|apply bn3 (by omega)|fail
 obtain⟨bm8,hLL⟩: ∃bm8:List TE,bm8=[s.wait,s.done,s.told]:=⟨_,rfl⟩
 have hLl:bm8.length=3:=by subst hLL;rfl
 have hLr:[[D1.isl (s.wait.map aS)],[D1.isl (s.done.map aS)],[D1.isl (s.told.map aS)]]=bm8.map IF:=by subst hLL;rfl
 obtain⟨seen,hse⟩: ∃seen:Nat→List Job,seen=fun k=>(bm8.take k).flatten:=⟨_,rfl⟩
 have hs0:seen 0=[]:=by subst hse;rfl
 have hs3:seen 3=s.wait++s.done++s.told:=by subst hse;subst hLL;simp
 have hss: ∀k,k<3→seen (k+1)=seen k++bm8.getD k default:=fun k hk=>by subst hse;simp only;rw[brQ (by omega),List.flatten_append];simp[List.getD,show k<bm8.length by omega]
 have hsk: ∀k,k<3→∃r,seen 3=seen k++bm8.getD k default++r:=fun k hk=>by
  have:k=0∨k=1∨k=2:=by omega
  rcases this with rfl|rfl|rfl;·exact⟨bm8.getD 1 default++bm8.getD 2 default,by rw[hss 2 (by omega),hss 1 (by omega),hss 0 (by omega),C0]⟩
  ·exact⟨bm8.getD 2 default,by rw[hss 2 (by omega),hss 1 (by omega)]⟩
  ·exact⟨[],by rw[hss 2 (by omega),bq6]⟩
 have hmem: ∀k,k<3→∀j∈bm8.getD k default,j∈s.wait++s.done++s.told:=fun k hk j hj=>by obtain⟨r,hr⟩:=hsk k hk;rw[←hs3,hr];exact brA _ (brH _ hj)
 have hL0:bm8.getD 0 default=s.wait:=by subst hLL;rfl
 have hL12: ∀j,j∈s.done++s.told↔∃k,(k=1∨k=2)∧j∈bm8.getD k default:=fun j=>by
  subst hLL;constructor
  ·intro h;rcases o3.1 h with h|h;·exact⟨1,.inl rfl,h⟩
   ·exact⟨2,.inr rfl,h⟩
  ·rintro⟨k,rfl|rfl,h⟩;·exact brA _ h
   ·exact brH _ h
 have hLs: ∀k,k<3→(bm8.getD k default).length<2^21:=fun k hk=>by
  have:k=0∨k=1∨k=2:=by omega
  subst hLL;rcases this with rfl|rfl|rfl<;>(simp[List.getD];omega)
 have hsl: ∀k,k≤3→(seen k).length≤k*2^21:=fun k hk=>by
  have e1:=hLs 0 (by omega);have e2:=hLs 1 (by omega);have e3:=hLs 2 (by omega);have bpR:(seen 1).length=(bm8.getD 0 default).length:=by rw[hss 0 (by omega),hs0,List.nil_append]
  have f2:(seen 2).length=(seen 1).length+(bm8.getD 1 default).length:=by rw[hss 1 (by omega),t2]
  have bpS:(seen 3).length=(seen 2).length+(bm8.getD 2 default).length:=by rw[hss 2 (by omega),t2]
  have:k=0∨k=1∨k=2∨k=3:=by omega
  rcases this with rfl|rfl|rfl|rfl;·rw[hs0];simp
  ·omega
  ·omega
  ·omega
 rw[hLr];clear hLr hLL hse
 refine aM.sG 1 (β:=Nat) (fun b k=>en [(65,boP k),(64,boP 3),(63,dS (bm8.map IF)),(8,.one (.c (.omap b))),(5,boP (s.asked.take 3).sum),(3,.one (.c (.fQ (eSt s)))),(2,.one (.c (.fQ (cU c))))]) (fun b k=>hp [(b,u4 ⟨2,true,UB (seen k)⟩)])
  (fun k=>k≤3∧(∀j∈seen k,InA s.asked j)∧((seen k).map key).Nodup∧(0<k→∀j∈s.wait,j.rsp=oW)∧ ∀i,i<k→0<i→∀j∈bm8.getD i default,as5 c j) (fun k=>3-k) 0 ?_ ⟨by omega,fun j hj=>by rw[hs0] at hj;simp at hj,by rw[hs0];simp,fun h=>by omega,fun i hi=>by omega⟩ ?_
 ·refine cR [31] (by omega) ?_ ⟨⟨by simp,by simp[sgL],_,rfl,GH (by rw[hs0];rfl)⟩,trivial⟩ (by simp[sgL]);refine oF (oF (oF (oF (oF (oF (oF K6 ?_) ?_) ?_) ?_) ?_) ?_) ?_
  all_goals first
   |exact DJ (rows:=bm8.map IF) (aG al7 bm8) (by simp;omega) (by simp) rfl rfl (boL (by simp)) (by simp;omega)
   |exact apS (aa6 (by omega) rfl)
   | (repeat' (first|exact bo2| ((with_reducible apply bo1);exact bo8 rfl)|fail);done)
 rintro k ⟨hk,hI1,hI2,hI3,hI4⟩ bqG hKM;by_cases hlt:k<3
 ·have hss1:=hss k hlt;have hmm:=hmem k hlt;have hlk:=hLs k hlt;obtain⟨rest,hrest⟩:=hsk k hlt;have hc0:k=0→bm8.getD k default=s.wait:=fun h=>by rw[h];exact hL0
  have hc1:0<k→∀j∈bm8.getD k default,j∈s.done++s.told:=fun h j hj=>(hL12 j).2 ⟨k,by omega,hj⟩;have hI4': ∀i,i<k→0<i→∀j∈bm8.getD i default,as5 c j:=hI4
  have hI5:(∀j∈bm8.getD k default,as5 c j)→∀i,i<k+1→0<i→∀j∈bm8.getD i default,as5 c j:=fun h i hi h0=>by
   rcases br8.1 hi with h2|h2;·exact hI4 i h2 h0
   ·subst h2;exact h
  generalize hcur:bm8.getD k default=cur at hss1 hmm hlk hc0 hc1 hrest hI5;repeat' first|apply bn1<;>(simp only[go_sem,hcur])|apply bn2 (by omega)|refine⟨by omega,?_⟩|fail
  refine aM.sG 1 (β:=Nat) (fun b i=>en [(72,boP i),(71,boP cur.length),(70,dS (cur.map aS)),(65,boP k),(64,boP 3),(63,dS (bm8.map IF)),(9,boP k),(8,.one (.c (.omap b))),(5,boP (s.asked.take 3).sum),(3,.one (.c (.fQ (eSt s)))),(2,.one (.c (.fQ (cU c))))]) (fun b i=>hp [(b,u4 ⟨2,true,UB (seen k++cur.take i)⟩)])
   (fun i=>i≤cur.length∧(∀j∈seen k++cur.take i,InA s.asked j)∧((seen k++cur.take i).map key).Nodup∧ ∀j∈cur.take i,if k=0 then j.rsp=oW else as5 c j) (fun i=>cur.length-i) 0 (by(refine cR [42] (by omega) (by repeat' first|exact bo2|refine xqI rfl rfl ?_| (with_reducible apply bo3)| ((with_reducible apply bo0);exact bpD (by omega) rfl)| ((with_reducible apply bo1);apply bo7)|fail) ⟨⟨by simp,by simp[sgL],_,rfl,GH (by simp)⟩,trivial⟩ (by simp[sgL]))) ⟨by omega,by simpa using hI1,by simpa using hI2,by simp⟩ ?_
  rintro i ⟨hi,hJ1,hJ2,hJ3⟩ bqR hKN;by_cases hil:i<cur.length
  ·have hjc:=cC hil;have hjm:=hmm _ hjc;have hjd:=hd _ hjm;have hts:cur.take (i+1)=cur.take i++[cur.getD i default]:=(by rw[brQ hil];simp[List.getD,hil]);have hall:s.wait++s.done++s.told=(seen k++cur.take i)++cur.getD i default::(cur.drop (i+1)++rest):=(by rw[←hs3,hrest,C0,C0,←List.cons_append,←C0 (cur.take i),←aXB hil]);have hw0:k=0→cur.getD i default∈s.wait:=fun h=>by rw[←hc0 h];exact hjc
   have hw1:0<k→cur.getD i default∈s.done++s.told:=fun h=>hc1 h _ hjc;generalize hjj:cur.getD i default=j at*;have hno1: ¬InA s.asked j→¬BA c s:=fun h hs=>h (hs.inA j hjm);have hno2:key j∈(seen k++cur.take i).map key→¬BA c s:=fun h hs=>by have hn:=hs.nodup;unfold keys at hn;rw[hall,bqX] at hn;exact(brG.1 hn).2.2 _ h _ (by simp) rfl
   by_cases hin:InA s.asked j
   case neg=>
    unfold InA at hin;have hal3:(s.asked.length:Int)=3:=(by omega);have har:=hab j.who.toNat;have hpk:=hp12 j.who.toNat;repeat' first| (first|apply bn1|apply bpJ (by omega)|refine bpL (fun h=> ?_) fun h=> ?_|apply oR|apply fE)<;>(simp only[go_sem,hjj];try simp (disch:=omega) only[Iw])|apply bn2 (by omega)|refine⟨by omega,?_⟩|fail
    all_goals first
     |exact aZ hQ (dB false) rfl rfl (congrArg dB (aWH (hno1 hin)).symm)
     | (exfalso;omega)
   have hni:key j∉(seen k++cur.take i).map key∨key j∈(seen k++cur.take i).map key:=(Classical.em _).symm
   have hJ1': ∀x∈seen k++cur.take (i+1),InA s.asked x:=fun x hx=>by
    rw[hts,←C0] at hx;rcases o3.1 hx with hx|hx;·exact hJ1 x hx
    ·simp at hx;subst hx;exact hin
   have hja:oA c j.who j.n:=by obtain⟨⟨q1,q2⟩,q3,q4⟩:=hin;have:=hask j.who.toNat (by omega);exact⟨⟨q1,q2⟩,q3,by omega⟩
   obtain⟨⟨q1,q2⟩,q3,q4⟩:=hin;have har:=hask j.who.toNat (by omega);have hpk:=hp12 j.who.toNat;rcases hni with hni|hni
   case inr=>
    have hget:=aXE hni;repeat' first| (first|apply bn1|apply bpK (by omega)|apply oR|apply fE)<;>(simp only[go_sem,hjj,hget,Option.getD_some];try simp (disch:=omega) only[Iw])|apply bn2 (by omega)|refine⟨by omega,?_⟩|fail
    all_goals exact aZ hQ (dB false) rfl rfl (congrArg dB (aWH (hno2 hni)).symm)
   have hget:=alK hni;have hset:=alD hni;have hJ2':((seen k++cur.take (i+1)).map key).Nodup:=by rw[hts,←C0,bqX];refine brG.2 ⟨hJ2,by simp,fun a ha b hb he=> ?_⟩;simp at hb;subst hb;subst he;exact hni ha
   have hJ3':(if k=0 then j.rsp=oW else as5 c j)→∀x∈cur.take (i+1),if k=0 then x.rsp=oW else as5 c x:=fun h x hx=>by
    rw[hts] at hx;rcases o3.1 hx with hx|hx;·exact hJ3 x hx
    ·simp at hx;subst hx;exact h
   by_cases hk0:k=0
   ·by_cases hjr:j.rsp=oW
    ·repeat' first| (first|apply bn1|apply bpJ (by omega)|apply bpK (by omega)|apply oR|apply fE|apply HK hjd)<;>(simp only[go_sem,hjj,hget,hset,Option.getD_none,eq_true hjr];try simp (disch:=omega) only[Iw])|apply bn2 (by omega)|refine⟨by omega,?_⟩|fail
     exact hKN _ _ _ (i+1) (by omega) (by(refine cR [52] (by omega) (by repeat' first|exact bo2|refine xqI rfl rfl ?_| (with_reducible apply bo3)| ((with_reducible apply bo0);exact bpD (by omega) rfl)| ((with_reducible apply bo1);apply bo7)|fail) ⟨⟨by simp,by simp[sgL],_,rfl,GH (by rw[hts,C0])⟩,trivial⟩ (by simp[sgL]))) ⟨by omega,hJ1',hJ2',hJ3' (by rw[if_pos hk0];exact hjr)⟩ (by omega)
    ·repeat' first| (first|apply bn1|apply bpJ (by omega)|apply bpK (by omega)|apply oR|apply fE|apply HK hjd)<;>(simp only[go_sem,hjj,hget,hset,Option.getD_none,eq_false hjr];try simp (disch:=omega) only[Iw])|apply bn2 (by omega)|refine⟨by omega,?_⟩|fail
     exact aZ hQ (dB false) rfl rfl (congrArg dB (aWH fun hs=>hjr (hs.P4 j (hw0 hk0))).symm)
   ·have hkp:0<k:=(by omega);have hno3: ¬as5 c j→¬BA c s:=fun h hs=>h (hs.R8 j (hw1 hkp));by_cases hjr:pA j.rsp
    ·repeat' first| (first|apply bn1|apply bpJ (by omega)|apply bpK (by omega)|apply oR|apply fE|apply I8 hjd|apply iJ hp3 hja)<;>(simp only[go_sem,hjj,hget,hset,Option.getD_none,eq_true hjr];try simp (disch:=omega) only[Iw])|apply bn2 (by omega)|refine bnE (fun h=> ?_) fun h=> ?_|refine⟨by omega,?_⟩|fail
     ·exact aZ hQ (dB false) rfl rfl (congrArg dB (aWH (hno3 fun h=>by have:=h.2;omega)).symm)
     ·exact hKN _ _ _ (i+1) (by omega) (by(refine cR [52] (by omega) (by repeat' first|exact bo2|refine xqI rfl rfl ?_| (with_reducible apply bo3)| ((with_reducible apply bo0);exact bpD (by omega) rfl)| ((with_reducible apply bo1);apply bo7)|fail) ⟨⟨by simp,by simp[sgL],_,rfl,GH (by rw[hts,C0])⟩,trivial⟩ (by simp[sgL]))) ⟨by omega,hJ1',hJ2',hJ3' (by rw[if_neg hk0];exact⟨hjr,by omega⟩)⟩ (by omega)
    ·repeat' first| (first|apply bn1|apply bpJ (by omega)|apply bpK (by omega)|apply oR|apply fE|apply I8 hjd)<;>(simp only[go_sem,hjj,hget,hset,Option.getD_none,eq_false hjr];try simp (disch:=omega) only[Iw])|apply bn2 (by omega)|refine⟨by omega,?_⟩|fail
     exact aZ hQ (dB false) rfl rfl (congrArg dB (aWH (hno3 fun h=>hjr h.1)).symm)
  ·have hi2:i=cur.length:=(by omega);subst hi2;rw[bq4,←hss1] at hJ1 hJ2;rw[bq4] at hJ3;rw[bq4,←hss1];repeat' first|apply bn1<;>(simp only[go_sem];try simp (disch:=omega) only[Iw])|apply bn3 (by omega)|fail
   refine hKM _ _ _ (k+1) (by omega) (by(refine cR [52] (by omega) (by repeat' first|exact bo2|refine xqI rfl rfl ?_| (with_reducible apply bo3)| ((with_reducible apply bo0);exact bpD (by omega) rfl)| ((with_reducible apply bo1);apply bo7)|fail) ⟨⟨by simp,by simp[sgL],_,rfl,GH rfl⟩,trivial⟩ (by simp[sgL]))) ⟨by omega,hJ1,hJ2,fun _=> ?_,?_⟩ (by omega)
   ·by_cases hk0:k=0;·intro j hj;have:=hJ3 j (by rw[hc0 hk0];exact hj);rwa [if_pos hk0] at this
    ·exact hI3 (by omega)
   ·intro i2 h1 h2;by_cases hk0:k=0;·omega
    ·exact hI5 (fun j hj=>by have:=hJ3 j hj;rwa [if_neg hk0] at this) i2 h1 h2
 ·have hk3:k=3:=by omega
  subst hk3;rw[hs3] at hI1 hI2;have hl3:=congrArg List.length hs3;rw[t2,t2] at hl3;repeat' first|apply bn1<;>(simp only[go_sem])|apply bn3 (by omega)|fail
  refine aZ hQ (dB (decide (((UB (seen 3)).length:Int)=(s.asked.take 3).sum))) rfl rfl (congrArg dB ?_);rw[amR];by_cases hcnt:((seen 3).length:Int)=(s.asked.take 3).sum;·rw[decide_eq_true hcnt];refine(aXJ (aUA hatm hal hask hwS hdS hI1 hI2 (by omega) (hI3 (by omega)) fun j hj=> ?_)).symm;obtain⟨k,hk,hj⟩:=(hL12 j).1 hj;exact hI4 k (by omega) (by omega) j hj
  ·rw[decide_eq_false hcnt];exact(aWH fun hs=>by have:=hs.count;omega).symm
end
end Go.Proofs.YtmccpdapaccnoaaGreat
