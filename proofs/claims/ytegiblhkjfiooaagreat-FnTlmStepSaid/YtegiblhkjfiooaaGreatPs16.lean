/- Texts laid together by a program: rules, contracts and the walk that leads to the law. -/
import Derived.Test.YtegiblhkjfiooaaGreatPs15
import Derived.Test.YtegiblhkjfiooaaGreatPs12
import Derived.Test.YtegiblhkjfiooaaGreatPs8
import Derived.Test.YtegiblhkjfiooaaGreatPs4
import Derived.Test.YtegiblhkjfiooaaGreatPs3
set_option linter.unusedVariables false
set_option linter.unusedSimpArgs false
set_option linter.unusedSectionVars false
section
namespace Go.Proofs.YtegiblhkjfiooaaGreat
open Go Go.AM
set_option maxRecDepth 100000
set_option maxHeartbeats 8000000
section
variable {H : aA} {nx : Nat} {K : D → aA → Nat → Prop}
theorem aM2 (c:Cfg) (s:TSt) (hcf:jO c) (hf:aTQ s):aB Tryz.prog aI6 [dA (cU c),dA (eSt s)] .nil 0 fun rr _ _=>rr.plain=true∧rr=dB (tlB c s):=by
 refine aMM rfl fun Q hQ=> ?_
 unfold aJP
 have hwf:=hf.words
 have hhf:=hf.holds
 have haf:=hf.asked
 have hl3:=hf.wait
 have hl4:=hf.done
 have hl5:=hf.told
 have hd3: ∀j∈s.wait,j.rsp.data.length<2^20:=fun j hj=>hf.data j (by simp[hj])
 have hd4: ∀j∈s.done,j.rsp.data.length<2^20:=fun j hj=>hf.data j (by simp[hj])
 have hd5: ∀j∈s.told,j.rsp.data.length<2^20:=fun j hj=>hf.data j (by simp[hj])
 by_cases hb:aQ c
 case neg=>
  repeat' (first| (with_reducible first| (refine hK _ _ _ ?_;clear hK K)| (refine hA ?_;clear hA hB A B)|refine Z1 ?_)| (first| (with_reducible first|refine Y2 fun K hK=> ?_|refine Y3 fun A B hA hB=> ?_)| (with_reducible refine aKG hcf ?_))<;>(simp only[go_sem,eq_false hb])| ((with_reducible refine Y8 ?_);try simp only[AQ.then,AQ.blk,reduceIte,Nat.reduceEqDiff])|fail)
  all_goals exact aZ hQ (dB false) rfl rfl (congrArg dB (aOH fun h=>hb h.1)).symm
 by_cases hat:JS s.words s.holds
 case neg=>
  repeat' (first| (with_reducible first| (refine hK _ _ _ ?_;clear hK K)| (refine hA ?_;clear hA hB A B)|refine Z1 ?_)| (first| (with_reducible first|refine Y2 fun K hK=> ?_|refine Y3 fun A B hA hB=> ?_)| (with_reducible refine aKG hcf ?_)| (with_reducible refine aKH (show s.words.length<2^40 by omega) (show s.holds.length<2^40 by omega) ?_))<;>(simp only[go_sem,eq_true hb,eq_false hat])| ((with_reducible refine Y8 ?_);try simp only[AQ.then,AQ.blk,reduceIte,Nat.reduceEqDiff])|fail)
  all_goals exact aZ hQ (dB false) rfl rfl (congrArg dB (aOH fun h=>hat ⟨⟨by rw[h.2.atm.wl];rfl,h.2.atm.wr⟩,by rw[h.2.atm.hl];rfl,h.2.atm.hr⟩)).symm
 by_cases ha:s.asked.length=3
 case neg=>
  repeat' (first| (with_reducible first| (refine hK _ _ _ ?_;clear hK K)| (refine hA ?_;clear hA hB A B)|refine Z1 ?_|refine Z4 (by omega) ?_)| (first| (with_reducible first|refine Y2 fun K hK=> ?_|refine Y3 fun A B hA hB=> ?_)| (with_reducible refine aKG hcf ?_)| (with_reducible refine aKH (show s.words.length<2^40 by omega) (show s.holds.length<2^40 by omega) ?_))<;>(simp only[go_sem,eq_true hb,eq_true hat])| ((with_reducible refine Y8 ?_);try simp only[AQ.then,AQ.blk,reduceIte,Nat.reduceEqDiff])|fail)
  all_goals first| (exfalso;omega)|exact aZ hQ (dB false) rfl rfl (congrArg dB (aOH fun h=>ha h.2.JI)).symm
 obtain⟨hp3,hp12⟩:=hC hb
 repeat' (first| (with_reducible first| (refine hK _ _ _ ?_;clear hK K)| (refine hB ?_;clear hA hB A B)|refine Z1 ?_|refine Z2 ?_|refine Z3 fun KB hKB=> ?_|refine Z5 (by omega) ?_)| (first| (with_reducible first|refine Y2 fun K hK=> ?_|refine Y3 fun A B hA hB=> ?_)| (with_reducible refine aKG hcf ?_)| (with_reducible refine aKH (show s.words.length<2^40 by omega) (show s.holds.length<2^40 by omega) ?_))<;>(simp only[go_sem,eq_true hb,eq_true hat,ha])|fail)
 have hsz: ∀k,k≤3→(∀i,i<k→0≤s.asked.getD i default∧s.asked.getD i default≤((c.cP.getD i default).length:Int))→0≤jS (fun j=>s.asked.getD j default) k∧jS (fun j=>s.asked.getD j default) k≤12*k:=fun k hk h=>KF (m:=12) (by omega) k fun j hj=>by have:=h j hj;have:=hp12 j;(try dsimp only);omega
 (have hKX:=hKB;clear hKB);(refine aM.loop (α:={k:Nat//k≤3∧(∀i,i<k→0≤s.asked.getD i default∧s.asked.getD i default≤((c.cP.getD i default).length:Int))}) (fun u=>en [(6,dI u.1),(5,dI (jS (fun j=>s.asked.getD j default) u.1)),(3,.one (.c (.fQ (eSt s)))),(2,.one (.c (.fQ (cU c))))]) (fun _=>.nil) _ (fun u=>3-u.1) ⟨0,by omega,(by intros;first|trivial|omega)⟩ (bU (Nat.le_refl _) (by repeat' (first| (with_reducible first|exact C1|refine C2 ?_ ?_)| ((with_reducible refine D0 ?_);first|exact CA rfl|exact CI rfl (by simp) rfl rfl rfl)|fail))) ?_);(rintro⟨k,hk,hinv⟩ KL hKL)
 have hz:=hsz k hk hinv
 by_cases hlt:k<3
 ·have hpk:=hp12 k
  have hss:jS (fun j=>s.asked.getD j default) (k+1)=jS (fun j=>s.asked.getD j default) k+s.asked.getD k default:=rfl
  by_cases hr:0≤s.asked.getD k default∧s.asked.getD k default≤((c.cP.getD k default).length:Int)
  ·repeat' (first| (with_reducible first| (refine hK _ _ _ ?_;clear hK K)| (refine hA ?_;clear hA hB A B)| (refine hB ?_;clear hA hB A B)|refine Z1 ?_|refine Z2 ?_|refine Z3 fun KB hKB=> ?_|refine Z4 (by omega) ?_)| (first| (with_reducible first|refine Y2 fun K hK=> ?_|refine Y3 fun A B hA hB=> ?_)| (with_reducible refine aBC ?_))<;>(simp only[go_sem,eq_true hr,hp3,ha];try simp (disch:=omega) only[Iw])| ((with_reducible refine Y0 ?_);simp only[AQ.then,AQ.blk])|refine⟨by omega,?_⟩| (with_reducible refine hKB _ _ _ ?_)|fail)
   all_goals (rw[←hss];(refine hKL _ _ _ ⟨k+1,by omega,iS hinv hr⟩ (by omega) (by(try dsimp only);omega) (bU (Nat.le_refl _) (by repeat' (first| (with_reducible first|exact C1|refine C2 ?_ ?_)| ((with_reducible refine D0 ?_);exact CA rfl)|fail)))))
  ·repeat' (first| (with_reducible first| (refine hK _ _ _ ?_;clear hK K)| (refine hA ?_;clear hA hB A B)|refine Z1 ?_|refine Z2 ?_|refine Z3 fun KB hKB=> ?_|refine Z4 (by omega) ?_)| (first| (with_reducible first|refine Y2 fun K hK=> ?_|refine Y3 fun A B hA hB=> ?_)| (with_reducible refine aBC ?_))<;>(simp only[go_sem,eq_false hr,hp3,ha])| ((with_reducible refine Y8 ?_);try simp only[AQ.then,AQ.blk,reduceIte,Nat.reduceEqDiff])|refine⟨by omega,?_⟩|fail)
   all_goals exact aZ hQ (dB false) rfl rfl (congrArg dB (aOH fun h=>hr (h.2.DC k hlt))).symm
 have hk3:k=3:=by omega
 subst hk3
 have har:aTF c s.asked:=hinv
 have hsum3:jS (fun j=>s.asked.getD j default) 3=s.asked.getD 0 default+s.asked.getD 1 default+s.asked.getD 2 default:=by simp[jS]
 have hj1: ∀{H:aA} {nx:Nat} {K:D→aA→Nat→Prop},K (dB (aPK c s.asked s.wait false)) H nx→aB Tryz.prog aIQ [dA (cU c),dS (s.asked.map aJ),dS (s.wait.map aS),dB false] H nx K:=fun h=>aMA hb ha har hl3 hd3 h
 have hj2: ∀{H:aA} {nx:Nat} {K:D→aA→Nat→Prop},K (dB (aPK c s.asked s.done true)) H nx→aB Tryz.prog aIQ [dA (cU c),dS (s.asked.map aJ),dS (s.done.map aS),dB true] H nx K:=fun h=>aMA hb ha har hl4 hd4 h
 by_cases hw:aPN c s.asked s.wait false
 case neg=>
  have e1:=aSY hw
  repeat' (first| (with_reducible first| (refine hK _ _ _ ?_;clear hK K)| (refine hA ?_;clear hA hB A B)| (refine hB ?_;clear hA hB A B)|refine Z1 ?_|refine Z5 (by omega) ?_|refine hKX _ _ _ ?_)| (first| (with_reducible first|refine Y2 fun K hK=> ?_|refine Y3 fun A B hA hB=> ?_)| (with_reducible refine hj1 ?_))<;>(simp only[go_sem,e1])| ((with_reducible first|refine Y8 ?_|refine Y9 ?_);try simp only[AQ.then,AQ.blk,reduceIte,Nat.reduceEqDiff])|fail)
  all_goals exact aZ hQ (dB false) rfl rfl (congrArg dB (aOH fun h=>hw h.2.aUL)).symm
 by_cases hdn:aPN c s.asked s.done true
 case neg=>
  have e1:=aQD hw
  have e2:=aSY hdn
  repeat' (first| (with_reducible first| (refine hK _ _ _ ?_;clear hK K)| (refine hA ?_;clear hA hB A B)| (refine hB ?_;clear hA hB A B)|refine Z1 ?_|refine Z5 (by omega) ?_|refine hKX _ _ _ ?_)| (first| (with_reducible first|refine Y2 fun K hK=> ?_|refine Y3 fun A B hA hB=> ?_)| (with_reducible refine hj1 ?_)| (with_reducible refine hj2 ?_))<;>(simp only[go_sem,e1,e2])| ((with_reducible first|refine Y8 ?_|refine Y9 ?_);try simp only[AQ.then,AQ.blk,reduceIte,Nat.reduceEqDiff])|fail)
  all_goals exact aZ hQ (dB false) rfl rfl (congrArg dB (aOH fun h=>hdn h.2.aUM)).symm
 have e1:=aQD hw
 have e2:=aQD hdn
 by_cases ht:aSQ c s
 case neg=>
  have e3:=aTL ht
  repeat' (first| (with_reducible first| (refine hK _ _ _ ?_;clear hK K)| (refine hA ?_;clear hA hB A B)| (refine hB ?_;clear hA hB A B)|refine Z1 ?_|refine Z5 (by omega) ?_|refine hKX _ _ _ ?_)| (first| (with_reducible first|refine Y2 fun K hK=> ?_|refine Y3 fun A B hA hB=> ?_)| (with_reducible refine hj1 ?_)| (with_reducible refine hj2 ?_)| (with_reducible refine aMG hb ha har hl5 hd5 ?_))<;>(simp only[go_sem,e1,e2,e3])| ((with_reducible first|refine Y8 ?_|refine Y9 ?_);try simp only[AQ.then,AQ.blk,reduceIte,Nat.reduceEqDiff])|fail)
  all_goals exact aZ hQ (dB false) rfl rfl (congrArg dB (aOH fun h=>ht h.2.aUN)).symm
 have e3:=aTM ht
 by_cases hc:(s.wait.length:Int)+s.done.length+s.told.length=s.asked.getD 0 default+s.asked.getD 1 default+s.asked.getD 2 default
 case neg=>
  repeat' (first| (with_reducible first| (refine hK _ _ _ ?_;clear hK K)| (refine hA ?_;clear hA hB A B)| (refine hB ?_;clear hA hB A B)|refine Z1 ?_|refine Z4 (by omega) ?_|refine Z5 (by omega) ?_|refine hKX _ _ _ ?_)| (first| (with_reducible first|refine Y2 fun K hK=> ?_|refine Y3 fun A B hA hB=> ?_)| (with_reducible refine hj1 ?_)| (with_reducible refine hj2 ?_)| (with_reducible refine aMG hb ha har hl5 hd5 ?_))<;>(simp only[go_sem,e1,e2,e3];try simp (disch:=omega) only[Iw])| ((with_reducible first|refine Y8 ?_|refine Y9 ?_);try simp only[AQ.then,AQ.blk,reduceIte,Nat.reduceEqDiff])|fail)
  all_goals first| (exfalso;omega)|exact aZ hQ (dB false) rfl rfl (congrArg dB (aOH fun h=>hc h.2.count)).symm
 repeat' (first| (with_reducible first| (refine hK _ _ _ ?_;clear hK K)| (refine hB ?_;clear hA hB A B)|refine Z1 ?_|refine Z2 ?_|refine Z3 fun KB hKB=> ?_|refine Z5 (by omega) ?_|refine hKX _ _ _ ?_)| (first| (with_reducible first|refine Y2 fun K hK=> ?_|refine Y3 fun A B hA hB=> ?_)| (with_reducible refine hj1 ?_)| (with_reducible refine hj2 ?_)| (with_reducible refine aMG hb ha har hl5 hd5 ?_))<;>(simp only[go_sem,e1,e2,e3];try simp (disch:=omega) only[Iw])| ((with_reducible refine Y9 ?_);try simp only[AQ.then,AQ.blk,reduceIte,Nat.reduceEqDiff])|fail)
 (have hKZ:=hKB;clear hKB)
 refine aM.loop (α:={k:Nat//k≤s.told.length∧ ∀i,i<k→key (s.told.getD i default)∉s.wait.map key∧key (s.told.getD i default)∉s.done.map key}) (fun u=>en [(7,dI u.1),(3,.one (.c (.fQ (eSt s))))]) (fun _=>.nil) _ (fun u=>s.told.length-u.1) ⟨0,by omega,fun i hi=>by omega⟩ (bU (Nat.le_refl _) (by repeat' (first| (with_reducible first|exact C1|refine C2 ?_ ?_)| ((with_reducible refine D0 ?_);exact CA rfl)|fail))) ?_
 rintro⟨k,hk,hinv2⟩ KL hKL
 by_cases hlt:k<s.told.length
 ·obtain⟨j,hj⟩: ∃j,j=s.told.getD k default:=⟨_,rfl⟩
  have hj':=hj.symm
  have hm:j∈s.told:=by rw[hj];exact cC hlt
  by_cases h1:0≤bK (iM j.who j.n) s.wait
  ·repeat' (first| (with_reducible first| (refine hK _ _ _ ?_;clear hK K)| (refine hA ?_;clear hA hB A B)|refine Z1 ?_|refine Z2 ?_|refine Z3 fun KB hKB=> ?_|refine Z4 (by omega) ?_)| (first| (with_reducible first|refine Y2 fun K hK=> ?_|refine Y3 fun A B hA hB=> ?_|refine Y4 (by omega) ?_)| (with_reducible refine aKK (show s.wait.length<2^40 by omega) ?_))<;>(simp only[go_sem,hj'])| ((with_reducible refine Y8 ?_);try simp only[AQ.then,AQ.blk,reduceIte,Nat.reduceEqDiff])|refine⟨by omega,?_⟩|fail)
   all_goals first| (exfalso;omega)|exact aZ hQ (dB false) rfl rfl (congrArg dB (aOH fun h=>(h.2.apart.2.1 j hm).1 (ZP.1 h1))).symm
  ·by_cases h2:0≤bK (iM j.who j.n) s.done
   ·repeat' (first| (with_reducible first| (refine hK _ _ _ ?_;clear hK K)| (refine hA ?_;clear hA hB A B)|refine Z1 ?_|refine Z2 ?_|refine Z3 fun KB hKB=> ?_|refine Z4 (by omega) ?_)| (first| (with_reducible first|refine Y2 fun K hK=> ?_|refine Y3 fun A B hA hB=> ?_|refine Y5 (by omega) ?_)| (with_reducible refine aKK (show s.wait.length<2^40 by omega) ?_)| (with_reducible refine aKK (show s.done.length<2^40 by omega) ?_))<;>(simp only[go_sem,hj'])| ((with_reducible refine Y8 ?_);try simp only[AQ.then,AQ.blk,reduceIte,Nat.reduceEqDiff])|refine⟨by omega,?_⟩|fail)
    all_goals first| (exfalso;omega)|exact aZ hQ (dB false) rfl rfl (congrArg dB (aOH fun h=>(h.2.apart.2.1 j hm).2 (ZP.1 h2))).symm
   ·repeat' (first| (with_reducible first| (refine hK _ _ _ ?_;clear hK K)| (refine hA ?_;clear hA hB A B)| (refine hB ?_;clear hA hB A B)|refine Z1 ?_|refine Z2 ?_|refine Z3 fun KB hKB=> ?_|refine Z4 (by omega) ?_|refine Z5 (by omega) ?_)| (first| (with_reducible first|refine Y2 fun K hK=> ?_|refine Y3 fun A B hA hB=> ?_|refine Y5 (by omega) ?_)| (with_reducible refine aKK (show s.wait.length<2^40 by omega) ?_)| (with_reducible refine aKK (show s.done.length<2^40 by omega) ?_))<;>(simp only[go_sem,hj'];try simp (disch:=omega) only[Iw])| ((with_reducible refine Y0 ?_);simp only[AQ.then,AQ.blk])|refine⟨by omega,?_⟩| (with_reducible refine hKB _ _ _ ?_)|fail)
    all_goals first| (exfalso;omega)|exact hKL _ _ _ ⟨k+1,by omega,iS hinv2 (by rw[hj'];exact⟨fun h=>h1 (ZP.2 h),fun h=>h2 (ZP.2 h)⟩)⟩ (by omega) (by(try dsimp only);omega) (bU (Nat.le_refl _) (by repeat' (first| (with_reducible first|exact C1|refine C2 ?_ ?_)| ((with_reducible refine D0 ?_);exact CA rfl)|fail)))
 ·have hk2:k=s.told.length:=by omega
  subst hk2
  repeat' (first| (with_reducible first| (refine hK _ _ _ ?_;clear hK K)| (refine hB ?_;clear hA hB A B)|refine Z1 ?_|refine Z3 fun KB hKB=> ?_|refine Z5 (by omega) ?_|refine hKZ _ _ _ ?_)| (with_reducible first|refine Y2 fun K hK=> ?_|refine Y3 fun A B hA hB=> ?_)<;>(simp only[go_sem])| ((with_reducible refine Y9 ?_);try simp only[AQ.then,AQ.blk,reduceIte,Nat.reduceEqDiff])|fail)
  (have hKW:=hKB;clear hKB)
  refine aM.loop (α:={k:Nat//k≤s.done.length∧ ∀i,i<k→key (s.done.getD i default)∉s.wait.map key}) (fun u=>en [(8,dI u.1),(3,.one (.c (.fQ (eSt s))))]) (fun _=>.nil) _ (fun u=>s.done.length-u.1) ⟨0,by omega,fun i hi=>by omega⟩ (bU (Nat.le_refl _) (by repeat' (first| (with_reducible first|exact C1|refine C2 ?_ ?_)| ((with_reducible refine D0 ?_);exact CA rfl)|fail))) ?_
  rintro⟨k,hk,hinv3⟩ KM hKM
  by_cases hlt:k<s.done.length
  ·obtain⟨j,hj⟩: ∃j,j=s.done.getD k default:=⟨_,rfl⟩
   have hj':=hj.symm
   have hm:j∈s.done:=by rw[hj];exact cC hlt
   by_cases h1:0≤bK (iM j.who j.n) s.wait
   ·repeat' (first| (with_reducible first| (refine hK _ _ _ ?_;clear hK K)| (refine hA ?_;clear hA hB A B)|refine Z1 ?_|refine Z2 ?_|refine Z3 fun KB hKB=> ?_|refine Z4 (by omega) ?_)| (first| (with_reducible first|refine Y2 fun K hK=> ?_|refine Y3 fun A B hA hB=> ?_)| (with_reducible refine aKK (show s.wait.length<2^40 by omega) ?_))<;>(simp only[go_sem,hj'])| ((with_reducible refine Y8 ?_);try simp only[AQ.then,AQ.blk,reduceIte,Nat.reduceEqDiff])|refine⟨by omega,?_⟩|fail)
    all_goals first| (exfalso;omega)|exact aZ hQ (dB false) rfl rfl (congrArg dB (aOH fun h=>(h.2.apart.2.2 j hm) (ZP.1 h1))).symm
   ·repeat' (first| (with_reducible first| (refine hK _ _ _ ?_;clear hK K)| (refine hA ?_;clear hA hB A B)| (refine hB ?_;clear hA hB A B)|refine Z1 ?_|refine Z2 ?_|refine Z3 fun KB hKB=> ?_|refine Z4 (by omega) ?_|refine Z5 (by omega) ?_)| (first| (with_reducible first|refine Y2 fun K hK=> ?_|refine Y3 fun A B hA hB=> ?_)| (with_reducible refine aKK (show s.wait.length<2^40 by omega) ?_))<;>(simp only[go_sem,hj'];try simp (disch:=omega) only[Iw])| ((with_reducible refine Y0 ?_);simp only[AQ.then,AQ.blk])|refine⟨by omega,?_⟩| (with_reducible refine hKB _ _ _ ?_)|fail)
    all_goals first| (exfalso;omega)|exact hKM _ _ _ ⟨k+1,by omega,iS hinv3 (by rw[hj'];exact fun h=>h1 (ZP.2 h))⟩ (by omega) (by(try dsimp only);omega) (bU (Nat.le_refl _) (by repeat' (first| (with_reducible first|exact C1|refine C2 ?_ ?_)| ((with_reducible refine D0 ?_);exact CA rfl)|fail)))
  ·have hk2:k=s.done.length:=by omega
   subst hk2
   have hst:BA c s:=aTG hat ha har hw hdn ht hc (aKJ (P:=fun j=>key j∉s.wait.map key∧key j∉s.done.map key) hinv2) (aKJ (P:=fun j=>key j∉s.wait.map key) hinv3)
   repeat' (first| (with_reducible first| (refine hK _ _ _ ?_;clear hK K)| (refine hB ?_;clear hA hB A B)|refine Z1 ?_|refine Z5 (by omega) ?_)| (with_reducible first|refine Y2 fun K hK=> ?_|refine Y3 fun A B hA hB=> ?_)<;>(simp only[go_sem])| ((with_reducible refine Y9 ?_);try simp only[AQ.then,AQ.blk,reduceIte,Nat.reduceEqDiff])|fail)
   refine hKW _ _ _ ?_
   repeat' (first| (with_reducible first| (refine hK _ _ _ ?_;clear hK K)|refine Z1 ?_)| (with_reducible refine Y2 fun K hK=> ?_)<;>(simp only[go_sem])| ((with_reducible refine Y8 ?_);try simp only[AQ.then,AQ.blk,reduceIte,Nat.reduceEqDiff])|fail)
   exact aZ hQ (dB true) rfl rfl (congrArg dB (aTX hb hst)).symm
theorem aMQ {c:Cfg} {s:TSt} (hcf:jO c) (hf:aTQ s) (h:K (dB (tlB c s)) H nx):aB Tryz.prog aI6 [dA (cU c),dA (eSt s)] H nx K:=
 (aM2 c s hcf hf).pure rfl (aI ⟨aE rfl,aE rfl,trivial⟩) (fun r hr=>hr▸h)
end
end Go.Proofs.YtegiblhkjfiooaaGreat
end
section
namespace Go.Proofs.YtegiblhkjfiooaaGreat
open Go Go.AM
set_option maxRecDepth 100000
set_option maxHeartbeats 8000000
noncomputable def aTD (c:Cfg) (s:TSt) (e:Ev):Int:=if tlB c s=true then X6 c s e else 1
theorem aT5 {c:Cfg} {s:TSt} {e:Ev} (hb:aQ c) (hs:BA c s):aTD c s e=X6 c s e:=by unfold aTD;rw[aTX hb hs];rfl
section
variable {H : aA} {nx : Nat} {K : D → aA → Nat → Prop}
end
end Go.Proofs.YtegiblhkjfiooaaGreat
end
section
namespace Go.Proofs.YtegiblhkjfiooaaGreat
open Go Go.AM
set_option maxRecDepth 100000
set_option maxHeartbeats 8000000
noncomputable def stT (c:Cfg) (s:TSt) (e:Ev):TSt:=if tlB c s=true then (if X6 c s e=0 then lS c s e else s) else stN
section
variable {H : aA} {nx : Nat} {K : D → aA → Nat → Prop}
theorem aWI (c:Cfg) (s:TSt) (e:Ev) (hcf:jO c) (hf:aTQ s) (hno: ¬(aQ c∧BA c s)):aB Tryz.prog dW [dA (cU c),dA (eSt s),dA (eEv e)] .nil 0 fun rr _ nn=>nn=0∧rr.imm=true∧rr= .tup [.agg (eSt stN),.c (cB false)]:=by
 refine aVV rfl fun Q hQ=> ?_
 unfold aVB
 have e1:=aOH hno
 repeat' (first| (with_reducible first| (refine hK _ _ _ ?_;clear hK K)| (refine hA ?_;clear hA hB A B)|refine Z1 ?_)| (first| (with_reducible first|refine Y2 fun K hK=> ?_|refine Y3 fun A B hA hB=> ?_)| (refine aV5 hcf hf ?_))<;>(simp only[go_sem,e1])| ((with_reducible refine Y8 ?_);try simp only[AQ.then,AQ.blk,reduceIte,Nat.reduceEqDiff])|fail)
 exact V4 hQ (.tup [.agg (eSt stN),.c (cB false)]) _ rfl (ay7 (ayY (aH xG (aH xG (aH xG (aH xG (aH xG (aH xG eP))))))) (azN (bB rfl))) rfl rfl
theorem aWL {c:Cfg} {s:TSt} {e:Ev} (hcf:jO c) (hf:aTQ s) (hno: ¬(aQ c∧BA c s)) (h:K (.tup [.agg (eSt stN),.c (cB false)]) H nx):aB Tryz.prog dW [dA (cU c),dA (eSt s),dA (eEv e)] H nx K:=
 (aWI c s e hcf hf hno).fresh rfl (fun r hr=>hr▸h)
theorem aWM {c:Cfg} {s:TSt} {e:Ev} (hcf:jO c) (hf:aTQ s) (h:K (.tup [.agg (eSt (stT c s e)),.c (cB (decide (aTD c s e=0)))]) H nx):aB Tryz.prog dW [dA (cU c),dA (eSt s),dA (eEv e)] H nx K:=by
 by_cases hb:aQ c∧BA c s
 ·have e1:stT c s e=if X6 c s e=0 then lS c s e else s:=by unfold stT;rw[if_pos (aTX hb.1 hb.2)]
  rw[aT5 hb.1 hb.2,e1] at h
  exact aWU hb.1 hcf hb.2 h
 ·have e1:aTD c s e=1:=by unfold aTD;rw[aOH hb];rfl
  have e2:stT c s e=stN:=by unfold stT;rw[aOH hb];rfl
  rw[e1,e2] at h
  exact aWL hcf hf hb h
end
end Go.Proofs.YtegiblhkjfiooaaGreat
end
section
namespace Go.Proofs.YtegiblhkjfiooaaGreat
open Go Go.AM
set_option maxRecDepth 100000
set_option maxHeartbeats 1000000
attribute [go_sem] List.length_set
section
variable {H : aA} {nx : Nat} {K : D → aA → Nat → Prop}
theorem aSC (old new lanes:Int) (h1:0≤old∧old≤65535) (h2:0≤new∧new≤65535) (h3:0≤lanes∧lanes≤3):aB Tryz.prog aNH [dI old,dI new,dI lanes] .nil 0 fun rr _ _=>rr.plain=true∧rr=dI (xZ old new lanes):=by
 refine aQM rfl fun Q hQ=> ?_
 unfold aNS
 repeat' (first| (with_reducible first| (refine hK _ _ _ ?_;clear hK K)| (refine hA ?_;clear hA hB A B)| (refine hB ?_;clear hA hB A B)|refine Z1 ?_|refine Z2 ?_|refine Z5 (by omega) ?_|refine Z6 (fun h=> ?_) fun h=> ?_)| (first| (with_reducible first|refine Y2 fun K hK=> ?_|refine Y3 fun A B hA hB=> ?_|refine Y5 (by omega) ?_)| (with_reducible refine aBC ?_))<;>(simp only[go_sem,Int.tmod_eq_emod_of_nonneg h1.1,Int.tdiv_eq_ediv_of_nonneg h1.1,Int.tmod_eq_emod_of_nonneg h2.1,Int.tdiv_eq_ediv_of_nonneg h2.1,Int.tmod_eq_emod_of_nonneg h3.1,Int.tdiv_eq_ediv_of_nonneg h3.1];try simp (disch:=omega) only[Iw])| ((with_reducible refine Y8 ?_);try simp only[AQ.then,AQ.blk,reduceIte,Nat.reduceEqDiff])|fail)
 all_goals first|with_reducible refine aZ hQ _ rfl rfl ?_|skip
 all_goals exact qA (by unfold xZ;simp[*])
theorem aRW {old:Int} {new:Int} {lanes:Int} (h1:0≤old∧old≤65535) (h2:0≤new∧new≤65535) (h3:0≤lanes∧lanes≤3) (h:K (dI (xZ old new lanes)) H nx):aB Tryz.prog aNH [dI old,dI new,dI lanes] H nx K:=
 (aSC old new lanes h1 h2 h3).pure rfl (aI ⟨aE rfl,aE rfl,aE rfl,trivial⟩) (fun r hr=>hr▸h)
theorem aS1 (w all:List Int) (wc wm:Nat) (hwl:w.length=64) (hwc:64≤wc) (ha:All all 0 63) (hal:all.length<2^20):aB Tryz.prog W3 [dA [.osl 1 0 0 64 wc],dS (all.map aJ)] (hp [(0,⟨1,wm,w.map aJ⟩)]) 1
 fun r H' n'=>n'=1∧ ∃o',H'=hp [(0,o')]∧C7 o'∧o'=⟨1,wm,w.map aJ⟩∧r=dS ((all.map fun a=>w.getD a.toNat default).map aJ):=by
 refine aR8 rfl fun Q hQ=> ?_
 unfold aN4
 repeat' (first| (with_reducible first| (refine hK _ _ _ ?_;clear hK K)|refine Z1 ?_|refine Z3 fun KB hKB=> ?_)| (with_reducible refine Y2 fun K hK=> ?_)<;>(simp only[go_sem])|fail)
 (have hKX:=hKB;clear hKB)
 refine aM.sG 2 (β:=Nat×Nat) (fun b u=>en [(6,dI u.1),(5,dO 1 (b+1) u.1 u.2),(2,dP 1 b),(1,dS (all.map aJ))])
  (fun b u=>hp [(0,⟨1,wm,w.map aJ⟩),(b,⟨1,1,[[.osl 1 0 0 64 wc]]⟩),(b+1,⟨1,u.2,((all.take u.1).map fun a=>w.getD a.toNat default).map aJ⟩)]) (fun u=>u.1≤all.length∧u.1≤u.2) (fun u=>all.length-u.1) (0,0)
  (by(refine cR [1,3,0] (by omega) (by repeat' (first| (with_reducible first|exact C1|refine C2 ?_ ?_)| ((with_reducible refine C0 ?_);first|exact CC|exact CE (by omega) rfl)| ((with_reducible refine D0 ?_);first|exact CA rfl|refine CJ ?_)|fail)) ⟨⟨by simp,by simp[sgL],_,rfl,bP (aG bF _) rfl rfl⟩,⟨by simp,by simp[sgL],_,rfl,aP (by repeat' (first| (with_reducible first|exact C3|refine C4 ?_ ?_)| ((with_reducible refine C0 ?_);exact CQ (by omega) rfl rfl (by rfl) rfl)|fail))⟩,⟨by simp,by simp[sgL],_,rfl,bP (aG bF _) rfl rfl⟩,trivial⟩ (by simp[sgL]))) ⟨by omega,by omega⟩ ?_
 rintro⟨k,cap⟩ ⟨hk,hc⟩ KL hKL
 dsimp only at hk hc
 by_cases hlt:k<all.length
 ·have hb:=HB ha hlt
  repeat' (first| (with_reducible first| (refine hK _ _ _ ?_;clear hK K)| (refine hA ?_;clear hA hB A B)|refine Z1 ?_|refine Z2 ?_|refine Z3 fun KB hKB=> ?_|refine Z4 (by omega) ?_|refine fun(cap:Nat) (hcap:_≤cap)=> ?_|refine fun(hcp:_≤cap)=> ?_)| (with_reducible first|refine Y2 fun K hK=> ?_|refine Y3 fun A B hA hB=> ?_)<;>(simp only[go_sem];try simp (disch:=omega) only[Iw])| ((with_reducible refine Y0 ?_);simp only[AQ.then,AQ.blk])|refine⟨by omega,?_⟩| (refine⟨by(rw[List.length_take];omega),?_⟩)| (with_reducible refine hKB _ _ _ ?_)|fail)
  refine hKL _ _ _ (k+1,cap) (by omega) (by(refine cR [6,22,0] (by omega) (by repeat' (first| (with_reducible first|exact C1|refine C2 ?_ ?_)| ((with_reducible refine C0 ?_);first|exact CQ (by omega) rfl rfl (by rfl) rfl|exact CE (by omega) rfl)| ((with_reducible refine D0 ?_);first|exact CA rfl|refine CJ ?_)|fail)) ⟨⟨by simp,by simp[sgL],_,rfl,bP (aG bF _) rfl rfl⟩,⟨by simp,by simp[sgL],_,rfl,aP (by repeat' (first| (with_reducible first|exact C3|refine C4 ?_ ?_)| ((with_reducible refine C0 ?_);exact CQ (by omega) rfl rfl (by rfl) rfl)|fail))⟩,⟨by simp,by simp[sgL],_,rfl,bP (aG bF _) (by rw[nK hlt,List.map_append,List.take_of_length_le (l:=List.map _ (List.take k all)) (by simp;omega)];rfl) rfl⟩,trivial⟩ (by simp[sgL]))) ⟨by dsimp only;omega,by dsimp only;omega⟩ (by dsimp only;omega)
 ·repeat' (first| (with_reducible first| (refine hK _ _ _ ?_;clear hK K)| (refine hB ?_;clear hA hB A B)|refine Z1 ?_|refine Z5 (by omega) ?_|refine hKX _ _ _ ?_)| (with_reducible first|refine Y2 fun K hK=> ?_|refine Y3 fun A B hA hB=> ?_)<;>(simp only[go_sem])| ((with_reducible first|refine Y8 ?_|refine Y9 ?_);try simp only[AQ.then,AQ.blk,reduceIte,Nat.reduceEqDiff])|fail)
  have hk2:k=all.length:=by omega
  subst hk2
  exact lA hQ (dS _) _ _ rfl (yP (l:=(all.take all.length).map fun a=>w.getD a.toNat default) bF rfl (by simp) (by simp;omega) (by decide)) rfl (oB bF _) ⟨rfl,by rw[List.take_length]⟩
theorem aSW {w all:List Int} {wc wm i:Nat} (hwl:w.length=64) (hwc:64≤wc) (ha:All all 0 63) (hal:all.length<2^20) (hi:i<nx) (ho:H i=some ⟨1,wm,w.map aJ⟩) (h:K (dS ((all.map fun a=>w.getD a.toNat default).map aJ)) (H.set i ⟨1,wm,w.map aJ⟩) nx):
 aB Tryz.prog W3 [dA [.osl 1 i 0 64 wc],dS (all.map aJ)] H nx K:=
 (aS1 w all wc wm hwl hwc ha hal).OU i rfl (gW ⟨aH (aaF (by omega) rfl rfl rfl rfl) eP,aE rfl,trivial⟩) hi ho (oB bF _) fun r o' ⟨h1,h2⟩=>by
  subst h1;subst h2;exact h
theorem aSV (w all data lanes:List Int) (wc wm:Nat) (hwl:w.length=64) (hw:All w 0 65535) (hwc:64≤wc) (ha:All all 0 63) (hal:all.length<2^20) (hd:All data 0 65535) (hdl:data.length=all.length) (hl:All lanes 0 3) (hll:lanes.length=all.length):
 aB Tryz.prog H5 [dA [.osl 1 0 0 64 wc],dS (all.map aJ),dS (data.map aJ),dS (lanes.map aJ)] (hp [(0,⟨1,wm,w.map aJ⟩)]) 1
 fun r H' n'=>n'=1∧ ∃o',H'=hp [(0,o')]∧C7 o'∧o'=⟨1,wm,(FV w all data lanes all.length).map aJ⟩∧r=dA [.osl 1 0 0 64 wc]:=by
 refine aRX rfl fun Q hQ=> ?_
 unfold aN6
 repeat' (first| (with_reducible first| (refine hK _ _ _ ?_;clear hK K)|refine Z1 ?_|refine Z3 fun KB hKB=> ?_)| (with_reducible refine Y2 fun K hK=> ?_)<;>(simp only[go_sem])|fail)
 (have hKX:=hKB;clear hKB)
 refine aM.sG 2 (β:=Nat) (fun b k=>en [(9,dI k),(8,dP 1 (b+1)),(4,dP 1 b),(3,dS (lanes.map aJ)),(2,dS (data.map aJ)),(1,dS (all.map aJ))])
  (fun b k=>hp [(0,⟨1,wm,(FV w all data lanes k).map aJ⟩),(b,⟨1,1,[[.osl 1 0 0 64 wc]]⟩),(b+1,⟨1,1,[[.osl 0 0 0 0 0]]⟩)]) (fun k=>k≤all.length) (fun k=>all.length-k) 0
  (by(refine cR [1,2,0] (by omega) (by repeat' (first| (with_reducible first|exact C1|refine C2 ?_ ?_)| ((with_reducible refine C0 ?_);exact CE (by omega) rfl)| ((with_reducible refine D0 ?_);first|exact CA rfl|refine CJ ?_)|fail)) ⟨⟨by simp,by simp[sgL],_,rfl,bP (aG bF _) rfl rfl⟩,⟨by simp,by simp[sgL],_,rfl,aP (by repeat' (first| (with_reducible first|exact C3|refine C4 ?_ ?_)| ((with_reducible refine C0 ?_);exact CQ (by omega) rfl rfl (by rfl) rfl)|fail))⟩,⟨by simp,by simp[sgL],_,rfl,aP (by repeat' (first| (with_reducible first|exact C3|refine C4 ?_ ?_)| ((with_reducible refine C0 ?_);exact CC)|fail))⟩,trivial⟩ (by simp[sgL]))) (by omega) ?_
 rintro k hk KL hKL
 have hpl:=AX (w:=w) (all:=all) (data:=data) (lanes:=lanes) k
 have hpw:=afR (all:=all) (lanes:=lanes) hw hd k
 by_cases hlt:k<all.length
 ·have hb:=HB ha hlt
  have hb2:(all.getD k default).toNat<(FV w all data lanes k).length:=by omega
  repeat' (first| (with_reducible first| (refine hK _ _ _ ?_;clear hK K)| (refine hA ?_;clear hA hB A B)|refine Z1 ?_|refine Z2 ?_|refine Z3 fun KB hKB=> ?_|refine Z4 (by omega) ?_)| (first| (with_reducible first|refine Y2 fun K hK=> ?_|refine Y3 fun A B hA hB=> ?_)| (with_reducible refine aRW (HB hpw hb2) (HB hd (by omega)) (HB hl (by omega)) ?_))<;>(simp only[go_sem];try simp (disch:=omega) only[Iw])| ((with_reducible refine Y0 ?_);simp only[AQ.then,AQ.blk])|refine⟨by omega,?_⟩| (with_reducible refine hKB _ _ _ ?_)|fail)
  exact hKL _ _ _ (k+1) (by omega) (by(refine cR [4,5,0] (by omega) (by repeat' (first| (with_reducible first|exact C1|refine C2 ?_ ?_)| ((with_reducible refine C0 ?_);exact CE (by omega) rfl)| ((with_reducible refine D0 ?_);first|exact CA rfl|refine CJ ?_)|fail)) ⟨⟨by simp,by simp[sgL],_,rfl,bP (aG bF _) rfl rfl⟩,⟨by simp,by simp[sgL],_,rfl,aP (by repeat' (first| (with_reducible first|exact C3|refine C4 ?_ ?_)| ((with_reducible refine C0 ?_);exact CQ (by omega) rfl rfl (by rfl) rfl)|fail))⟩,⟨by simp,by simp[sgL],_,rfl,aP (by repeat' (first| (with_reducible first|exact C3|refine C4 ?_ ?_)| ((with_reducible refine C0 ?_);exact CC)|fail))⟩,trivial⟩ (by simp[sgL]))) (by omega) (by omega)
 ·repeat' (first| (with_reducible first| (refine hK _ _ _ ?_;clear hK K)| (refine hB ?_;clear hA hB A B)|refine Z1 ?_|refine Z5 (by omega) ?_|refine hKX _ _ _ ?_)| (with_reducible first|refine Y2 fun K hK=> ?_|refine Y3 fun A B hA hB=> ?_)<;>(simp only[go_sem])| ((with_reducible first|refine Y8 ?_|refine Y9 ?_);try simp only[AQ.then,AQ.blk,reduceIte,Nat.reduceEqDiff])|fail)
  have hk2:k=all.length:=by omega
  subst hk2
  exact lA hQ (dA [.osl 1 0 0 64 wc]) _ _ rfl (aH (aaF (by omega) rfl rfl rfl rfl) eP) rfl (oB bF _) ⟨rfl,rfl⟩
theorem aS5 {w all data lanes:List Int} {wc wm i:Nat} (hwl:w.length=64) (hw:All w 0 65535) (hwc:64≤wc) (ha:All all 0 63) (hal:all.length<2^20) (hd:All data 0 65535) (hdl:data.length=all.length) (hl:All lanes 0 3) (hll:lanes.length=all.length)
 (hi:i<nx) (ho:H i=some ⟨1,wm,w.map aJ⟩) (h:K (dA [.osl 1 i 0 64 wc]) (H.set i ⟨1,wm,(FV w all data lanes all.length).map aJ⟩) nx):
 aB Tryz.prog H5 [dA [.osl 1 i 0 64 wc],dS (all.map aJ),dS (data.map aJ),dS (lanes.map aJ)] H nx K:=
 (aSV w all data lanes wc wm hwl hw hwc ha hal hd hdl hl hll).OU i rfl (gW ⟨aH (aaF (by omega) rfl rfl rfl rfl) eP,aE rfl,aE rfl,aE rfl,trivial⟩) hi ho (oB bF _) fun r o' ⟨h1,h2⟩=>by
  subst h1;subst h2;exact h
theorem aSK (w hs all:List Int) (wc wm hc hm:Nat) (hsl:hs.length=6) (hhc:6≤hc) (hal:all.length<2^20) (ha:All all 0 63):
 aB Tryz.prog v9 [dA [.osl 1 0 0 64 wc,.osl 1 1 0 6 hc],dS (all.map aJ)] (hp [(0,⟨1,wm,w.map aJ⟩),(1,⟨1,hm,hs.map aJ⟩)]) 2
 fun r H' n'=>n'=2∧ ∃o1' o2',H'=hp [(0,o1'),(1,o2')]∧C7 o1'∧C7 o2'∧o1'=⟨1,wm,w.map aJ⟩∧o2'=⟨1,hm,(iU hs all).map aJ⟩∧r=dA [.osl 1 0 0 64 wc,.osl 1 1 0 6 hc]:=by
 refine aRM rfl fun Q hQ=> ?_
 unfold aNU
 repeat' (first| (with_reducible first| (refine hK _ _ _ ?_;clear hK K)|refine Z1 ?_|refine Z3 fun KB hKB=> ?_)| (with_reducible refine Y2 fun K hK=> ?_)<;>(simp only[go_sem])|fail)
 (have hKX:=hKB;clear hKB)
 refine aM.sG 2 (β:=Nat) (fun b k=>en [(5,dI k),(4,dP 2 (b+1)),(2,dP 2 b),(1,dS (all.map aJ))])
  (fun b k=>hp [(0,⟨1,wm,w.map aJ⟩),(1,⟨1,hm,(xI hs all k).map aJ⟩),(b,⟨2,1,[[.osl 1 0 0 64 wc,.osl 1 1 0 6 hc]]⟩),(b+1,⟨2,1,[[.osl 0 0 0 0 0,.osl 0 0 0 0 0]]⟩)]) (fun k=>k≤6) (fun k=>6-k) 0
  (by(refine cR [2,3,0,1] (by omega) (by repeat' (first| (with_reducible first|exact C1|refine C2 ?_ ?_)| ((with_reducible refine C0 ?_);exact CE (by omega) rfl)| ((with_reducible refine D0 ?_);first|exact CA rfl|refine CJ ?_)|fail)) ⟨⟨by simp,by simp[sgL],_,rfl,bP (aG bF _) rfl rfl⟩,⟨by simp,by simp[sgL],_,rfl,bP (aG bF _) (congrArg _ ac9) rfl⟩,⟨by simp,by simp[sgL],_,rfl,aP (by repeat' (first| (with_reducible first|exact C3|refine C4 ?_ ?_)| ((with_reducible refine C0 ?_);exact CQ (by omega) rfl rfl (by rfl) rfl)|fail))⟩,⟨by simp,by simp[sgL],_,rfl,aP (by repeat' (first| (with_reducible first|exact C3|refine C4 ?_ ?_)| ((with_reducible refine C0 ?_);exact CC)|fail))⟩,trivial⟩ (by simp[sgL]))) (by omega) ?_
 rintro k hk KL hKL
 have hfl:=aiJ (all:=all) (show k≤hs.length by omega)
 by_cases hlt:k<6
 ·have hfa:=akN (all:=all) (show k<hs.length by omega)
  have hss:=acP (all:=all) (show k<hs.length by omega)
  repeat' (first| (with_reducible first| (refine hK _ _ _ ?_;clear hK K)| (refine hA ?_;clear hA hB A B)|refine Z1 ?_|refine Z2 ?_|refine Z3 fun KB hKB=> ?_|refine Z4 (by omega) ?_)| (with_reducible first|refine Y2 fun K hK=> ?_|refine Y3 fun A B hA hB=> ?_)<;>(simp only[go_sem])|fail)
  (have hKY:=hKB;clear hKB)
  refine aM.sG 0 (β:=Nat×Int) (fun b u=>en [(6,dI u.1),(5,dI k),(4,dP 2 6),(2,dP 2 5),(1,dS (all.map aJ))])
   (fun b u=>hp [(0,⟨1,wm,w.map aJ⟩),(1,⟨1,hm,((xI hs all k).set k u.2).map aJ⟩),(5,⟨2,1,[[.osl 1 0 0 64 wc,.osl 1 1 0 6 hc]]⟩),(6,⟨2,1,[[.osl 0 0 0 0 0,.osl 0 0 0 0 0]]⟩)]) (fun u=>u.1≤all.length∧u.2=if hs.getD k default∈all.take u.1 then-1 else hs.getD k default) (fun u=>all.length-u.1) (0,hs.getD k default)
   (by(refine cR [0,1,5,6] (by omega) (by repeat' (first| (with_reducible first|exact C1|refine C2 ?_ ?_)| ((with_reducible refine C0 ?_);exact CE (by omega) rfl)| ((with_reducible refine D0 ?_);first|exact CA rfl|refine CJ ?_)|fail)) ⟨⟨by simp,by simp[sgL],_,rfl,bP (aG bF _) rfl rfl⟩,⟨by simp,by simp[sgL],_,rfl,bP (aG bF _) (congrArg _ hss) rfl⟩,⟨by simp,by simp[sgL],_,rfl,aP (by repeat' (first| (with_reducible first|exact C3|refine C4 ?_ ?_)| ((with_reducible refine C0 ?_);exact CQ (by omega) rfl rfl (by rfl) rfl)|fail))⟩,⟨by simp,by simp[sgL],_,rfl,aP (by repeat' (first| (with_reducible first|exact C3|refine C4 ?_ ?_)| ((with_reducible refine C0 ?_);exact CC)|fail))⟩,trivial⟩ (by simp[sgL]))) ⟨by omega,by simp⟩ ?_
  rintro⟨j,v⟩ ⟨hj,hv⟩ aUS hKI
  dsimp only at hj hv
  by_cases hjt:j<all.length
  ·have hb:=HB ha hjt
   have hg:((xI hs all k).set k v).getD k default=v:=by rw[wV (by omega),if_pos rfl]
   have hset: ∀x,((xI hs all k).set k v).set k x=(xI hs all k).set k x:=fun x=>by rw[List.set_set]
   have ht:=nK hjt
   repeat' (first| (with_reducible first| (refine hK _ _ _ ?_;clear hK K)| (refine hA ?_;clear hA hB A B)| (refine hB ?_;clear hA hB A B)|refine Z1 ?_|refine Z2 ?_|refine Z3 fun KB hKB=> ?_|refine Z4 (by omega) ?_|refine Z6 (fun h=> ?_) fun h=> ?_)| (with_reducible first|refine Y2 fun K hK=> ?_|refine Y3 fun A B hA hB=> ?_)<;>(simp only[go_sem,hg,hset];try simp (disch:=omega) only[Iw])| ((with_reducible refine Y0 ?_);simp only[AQ.then,AQ.blk])|refine⟨by omega,?_⟩| (with_reducible refine hKB _ _ _ ?_)|fail)
   ·exact hKI _ _ _ (j+1,-1) (by omega) (by(refine cR [0,1,5,6] (by omega) (by repeat' (first| (with_reducible first|exact C1|refine C2 ?_ ?_)| ((with_reducible refine C0 ?_);exact CE (by omega) rfl)| ((with_reducible refine D0 ?_);first|exact CA rfl|refine CJ ?_)|fail)) ⟨⟨by simp,by simp[sgL],_,rfl,bP (aG bF _) rfl rfl⟩,⟨by simp,by simp[sgL],_,rfl,bP (aG bF _) rfl rfl⟩,⟨by simp,by simp[sgL],_,rfl,aP (by repeat' (first| (with_reducible first|exact C3|refine C4 ?_ ?_)| ((with_reducible refine C0 ?_);exact CQ (by omega) rfl rfl (by rfl) rfl)|fail))⟩,⟨by simp,by simp[sgL],_,rfl,aP (by repeat' (first| (with_reducible first|exact C3|refine C4 ?_ ?_)| ((with_reducible refine C0 ?_);exact CC)|fail))⟩,trivial⟩ (by simp[sgL]))) ⟨by dsimp only;omega,by dsimp only;rw[ht];grind⟩ (by dsimp only;omega)
   ·exact hKI _ _ _ (j+1,v) (by omega) (by(refine cR [0,1,5,6] (by omega) (by repeat' (first| (with_reducible first|exact C1|refine C2 ?_ ?_)| ((with_reducible refine C0 ?_);exact CE (by omega) rfl)| ((with_reducible refine D0 ?_);first|exact CA rfl|refine CJ ?_)|fail)) ⟨⟨by simp,by simp[sgL],_,rfl,bP (aG bF _) rfl rfl⟩,⟨by simp,by simp[sgL],_,rfl,bP (aG bF _) rfl rfl⟩,⟨by simp,by simp[sgL],_,rfl,aP (by repeat' (first| (with_reducible first|exact C3|refine C4 ?_ ?_)| ((with_reducible refine C0 ?_);exact CQ (by omega) rfl rfl (by rfl) rfl)|fail))⟩,⟨by simp,by simp[sgL],_,rfl,aP (by repeat' (first| (with_reducible first|exact C3|refine C4 ?_ ?_)| ((with_reducible refine C0 ?_);exact CC)|fail))⟩,trivial⟩ (by simp[sgL]))) ⟨by dsimp only;omega,by dsimp only;rw[ht];grind⟩ (by dsimp only;omega)
  ·have hj2:j=all.length:=by omega
   subst hj2
   have hnx:=agQ (x:=v) (show k<hs.length by omega) (by rw[hv,List.take_length])
   repeat' (first| (with_reducible first| (refine hK _ _ _ ?_;clear hK K)| (refine hB ?_;clear hA hB A B)|refine Z1 ?_|refine Z5 (by omega) ?_|refine hKY _ _ _ ?_)| (with_reducible first|refine Y2 fun K hK=> ?_|refine Y3 fun A B hA hB=> ?_)<;>(simp only[go_sem];try simp (disch:=omega) only[Iw])| ((with_reducible refine Y9 ?_);try simp only[AQ.then,AQ.blk,reduceIte,Nat.reduceEqDiff])| ((with_reducible refine Y0 ?_);simp only[AQ.then,AQ.blk])| (with_reducible refine hKB _ _ _ ?_)|fail)
   exact hKL _ _ _ (k+1) (by omega) (by(refine cR [5,6,0,1] (by omega) (by repeat' (first| (with_reducible first|exact C1|refine C2 ?_ ?_)| ((with_reducible refine C0 ?_);exact CE (by omega) rfl)| ((with_reducible refine D0 ?_);first|exact CA rfl|refine CJ ?_)|fail)) ⟨⟨by simp,by simp[sgL],_,rfl,bP (aG bF _) rfl rfl⟩,⟨by simp,by simp[sgL],_,rfl,bP (aG bF _) (by rw[hnx]) rfl⟩,⟨by simp,by simp[sgL],_,rfl,aP (by repeat' (first| (with_reducible first|exact C3|refine C4 ?_ ?_)| ((with_reducible refine C0 ?_);exact CQ (by omega) rfl rfl (by rfl) rfl)|fail))⟩,⟨by simp,by simp[sgL],_,rfl,aP (by repeat' (first| (with_reducible first|exact C3|refine C4 ?_ ?_)| ((with_reducible refine C0 ?_);exact CC)|fail))⟩,trivial⟩ (by simp[sgL]))) (by omega) (by omega)
 ·repeat' (first| (with_reducible first| (refine hK _ _ _ ?_;clear hK K)| (refine hB ?_;clear hA hB A B)|refine Z1 ?_|refine Z5 (by omega) ?_|refine hKX _ _ _ ?_)| (with_reducible first|refine Y2 fun K hK=> ?_|refine Y3 fun A B hA hB=> ?_)<;>(simp only[go_sem])| ((with_reducible first|refine Y8 ?_|refine Y9 ?_);try simp only[AQ.then,AQ.blk,reduceIte,Nat.reduceEqDiff])|fail)
  have hk2:k=hs.length:=by omega
  subst hk2
  exact aTE hQ (dA [.osl 1 0 0 64 wc,.osl 1 1 0 6 hc]) _ _ _ rfl (by repeat' (first| ((with_reducible refine C0 ?_);exact CQ (by omega) rfl rfl (by rfl) rfl)| ((with_reducible refine D0 ?_);refine C9 ?_)|exact C3|refine C4 ?_ ?_|fail)) rfl rfl (oB bF _) (oB bF _) ⟨rfl,by rw[ahC],rfl⟩
theorem aSH {w hs all:List Int} {wc wm hc hm i j:Nat} (hsl:hs.length=6) (hhc:6≤hc) (hal:all.length<2^20) (ha:All all 0 63)
 (hi:i<nx) (hj:j<nx) (hij:i≠j) (ho1:H i=some ⟨1,wm,w.map aJ⟩) (ho2:H j=some ⟨1,hm,hs.map aJ⟩) (h:K (dA [.osl 1 i 0 64 wc,.osl 1 j 0 6 hc]) ((H.set i ⟨1,wm,w.map aJ⟩).set j ⟨1,hm,(iU hs all).map aJ⟩) nx):
 aB Tryz.prog v9 [dA [.osl 1 i 0 64 wc,.osl 1 j 0 6 hc],dS (all.map aJ)] H nx K:=
 (aSK w hs all wc wm hc hm hsl hhc hal ha).aUH i j rfl (gW ⟨aH (aaF (by omega) rfl rfl rfl rfl) (aH (aaF (by omega) rfl rfl rfl rfl) eP),aE rfl,trivial⟩) hi hj hij ho1 ho2 (oB bF _) (oB bF _) fun r o1' o2' ⟨h1,h2,h3⟩=>by
  subst h1;subst h2;subst h3;exact h
theorem aTB (m:List Rng) (w hs:List Int) (who:Int) (q:Req) (wc wm hc hm:Nat) (hm4:m.length<2^20) (hf:WK w hs) (hwc:64≤wc) (hhc:6≤hc) (hw:0≤who∧who≤2) (hq:dH q):
 aB Tryz.prog aN2 [dS (m.map eN),dA [.osl 1 0 0 64 wc,.osl 1 1 0 6 hc],dI who,dA (eB q)] (hp [(0,⟨1,wm,w.map aJ⟩),(1,⟨1,hm,hs.map aJ⟩)]) 2
 fun r H' n'=>n'=2∧ ∃o1' o2',H'=hp [(0,o1'),(1,o2')]∧C7 o1'∧C7 o2'∧o1'=⟨1,wm,(doM m w hs who q).1.1.map aJ⟩∧o2'=⟨1,hm,(doM m w hs who q).1.2.map aJ⟩∧r= .tup [.agg [.osl 1 0 0 64 wc,.osl 1 1 0 6 hc],.agg (tG (doM m w hs who q).2)]:=by
 obtain⟨hwl,hwr,hsl,hsr⟩:=hf
 obtain⟨hq1,hq2,hq3,hq4,hq5,hq6,hq7,hq8⟩:=hq
 have hbl:=DF hq3
 have hbp:=ai5 hq3
 have hb4:=MK (addr:=q.addr) (many:=q.many) (wrap:=q.wrap)
 have hbi:All (bE q.addr q.many q.wrap) 0 63:=V1
 have hlt:=PQ (p:=(inR · ((bE q.addr q.many q.wrap).getD 0 default))) (l:=m)
 have hwh:bV m (bE q.addr q.many q.wrap)<m.length:=by unfold bV;grind
 have hdl:wrM q=true→q.data.length=(bE q.addr q.many q.wrap).length∧q.lanes.length=(bE q.addr q.many q.wrap).length:=by
  intro h;unfold wrM at h;unfold n5 at hq4 hq5;simp at h;simp only[h,if_true] at hq4 hq5;omega
 refine aSX rfl fun Q hQ=> ?_
 unfold aOF
 repeat' (first| (with_reducible first| (refine hK _ _ _ ?_;clear hK K)| (refine hA ?_;clear hA hB A B)| (refine hB ?_;clear hA hB A B)|refine Z1 ?_|refine Z2 ?_|refine Z3 fun KB hKB=> ?_|refine Z6 (fun h=> ?_) fun h=> ?_)| (first| (with_reducible first|refine Y2 fun K hK=> ?_|refine Y3 fun A B hA hB=> ?_| (refine Y7 (fun h=> ?_) (fun h=> ?_)<;>try subst h))| (with_reducible refine aC9 ?_)| (with_reducible refine aDG (by omega) (by omega) ?_)| (with_reducible refine aC2 ?_)| (refine aSW hwl hwc hbi (by omega) (by omega) rfl ?_)| (refine aS5 hwl hwr hwc hbi (by omega) hq6 (hdl (by unfold wrM;simp;omega)).1 hq7 (hdl (by unfold wrM;simp;omega)).2 (by omega) rfl ?_)| (refine aSH hsl hhc (by omega) hbi (by omega) (by omega) (by omega) rfl rfl ?_))<;>(simp only[go_sem];try simp (disch:=omega) only[Iw])| ((with_reducible refine Y8 ?_);try simp only[AQ.then,AQ.blk,reduceIte,Nat.reduceEqDiff])| ((with_reducible refine Y0 ?_);simp only[AQ.then,AQ.blk])| ((with_reducible refine Z8 (fun h=> ?_) (fun h=> ?_))<;>try subst h)|refine⟨by omega,?_⟩| (with_reducible refine hKB _ _ _ ?_)|fail)
 all_goals have hwi:=W4 (q:=q)
 all_goals first
  |rw[alZ (by assumption)] at hQ
  |rw[anB (by assumption) (by assumption) (by assumption)] at hQ
  |rw[akI (by assumption) (by assumption)] at hQ
  |rw[amK (by assumption) (by assumption)] at hQ
  |rw[aqU (by assumption) (by grind) (by assumption) (by assumption)] at hQ
  |rw[aoE (by assumption) (by grind) (by assumption) (by grind)] at hQ
  |rw[ao1 (by assumption) (by grind) (by omega)] at hQ
  | (exfalso;grind)
 all_goals exact aTE hQ _ _ _ _ rfl (by repeat' (first| (with_reducible first|refine aUP ?_ ?_|refine aUQ ?_)| ((with_reducible refine C0 ?_);first|exact CB rfl|exact CQ (by omega) rfl rfl (by rfl) rfl|exact CF)|exact C3|refine C4 ?_ ?_|fail)) rfl rfl (oB bF _) (oB bF _) ⟨rfl,rfl,rfl⟩
theorem aS7 {m:List Rng} {w hs:List Int} {who:Int} {q:Req} {wc wm hc hm i j:Nat} (hm4:m.length<2^20) (hf:WK w hs) (hwc:64≤wc) (hhc:6≤hc) (hw:0≤who∧who≤2) (hq:dH q)
 (hi:i<nx) (hj:j<nx) (hij:i≠j) (ho1:H i=some ⟨1,wm,w.map aJ⟩) (ho2:H j=some ⟨1,hm,hs.map aJ⟩)
 (h:K (.tup [.agg [.osl 1 i 0 64 wc,.osl 1 j 0 6 hc],.agg (tG (doM m w hs who q).2)]) ((H.set i ⟨1,wm,(doM m w hs who q).1.1.map aJ⟩).set j ⟨1,hm,(doM m w hs who q).1.2.map aJ⟩) nx):
 aB Tryz.prog aN2 [dS (m.map eN),dA [.osl 1 i 0 64 wc,.osl 1 j 0 6 hc],dI who,dA (eB q)] H nx K:=
 (aTB m w hs who q wc wm hc hm hm4 hf hwc hhc hw hq).aUH i j rfl (gW ⟨aE rfl,aH (aaF (by omega) rfl rfl rfl rfl) (aH (aaF (by omega) rfl rfl rfl rfl) eP),aE rfl,aE rfl,trivial⟩) hi hj hij ho1 ho2 (oB bF _) (oB bF _) fun r o1' o2' ⟨h1,h2,h3⟩=>by
  subst h1;subst h2;subst h3;exact h
end
end Go.Proofs.YtegiblhkjfiooaaGreat
end
