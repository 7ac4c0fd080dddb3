/- Texts laid together by a program: rules, contracts and the walk that leads to the law. -/
import Derived.Test.YtegiblhkjfiooaaGreatPw15
import Derived.Test.YtegiblhkjfiooaaGreatPw13
import Derived.Test.YtegiblhkjfiooaaGreatPw3
set_option linter.unusedVariables false
set_option linter.unusedSimpArgs false
set_option linter.unusedSectionVars false
section
namespace Go.Proofs.YtegiblhkjfiooaaGreat
open Go Go.AM
set_option maxRecDepth 100000
set_option maxHeartbeats 8000000
section
variable {H : aA} {nx : Nat} {K : D → aA → Nat → Prop}
theorem aM2 (c:Cfg) (s:TSt) (hcf:jO c) (hf:aTQ s):aB Tryz.prog aI6 [dA (cU c),dA (eSt s)] .nil 0 fun rr _ _=>rr.plain=true∧rr=dB (tlB c s):=by
 refine aMM rfl fun Q hQ=> ?_
 unfold aJP
 have hwf:=hf.words
 have hhf:=hf.holds
 have haf:=hf.asked
 have hl3:=hf.wait
 have hl4:=hf.done
 have hl5:=hf.told
 have hd3: ∀j∈s.wait,j.rsp.data.length<2^20:=fun j hj=>hf.data j (by simp[hj])
 have hd4: ∀j∈s.done,j.rsp.data.length<2^20:=fun j hj=>hf.data j (by simp[hj])
 have hd5: ∀j∈s.told,j.rsp.data.length<2^20:=fun j hj=>hf.data j (by simp[hj])
 by_cases hb:aQ c
 case neg=>
  repeat' (first| (with_reducible first| (refine hK _ _ _ ?_;clear hK K)| (refine hA ?_;clear hA hB A B)|refine Z1 ?_)| (first| (with_reducible first|refine Y2 fun K hK=> ?_|refine Y3 fun A B hA hB=> ?_)| (with_reducible refine aKG hcf ?_))<;>(simp only[go_sem,eq_false hb])| ((with_reducible refine Y8 ?_);try simp only[AQ.then,AQ.blk,reduceIte,Nat.reduceEqDiff])|fail)
  all_goals exact aZ hQ (dB false) rfl rfl (congrArg dB (aOH fun h=>hb h.1)).symm
 by_cases hat:JS s.words s.holds
 case neg=>
  repeat' (first| (with_reducible first| (refine hK _ _ _ ?_;clear hK K)| (refine hA ?_;clear hA hB A B)|refine Z1 ?_)| (first| (with_reducible first|refine Y2 fun K hK=> ?_|refine Y3 fun A B hA hB=> ?_)| (with_reducible refine aKG hcf ?_)| (with_reducible refine aKH (show s.words.length<2^40 by omega) (show s.holds.length<2^40 by omega) ?_))<;>(simp only[go_sem,eq_true hb,eq_false hat])| ((with_reducible refine Y8 ?_);try simp only[AQ.then,AQ.blk,reduceIte,Nat.reduceEqDiff])|fail)
  all_goals exact aZ hQ (dB false) rfl rfl (congrArg dB (aOH fun h=>hat ⟨⟨by rw[h.2.atm.wl];rfl,h.2.atm.wr⟩,by rw[h.2.atm.hl];rfl,h.2.atm.hr⟩)).symm
 by_cases ha:s.asked.length=3
 case neg=>
  repeat' (first| (with_reducible first| (refine hK _ _ _ ?_;clear hK K)| (refine hA ?_;clear hA hB A B)|refine Z1 ?_|refine Z4 (by omega) ?_)| (first| (with_reducible first|refine Y2 fun K hK=> ?_|refine Y3 fun A B hA hB=> ?_)| (with_reducible refine aKG hcf ?_)| (with_reducible refine aKH (show s.words.length<2^40 by omega) (show s.holds.length<2^40 by omega) ?_))<;>(simp only[go_sem,eq_true hb,eq_true hat])| ((with_reducible refine Y8 ?_);try simp only[AQ.then,AQ.blk,reduceIte,Nat.reduceEqDiff])|fail)
  all_goals first| (exfalso;omega)|exact aZ hQ (dB false) rfl rfl (congrArg dB (aOH fun h=>ha h.2.JI)).symm
 obtain⟨hp3,hp12⟩:=hC hb
 repeat' (first| (with_reducible first| (refine hK _ _ _ ?_;clear hK K)| (refine hB ?_;clear hA hB A B)|refine Z1 ?_|refine Z2 ?_|refine Z3 fun KB hKB=> ?_|refine Z5 (by omega) ?_)| (first| (with_reducible first|refine Y2 fun K hK=> ?_|refine Y3 fun A B hA hB=> ?_)| (with_reducible refine aKG hcf ?_)| (with_reducible refine aKH (show s.words.length<2^40 by omega) (show s.holds.length<2^40 by omega) ?_))<;>(simp only[go_sem,eq_true hb,eq_true hat,ha])|fail)
 have hsz: ∀k,k≤3→(∀i,i<k→0≤s.asked.getD i default∧s.asked.getD i default≤((c.cP.getD i default).length:Int))→0≤jS (fun j=>s.asked.getD j default) k∧jS (fun j=>s.asked.getD j default) k≤12*k:=fun k hk h=>KF (m:=12) (by omega) k fun j hj=>by have:=h j hj;have:=hp12 j;(try dsimp only);omega
 (have hKX:=hKB;clear hKB);(refine aM.loop (α:={k:Nat//k≤3∧(∀i,i<k→0≤s.asked.getD i default∧s.asked.getD i default≤((c.cP.getD i default).length:Int))}) (fun u=>en [(6,dI u.1),(5,dI (jS (fun j=>s.asked.getD j default) u.1)),(3,.one (.c (.fQ (eSt s)))),(2,.one (.c (.fQ (cU c))))]) (fun _=>.nil) _ (fun u=>3-u.1) ⟨0,by omega,(by intros;first|trivial|omega)⟩ (bU (Nat.le_refl _) (by repeat' (first| (with_reducible first|exact C1|refine C2 ?_ ?_)| ((with_reducible refine D0 ?_);first|exact CA rfl|exact CI rfl (by simp) rfl rfl rfl)|fail))) ?_);(rintro⟨k,hk,hinv⟩ KL hKL)
 have hz:=hsz k hk hinv
 by_cases hlt:k<3
 ·have hpk:=hp12 k
  have hss:jS (fun j=>s.asked.getD j default) (k+1)=jS (fun j=>s.asked.getD j default) k+s.asked.getD k default:=rfl
  by_cases hr:0≤s.asked.getD k default∧s.asked.getD k default≤((c.cP.getD k default).length:Int)
  ·repeat' (first| (with_reducible first| (refine hK _ _ _ ?_;clear hK K)| (refine hA ?_;clear hA hB A B)| (refine hB ?_;clear hA hB A B)|refine Z1 ?_|refine Z2 ?_|refine Z3 fun KB hKB=> ?_|refine Z4 (by omega) ?_)| (first| (with_reducible first|refine Y2 fun K hK=> ?_|refine Y3 fun A B hA hB=> ?_)| (with_reducible refine aBC ?_))<;>(simp only[go_sem,eq_true hr,hp3,ha];try simp (disch:=omega) only[Iw])| ((with_reducible refine Y0 ?_);simp only[AQ.then,AQ.blk])|refine⟨by omega,?_⟩| (with_reducible refine hKB _ _ _ ?_)|fail)
   all_goals (rw[←hss];(refine hKL _ _ _ ⟨k+1,by omega,iS hinv hr⟩ (by omega) (by(try dsimp only);omega) (bU (Nat.le_refl _) (by repeat' (first| (with_reducible first|exact C1|refine C2 ?_ ?_)| ((with_reducible refine D0 ?_);exact CA rfl)|fail)))))
  ·repeat' (first| (with_reducible first| (refine hK _ _ _ ?_;clear hK K)| (refine hA ?_;clear hA hB A B)|refine Z1 ?_|refine Z2 ?_|refine Z3 fun KB hKB=> ?_|refine Z4 (by omega) ?_)| (first| (with_reducible first|refine Y2 fun K hK=> ?_|refine Y3 fun A B hA hB=> ?_)| (with_reducible refine aBC ?_))<;>(simp only[go_sem,eq_false hr,hp3,ha])| ((with_reducible refine Y8 ?_);try simp only[AQ.then,AQ.blk,reduceIte,Nat.reduceEqDiff])|refine⟨by omega,?_⟩|fail)
   all_goals exact aZ hQ (dB false) rfl rfl (congrArg dB (aOH fun h=>hr (h.2.DC k hlt))).symm
 have hk3:k=3:=by omega
 subst hk3
 have har:aTF c s.asked:=hinv
 have hsum3:jS (fun j=>s.asked.getD j default) 3=s.asked.getD 0 default+s.asked.getD 1 default+s.asked.getD 2 default:=by simp[jS]
 have hj1: ∀{H:aA} {nx:Nat} {K:D→aA→Nat→Prop},K (dB (aPK c s.asked s.wait false)) H nx→aB Tryz.prog aIQ [dA (cU c),dS (s.asked.map aJ),dS (s.wait.map aS),dB false] H nx K:=fun h=>aMA hb ha har hl3 hd3 h
 have hj2: ∀{H:aA} {nx:Nat} {K:D→aA→Nat→Prop},K (dB (aPK c s.asked s.done true)) H nx→aB Tryz.prog aIQ [dA (cU c),dS (s.asked.map aJ),dS (s.done.map aS),dB true] H nx K:=fun h=>aMA hb ha har hl4 hd4 h
 by_cases hw:aPN c s.asked s.wait false
 case neg=>
  have e1:=aSY hw
  repeat' (first| (with_reducible first| (refine hK _ _ _ ?_;clear hK K)| (refine hA ?_;clear hA hB A B)| (refine hB ?_;clear hA hB A B)|refine Z1 ?_|refine Z5 (by omega) ?_|refine hKX _ _ _ ?_)| (first| (with_reducible first|refine Y2 fun K hK=> ?_|refine Y3 fun A B hA hB=> ?_)| (with_reducible refine hj1 ?_))<;>(simp only[go_sem,e1])| ((with_reducible first|refine Y8 ?_|refine Y9 ?_);try simp only[AQ.then,AQ.blk,reduceIte,Nat.reduceEqDiff])|fail)
  all_goals exact aZ hQ (dB false) rfl rfl (congrArg dB (aOH fun h=>hw h.2.aUL)).symm
 by_cases hdn:aPN c s.asked s.done true
 case neg=>
  have e1:=aQD hw
  have e2:=aSY hdn
  repeat' (first| (with_reducible first| (refine hK _ _ _ ?_;clear hK K)| (refine hA ?_;clear hA hB A B)| (refine hB ?_;clear hA hB A B)|refine Z1 ?_|refine Z5 (by omega) ?_|refine hKX _ _ _ ?_)| (first| (with_reducible first|refine Y2 fun K hK=> ?_|refine Y3 fun A B hA hB=> ?_)| (with_reducible refine hj1 ?_)| (with_reducible refine hj2 ?_))<;>(simp only[go_sem,e1,e2])| ((with_reducible first|refine Y8 ?_|refine Y9 ?_);try simp only[AQ.then,AQ.blk,reduceIte,Nat.reduceEqDiff])|fail)
  all_goals exact aZ hQ (dB false) rfl rfl (congrArg dB (aOH fun h=>hdn h.2.aUM)).symm
 have e1:=aQD hw
 have e2:=aQD hdn
 by_cases ht:aSQ c s
 case neg=>
  have e3:=aTL ht
  repeat' (first| (with_reducible first| (refine hK _ _ _ ?_;clear hK K)| (refine hA ?_;clear hA hB A B)| (refine hB ?_;clear hA hB A B)|refine Z1 ?_|refine Z5 (by omega) ?_|refine hKX _ _ _ ?_)| (first| (with_reducible first|refine Y2 fun K hK=> ?_|refine Y3 fun A B hA hB=> ?_)| (with_reducible refine hj1 ?_)| (with_reducible refine hj2 ?_)| (with_reducible refine aMG hb ha har hl5 hd5 ?_))<;>(simp only[go_sem,e1,e2,e3])| ((with_reducible first|refine Y8 ?_|refine Y9 ?_);try simp only[AQ.then,AQ.blk,reduceIte,Nat.reduceEqDiff])|fail)
  all_goals exact aZ hQ (dB false) rfl rfl (congrArg dB (aOH fun h=>ht h.2.aUN)).symm
 have e3:=aTM ht
 by_cases hc:(s.wait.length:Int)+s.done.length+s.told.length=s.asked.getD 0 default+s.asked.getD 1 default+s.asked.getD 2 default
 case neg=>
  repeat' (first| (with_reducible first| (refine hK _ _ _ ?_;clear hK K)| (refine hA ?_;clear hA hB A B)| (refine hB ?_;clear hA hB A B)|refine Z1 ?_|refine Z4 (by omega) ?_|refine Z5 (by omega) ?_|refine hKX _ _ _ ?_)| (first| (with_reducible first|refine Y2 fun K hK=> ?_|refine Y3 fun A B hA hB=> ?_)| (with_reducible refine hj1 ?_)| (with_reducible refine hj2 ?_)| (with_reducible refine aMG hb ha har hl5 hd5 ?_))<;>(simp only[go_sem,e1,e2,e3];try simp (disch:=omega) only[Iw])| ((with_reducible first|refine Y8 ?_|refine Y9 ?_);try simp only[AQ.then,AQ.blk,reduceIte,Nat.reduceEqDiff])|fail)
  all_goals first| (exfalso;omega)|exact aZ hQ (dB false) rfl rfl (congrArg dB (aOH fun h=>hc h.2.count)).symm
 repeat' (first| (with_reducible first| (refine hK _ _ _ ?_;clear hK K)| (refine hB ?_;clear hA hB A B)|refine Z1 ?_|refine Z2 ?_|refine Z3 fun KB hKB=> ?_|refine Z5 (by omega) ?_|refine hKX _ _ _ ?_)| (first| (with_reducible first|refine Y2 fun K hK=> ?_|refine Y3 fun A B hA hB=> ?_)| (with_reducible refine hj1 ?_)| (with_reducible refine hj2 ?_)| (with_reducible refine aMG hb ha har hl5 hd5 ?_))<;>(simp only[go_sem,e1,e2,e3];try simp (disch:=omega) only[Iw])| ((with_reducible refine Y9 ?_);try simp only[AQ.then,AQ.blk,reduceIte,Nat.reduceEqDiff])|fail)
 (have hKZ:=hKB;clear hKB)
 refine aM.loop (α:={k:Nat//k≤s.told.length∧ ∀i,i<k→key (s.told.getD i default)∉s.wait.map key∧key (s.told.getD i default)∉s.done.map key}) (fun u=>en [(7,dI u.1),(3,.one (.c (.fQ (eSt s))))]) (fun _=>.nil) _ (fun u=>s.told.length-u.1) ⟨0,by omega,fun i hi=>by omega⟩ (bU (Nat.le_refl _) (by repeat' (first| (with_reducible first|exact C1|refine C2 ?_ ?_)| ((with_reducible refine D0 ?_);exact CA rfl)|fail))) ?_
 rintro⟨k,hk,hinv2⟩ KL hKL
 by_cases hlt:k<s.told.length
 ·obtain⟨j,hj⟩: ∃j,j=s.told.getD k default:=⟨_,rfl⟩
  have hj':=hj.symm
  have hm:j∈s.told:=by rw[hj];exact cC hlt
  by_cases h1:0≤bK (iM j.who j.n) s.wait
  ·repeat' (first| (with_reducible first| (refine hK _ _ _ ?_;clear hK K)| (refine hA ?_;clear hA hB A B)|refine Z1 ?_|refine Z2 ?_|refine Z3 fun KB hKB=> ?_|refine Z4 (by omega) ?_)| (first| (with_reducible first|refine Y2 fun K hK=> ?_|refine Y3 fun A B hA hB=> ?_|refine Y4 (by omega) ?_)| (with_reducible refine aKK (show s.wait.length<2^40 by omega) ?_))<;>(simp only[go_sem,hj'])| ((with_reducible refine Y8 ?_);try simp only[AQ.then,AQ.blk,reduceIte,Nat.reduceEqDiff])|refine⟨by omega,?_⟩|fail)
   all_goals first| (exfalso;omega)|exact aZ hQ (dB false) rfl rfl (congrArg dB (aOH fun h=>(h.2.apart.2.1 j hm).1 (ZP.1 h1))).symm
  ·by_cases h2:0≤bK (iM j.who j.n) s.done
   ·repeat' (first| (with_reducible first| (refine hK _ _ _ ?_;clear hK K)| (refine hA ?_;clear hA hB A B)|refine Z1 ?_|refine Z2 ?_|refine Z3 fun KB hKB=> ?_|refine Z4 (by omega) ?_)| (first| (with_reducible first|refine Y2 fun K hK=> ?_|refine Y3 fun A B hA hB=> ?_|refine Y5 (by omega) ?_)| (with_reducible refine aKK (show s.wait.length<2^40 by omega) ?_)| (with_reducible refine aKK (show s.done.length<2^40 by omega) ?_))<;>(simp only[go_sem,hj'])| ((with_reducible refine Y8 ?_);try simp only[AQ.then,AQ.blk,reduceIte,Nat.reduceEqDiff])|refine⟨by omega,?_⟩|fail)
    all_goals first| (exfalso;omega)|exact aZ hQ (dB false) rfl rfl (congrArg dB (aOH fun h=>(h.2.apart.2.1 j hm).2 (ZP.1 h2))).symm
   ·repeat' (first| (with_reducible first| (refine hK _ _ _ ?_;clear hK K)| (refine hA ?_;clear hA hB A B)| (refine hB ?_;clear hA hB A B)|refine Z1 ?_|refine Z2 ?_|refine Z3 fun KB hKB=> ?_|refine Z4 (by omega) ?_|refine Z5 (by omega) ?_)| (first| (with_reducible first|refine Y2 fun K hK=> ?_|refine Y3 fun A B hA hB=> ?_|refine Y5 (by omega) ?_)| (with_reducible refine aKK (show s.wait.length<2^40 by omega) ?_)| (with_reducible refine aKK (show s.done.length<2^40 by omega) ?_))<;>(simp only[go_sem,hj'];try simp (disch:=omega) only[Iw])| ((with_reducible refine Y0 ?_);simp only[AQ.then,AQ.blk])|refine⟨by omega,?_⟩| (with_reducible refine hKB _ _ _ ?_)|fail)
    all_goals first| (exfalso;omega)|exact hKL _ _ _ ⟨k+1,by omega,iS hinv2 (by rw[hj'];exact⟨fun h=>h1 (ZP.2 h),fun h=>h2 (ZP.2 h)⟩)⟩ (by omega) (by(try dsimp only);omega) (bU (Nat.le_refl _) (by repeat' (first| (with_reducible first|exact C1|refine C2 ?_ ?_)| ((with_reducible refine D0 ?_);exact CA rfl)|fail)))
 ·have hk2:k=s.told.length:=by omega
  subst hk2
  repeat' (first| (with_reducible first| (refine hK _ _ _ ?_;clear hK K)| (refine hB ?_;clear hA hB A B)|refine Z1 ?_|refine Z3 fun KB hKB=> ?_|refine Z5 (by omega) ?_|refine hKZ _ _ _ ?_)| (with_reducible first|refine Y2 fun K hK=> ?_|refine Y3 fun A B hA hB=> ?_)<;>(simp only[go_sem])| ((with_reducible refine Y9 ?_);try simp only[AQ.then,AQ.blk,reduceIte,Nat.reduceEqDiff])|fail)
  (have hKW:=hKB;clear hKB)
  refine aM.loop (α:={k:Nat//k≤s.done.length∧ ∀i,i<k→key (s.done.getD i default)∉s.wait.map key}) (fun u=>en [(8,dI u.1),(3,.one (.c (.fQ (eSt s))))]) (fun _=>.nil) _ (fun u=>s.done.length-u.1) ⟨0,by omega,fun i hi=>by omega⟩ (bU (Nat.le_refl _) (by repeat' (first| (with_reducible first|exact C1|refine C2 ?_ ?_)| ((with_reducible refine D0 ?_);exact CA rfl)|fail))) ?_
  rintro⟨k,hk,hinv3⟩ KM hKM
  by_cases hlt:k<s.done.length
  ·obtain⟨j,hj⟩: ∃j,j=s.done.getD k default:=⟨_,rfl⟩
   have hj':=hj.symm
   have hm:j∈s.done:=by rw[hj];exact cC hlt
   by_cases h1:0≤bK (iM j.who j.n) s.wait
   ·repeat' (first| (with_reducible first| (refine hK _ _ _ ?_;clear hK K)| (refine hA ?_;clear hA hB A B)|refine Z1 ?_|refine Z2 ?_|refine Z3 fun KB hKB=> ?_|refine Z4 (by omega) ?_)| (first| (with_reducible first|refine Y2 fun K hK=> ?_|refine Y3 fun A B hA hB=> ?_)| (with_reducible refine aKK (show s.wait.length<2^40 by omega) ?_))<;>(simp only[go_sem,hj'])| ((with_reducible refine Y8 ?_);try simp only[AQ.then,AQ.blk,reduceIte,Nat.reduceEqDiff])|refine⟨by omega,?_⟩|fail)
    all_goals first| (exfalso;omega)|exact aZ hQ (dB false) rfl rfl (congrArg dB (aOH fun h=>(h.2.apart.2.2 j hm) (ZP.1 h1))).symm
   ·repeat' (first| (with_reducible first| (refine hK _ _ _ ?_;clear hK K)| (refine hA ?_;clear hA hB A B)| (refine hB ?_;clear hA hB A B)|refine Z1 ?_|refine Z2 ?_|refine Z3 fun KB hKB=> ?_|refine Z4 (by omega) ?_|refine Z5 (by omega) ?_)| (first| (with_reducible first|refine Y2 fun K hK=> ?_|refine Y3 fun A B hA hB=> ?_)| (with_reducible refine aKK (show s.wait.length<2^40 by omega) ?_))<;>(simp only[go_sem,hj'];try simp (disch:=omega) only[Iw])| ((with_reducible refine Y0 ?_);simp only[AQ.then,AQ.blk])|refine⟨by omega,?_⟩| (with_reducible refine hKB _ _ _ ?_)|fail)
    all_goals first| (exfalso;omega)|exact hKM _ _ _ ⟨k+1,by omega,iS hinv3 (by rw[hj'];exact fun h=>h1 (ZP.2 h))⟩ (by omega) (by(try dsimp only);omega) (bU (Nat.le_refl _) (by repeat' (first| (with_reducible first|exact C1|refine C2 ?_ ?_)| ((with_reducible refine D0 ?_);exact CA rfl)|fail)))
  ·have hk2:k=s.done.length:=by omega
   subst hk2
   have hst:BA c s:=aTG hat ha har hw hdn ht hc (aKJ (P:=fun j=>key j∉s.wait.map key∧key j∉s.done.map key) hinv2) (aKJ (P:=fun j=>key j∉s.wait.map key) hinv3)
   repeat' (first| (with_reducible first| (refine hK _ _ _ ?_;clear hK K)| (refine hB ?_;clear hA hB A B)|refine Z1 ?_|refine Z5 (by omega) ?_)| (with_reducible first|refine Y2 fun K hK=> ?_|refine Y3 fun A B hA hB=> ?_)<;>(simp only[go_sem])| ((with_reducible refine Y9 ?_);try simp only[AQ.then,AQ.blk,reduceIte,Nat.reduceEqDiff])|fail)
   refine hKW _ _ _ ?_
   repeat' (first| (with_reducible first| (refine hK _ _ _ ?_;clear hK K)|refine Z1 ?_)| (with_reducible refine Y2 fun K hK=> ?_)<;>(simp only[go_sem])| ((with_reducible refine Y8 ?_);try simp only[AQ.then,AQ.blk,reduceIte,Nat.reduceEqDiff])|fail)
   exact aZ hQ (dB true) rfl rfl (congrArg dB (aTX hb hst)).symm
theorem aMQ {c:Cfg} {s:TSt} (hcf:jO c) (hf:aTQ s) (h:K (dB (tlB c s)) H nx):aB Tryz.prog aI6 [dA (cU c),dA (eSt s)] H nx K:=
 (aM2 c s hcf hf).pure rfl (aI ⟨aE rfl,aE rfl,trivial⟩) (fun r hr=>hr▸h)
end
end Go.Proofs.YtegiblhkjfiooaaGreat
end
section
namespace Go.Proofs.YtegiblhkjfiooaaGreat
open Go Go.AM
set_option maxRecDepth 100000
set_option maxHeartbeats 8000000
noncomputable def aTD (c:Cfg) (s:TSt) (e:Ev):Int:=if tlB c s=true then X6 c s e else 1
theorem aT5 {c:Cfg} {s:TSt} {e:Ev} (hb:aQ c) (hs:BA c s):aTD c s e=X6 c s e:=by unfold aTD;rw[aTX hb hs];rfl
section
variable {H : aA} {nx : Nat} {K : D → aA → Nat → Prop}
theorem aSN (c:Cfg) (e:Ev) (hb:aQ c):aB Tryz.prog aNF [dA (cU c),dA (eEv e)] .nil 0 fun rr _ _=>rr.plain=true∧rr=dB (decide (oA c e.who e.n∧1≤e.kind∧e.kind≤3)):=by
 refine aRD rfl fun Q hQ=> ?_
 unfold aNP
 obtain⟨hp3,hp12⟩:=hC hb
 have hw12:=hp12 e.who.toNat
 repeat' (first| (with_reducible first| (refine hK _ _ _ ?_;clear hK K)|refine Z1 ?_)| (first| (with_reducible first|refine Y2 fun K hK=> ?_|refine Y6 (fun h=> ?_) fun h=> ?_)| (with_reducible refine aBC ?_))<;>(simp only[go_sem,hp3];try simp (disch:=omega) only[Iw])| ((with_reducible refine Y8 ?_);try simp only[AQ.then,AQ.blk,reduceIte,Nat.reduceEqDiff])|refine⟨by omega,?_⟩|fail)
 all_goals first|exact aZ hQ _ rfl rfl (q9 (by unfold oA;omega))|exact aZ hQ _ rfl rfl (j7 (by unfold oA;omega))|exact aZ hQ _ rfl rfl (pD (by unfold oA;omega))
theorem aO8 {c:Cfg} {e:Ev} (hb:aQ c) (h:K (dB (decide (oA c e.who e.n∧1≤e.kind∧e.kind≤3))) H nx):aB Tryz.prog aNF [dA (cU c),dA (eEv e)] H nx K:=
 (aSN c e hb).pure rfl (aI ⟨aE rfl,aE rfl,trivial⟩) (fun r hr=>hr▸h)
theorem aR2 (c:Cfg) (s:TSt) (e:Ev) (hcf:jO c) (hf:aTQ s):aB Tryz.prog aND [dA (cU c),dA (eSt s),dA (eEv e)] .nil 0 fun rr _ _=>rr.plain=true∧rr=dI (aTD c s e):=by
 refine aRQ rfl fun Q hQ=> ?_
 unfold aNT
 by_cases htl:aQ c∧BA c s
 case neg=>
  have e1:=aOH htl
  repeat' (first| (with_reducible first| (refine hK _ _ _ ?_;clear hK K)| (refine hA ?_;clear hA hB A B)|refine Z1 ?_)| (first| (with_reducible first|refine Y2 fun K hK=> ?_|refine Y3 fun A B hA hB=> ?_)| (with_reducible refine aMQ hcf hf ?_))<;>(simp only[go_sem,e1])| ((with_reducible refine Y8 ?_);try simp only[AQ.then,AQ.blk,reduceIte,Nat.reduceEqDiff])|fail)
  all_goals exact aZ hQ _ rfl rfl (qA (by unfold aTD;rw[e1];rfl))
 obtain⟨hb,hs⟩:=htl
 have e1:=aTX hb hs
 have hwt:aTD c s e=X6 c s e:=by unfold aTD;rw[e1];rfl
 have hsf:=hs.fit hb
 obtain⟨hp3,hp12⟩:=hC hb
 have ha:=hs.JI
 have hwl:=hsf.qU
 have hdl:=hsf.uQ
 by_cases hok:oA c e.who e.n
 ·have hb1:=hok.1
  repeat' (first| (with_reducible first| (refine hK _ _ _ ?_;clear hK K)| (refine hA ?_;clear hA hB A B)| (refine hB ?_;clear hA hB A B)|refine Z1 ?_|refine Z2 ?_|refine Z3 fun KB hKB=> ?_|refine Z6 (fun h=> ?_) fun h=> ?_)| (first| (with_reducible first|refine Y2 fun K hK=> ?_|refine Y3 fun A B hA hB=> ?_|refine Y6 (fun h=> ?_) fun h=> ?_)| (with_reducible refine aMQ hcf hf ?_)| (with_reducible refine aO8 hb ?_)| (with_reducible refine aKK (show s.wait.length<2^40 by omega) ?_)| (with_reducible refine aKK (show s.done.length<2^40 by omega) ?_)| (with_reducible refine ap1 (l:=s.wait) (e:=e) (by omega) hp3 hok (fun j hj _ _=>hsf.wait j hj) ?_)| (with_reducible refine ap1 (l:=s.done) (e:=e) (by omega) hp3 hok (fun j hj _ _=>hsf.done j hj) ?_))<;>(simp only[go_sem,e1,ha])| ((with_reducible refine Y8 ?_);try simp only[AQ.then,AQ.blk,reduceIte,Nat.reduceEqDiff])| ((with_reducible refine Y0 ?_);simp only[AQ.then,AQ.blk])|refine⟨by omega,?_⟩| (with_reducible refine hKB _ _ _ ?_)|fail)
  all_goals
   refine aZ hQ _ rfl rfl (qA ?_)
   rw[hwt]
   unfold X6
   grind
 ·have e2:(oA c e.who e.n∧1≤e.kind∧e.kind≤3)=False:=eq_false fun h=>hok h.1
  repeat' (first| (with_reducible first| (refine hK _ _ _ ?_;clear hK K)| (refine hA ?_;clear hA hB A B)|refine Z1 ?_)| (first| (with_reducible first|refine Y2 fun K hK=> ?_|refine Y3 fun A B hA hB=> ?_)| (with_reducible refine aMQ hcf hf ?_)| (with_reducible refine aO8 hb ?_))<;>(simp only[go_sem,e1,e2])| ((with_reducible refine Y8 ?_);try simp only[AQ.then,AQ.blk,reduceIte,Nat.reduceEqDiff])|fail)
  all_goals
   refine aZ hQ _ rfl rfl (qA ?_)
   rw[hwt]
   unfold X6
   grind
theorem aO1 {c:Cfg} {s:TSt} {e:Ev} (hcf:jO c) (hf:aTQ s) {d1:D} (hd1:CvD H (fun _=>True) id 0 (dA (eSt s)) d1) (h:K (dI (aTD c s e)) H nx):aB Tryz.prog aND [dA (cU c),d1,dA (eEv e)] H nx K:=
 (aR2 c s e hcf hf).pure rfl (aI ⟨aE rfl,hd1,aE rfl,trivial⟩) (fun r hr=>hr▸h)
end
end Go.Proofs.YtegiblhkjfiooaaGreat
end
section
namespace Go.Proofs.YtegiblhkjfiooaaGreat
open Go Go.AM
set_option maxRecDepth 100000
set_option maxHeartbeats 8000000
noncomputable def stT (c:Cfg) (s:TSt) (e:Ev):TSt:=if tlB c s=true then (if X6 c s e=0 then lS c s e else s) else stN
section
variable {H : aA} {nx : Nat} {K : D → aA → Nat → Prop}
theorem aWS (c:Cfg) (s:TSt) (e:Ev) (hcf:jO c) (hf:aTQ s) (hno: ¬(aQ c∧BA c s)):aB Tryz.prog aNE [dA (cU c),dA (eSt s),dA (eEv e)] .nil 0 fun rr _ _=>rr.plain=true∧rr=dI 1:=by
 refine aQ6 rfl fun Q hQ=> ?_
 unfold aNY
 have e1:=aOH hno
 repeat' (first| (with_reducible first| (refine hK _ _ _ ?_;clear hK K)| (refine hA ?_;clear hA hB A B)|refine Z1 ?_)| (first| (with_reducible first|refine Y2 fun K hK=> ?_|refine Y3 fun A B hA hB=> ?_)| (refine aV5 hcf hf ?_))<;>(simp only[go_sem,e1])| ((with_reducible refine Y8 ?_);try simp only[AQ.then,AQ.blk,reduceIte,Nat.reduceEqDiff])|fail)
 all_goals exact aZ hQ _ rfl rfl rfl
theorem aWZ {c:Cfg} {s:TSt} {e:Ev} (hcf:jO c) (hf:aTQ s) (hno: ¬(aQ c∧BA c s)) (h:K (dI 1) H nx):aB Tryz.prog aNE [dA (cU c),dA (eSt s),dA (eEv e)] H nx K:=
 (aWS c s e hcf hf hno).pure rfl (aI ⟨aE rfl,aE rfl,aE rfl,trivial⟩) (fun r hr=>hr▸h)
theorem aW0 {c:Cfg} {s:TSt} {e:Ev} (hcf:jO c) (hf:aTQ s) (h:K (dI (aTD c s e)) H nx):aB Tryz.prog aNE [dA (cU c),dA (eSt s),dA (eEv e)] H nx K:=by
 by_cases hb:aQ c∧BA c s
 ·rw[aT5 hb.1 hb.2] at h
  exact aSL hb.1 hcf hb.2 h
 ·have e1:aTD c s e=1:=by unfold aTD;rw[aOH hb];rfl
  rw[e1] at h
  exact aWZ hcf hf hb h
theorem aWI (c:Cfg) (s:TSt) (e:Ev) (hcf:jO c) (hf:aTQ s) (hno: ¬(aQ c∧BA c s)):aB Tryz.prog dW [dA (cU c),dA (eSt s),dA (eEv e)] .nil 0 fun rr _ nn=>nn=0∧rr.imm=true∧rr= .tup [.agg (eSt stN),.c (cB false)]:=by
 refine aVV rfl fun Q hQ=> ?_
 unfold aVB
 have e1:=aOH hno
 repeat' (first| (with_reducible first| (refine hK _ _ _ ?_;clear hK K)| (refine hA ?_;clear hA hB A B)|refine Z1 ?_)| (first| (with_reducible first|refine Y2 fun K hK=> ?_|refine Y3 fun A B hA hB=> ?_)| (refine aV5 hcf hf ?_))<;>(simp only[go_sem,e1])| ((with_reducible refine Y8 ?_);try simp only[AQ.then,AQ.blk,reduceIte,Nat.reduceEqDiff])|fail)
 exact V4 hQ (.tup [.agg (eSt stN),.c (cB false)]) _ rfl (ay7 (ayY (aH xG (aH xG (aH xG (aH xG (aH xG (aH xG eP))))))) (azN (bB rfl))) rfl rfl
theorem aWL {c:Cfg} {s:TSt} {e:Ev} (hcf:jO c) (hf:aTQ s) (hno: ¬(aQ c∧BA c s)) (h:K (.tup [.agg (eSt stN),.c (cB false)]) H nx):aB Tryz.prog dW [dA (cU c),dA (eSt s),dA (eEv e)] H nx K:=
 (aWI c s e hcf hf hno).fresh rfl (fun r hr=>hr▸h)
theorem aWM {c:Cfg} {s:TSt} {e:Ev} (hcf:jO c) (hf:aTQ s) (h:K (.tup [.agg (eSt (stT c s e)),.c (cB (decide (aTD c s e=0)))]) H nx):aB Tryz.prog dW [dA (cU c),dA (eSt s),dA (eEv e)] H nx K:=by
 by_cases hb:aQ c∧BA c s
 ·have e1:stT c s e=if X6 c s e=0 then lS c s e else s:=by unfold stT;rw[if_pos (aTX hb.1 hb.2)]
  rw[aT5 hb.1 hb.2,e1] at h
  exact aWU hb.1 hcf hb.2 h
 ·have e1:aTD c s e=1:=by unfold aTD;rw[aOH hb];rfl
  have e2:stT c s e=stN:=by unfold stT;rw[aOH hb];rfl
  rw[e1,e2] at h
  exact aWL hcf hf hb h
end
end Go.Proofs.YtegiblhkjfiooaaGreat
end
section
namespace Go.Proofs.YtegiblhkjfiooaaGreat
open Go Go.AM
set_option maxRecDepth 100000
def aVC:AC:=
 (.seq (.region [rq 0 2 (.alloc [OZ,OZ,OZ]),
 rq 1 3 (.alloc [OZ,OZ,OZ,OZ,OZ,OZ]),
 rq 2 4 (.alloc [VZ,VZ,VZ])] 3 [0,2,3,4])
 (.seq (.region [RM 0 5 0,
 rq 1 6 (.call aVD [(.tm 5)]),
 rq 2 7 (.ext (.tm 6) 0),
 rq 3 8 (.ext (.tm 6) 1),
 rq 4 9 (.ext (.tm 6) 2),
 rn 5 (.store 3 true (.tm 2) (.tm 7)),
 rn 6 (.store 6 true (.tm 3) (.tm 8)),
 rn 7 (.store 3 true (.tm 4) (.tm 9))] 8 [2,3,4])
 .ret))
def aV7:List Cert:=[⟨[],[0,2,3,4]⟩,⟨[],[2,3,4]⟩]
def aVQ:List aW:=[.cell 2 3 true,.cell 3 6 true,.cell 4 3 true]
theorem aV8:aO Tryz.prog Tryz.f43 aV7=some (aVC,aVQ):=by kernel_rfl
def aU8:AC:=
 (.seq (.region [rq 0 2 (.alloc [OZ,OZ,OZ]),
 rq 1 3 (.alloc [OZ,OZ,OZ,OZ,OZ,OZ]),
 rq 2 4 (.alloc [VZ,VZ,VZ])] 3 [0,2,3,4])
 (.seq (.region [RM 0 10 0,
 rq 1 11 (.call kN [(.tm 10)]),
 RM 2 5 11] 3 [2,3,4,5])
 (.seq (.region [RM 0 13 5,
 rq 1 14 (.call aNG [(.tm 13),(ki 40)]),
 RM 2 12 14,
 rq 3 15 (.ext (.tm 12) 0),
 rq 4 16 (.ext (.tm 12) 1),
 rq 5 17 (.ext (.tm 12) 2),
 rq 6 6 (.alloc [OZ,OZ,OZ]),
 rq 7 7 (.alloc [OZ,OZ,OZ,OZ,OZ,OZ]),
 rn 8 (.store 3 true (.tm 6) (.tm 15)),
 rn 9 (.store 6 true (.tm 7) (.tm 16)),
 RM 10 8 17] 11 [2,3,4,5,6,7])
 (.seq (.region [RM 0 18 5,
 rq 1 19 (.load 3 true (.tm 6)),
 rq 2 20 (.load 6 true (.tm 7)),
 rq 3 21 (.call b7 [(.tm 18),(.tm 19),(.tm 20)]),
 rq 4 9 (.alloc [VZ,VZ,VZ]),
 rn 5 (.store 3 true (.tm 9) (.tm 21))] 6 [2,3,4,5,6,7,9])
 (.seq (.seq (.region [RM 0 22 5,
 rq 1 23 (.call kE [(.tm 22),(ki 12)])] 2 [2,3,4,5,6,7,9,23])
 (.cond (.tm 23)
 (.region [RM 0 25 5,
 rq 1 26 (.call aVL [(.tm 25),(ki 1)]),
 RM 2 24 26,
 rq 3 27 (.ext (.tm 24) 0),
 rq 4 28 (.ext (.tm 24) 1),
 rn 5 (.store 3 true (.tm 6) (.tm 27)),
 rn 6 (.store 6 true (.tm 7) (.tm 28))] 7 [2,3,4,6,7,9])
 .skip))
 (.seq (.region [rq 0 29 (.load 3 true (.tm 6)),
 ⟨1,(some 30),.load 6 true (.tm 7),none,[],[],true⟩,
 ⟨2,(some 31),.load 3 true (.tm 9),none,[],[],true⟩,
 ⟨3,none,.store 3 true (.tm 2) (.tm 29),none,[],[1,2],false⟩,
 ⟨4,none,.store 6 true (.tm 3) (.tm 30),none,[],[2],false⟩,
 rn 5 (.store 3 true (.tm 4) (.tm 31))] 6 [2,3,4])
 .ret))))))
def aV0:List Cert:=[⟨[],[0,2,3,4]⟩,⟨[],[2,3,4,5]⟩,⟨[],[2,3,4,5,6,7]⟩,⟨[],[2,3,4,5,6,7,9]⟩,⟨[],[2,3,4,5,6,7,9,23]⟩,⟨[],[2,3,4,6,7,9]⟩,⟨[cz 0,(1,[],[],true),(2,[],[],true),(3,[],[1,2],false),(4,[],[2],false),cz 5],[2,3,4]⟩]
def aVM:List aW:=[.cell 2 3 true,.cell 3 6 true,.cell 4 3 true]
theorem aV2:aO Tryz.prog Tryz.f47 aV0=some (aU8,aVM):=by kernel_rfl
def aVI:AC:=
 (.seq (.region [rq 0 4 (.alloc [OZ,OZ,OZ]),
 rq 1 5 (.alloc [OZ,OZ,OZ,OZ,OZ,OZ])] 2 [0,1,4,5])
 (.seq (.region [RM 0 10 0,
 rq 1 11 (.call aNG [(.tm 10),(ki 40)]),
 RM 2 9 11,
 rq 3 12 (.ext (.tm 9) 0),
 rq 4 13 (.ext (.tm 9) 1),
 rq 5 14 (.ext (.tm 9) 2),
 rq 6 6 (.alloc [OZ,OZ,OZ]),
 rq 7 7 (.alloc [OZ,OZ,OZ,OZ,OZ,OZ]),
 rn 8 (.store 3 true (.tm 6) (.tm 12)),
 rn 9 (.store 6 true (.tm 7) (.tm 13)),
 RM 10 8 14] 11 [0,1,4,5,6,7])
 (.seq (.seq (.region [RM 0 15 0,
 RM 1 16 1,
 rq 2 17 (.call kE [(.tm 15),(.tm 16)])] 3 [0,4,5,6,7,17])
 (.cond (.tm 17)
 (.seq (.region [RM 0 18 0,
 rq 1 19 (.call aD [(.tm 18),(ki 7)])] 2 [0,4,5,6,7,19])
 (.block 0
 (.seq (.region [rq 0 23 (.bin .eql (.tm 19) (ki 0)),
 RM 1 22 23] 2 [0,4,5,6,7,19,22])
 (.cond (.tm 22)
 (.region [RM 0 24 0,
 rq 1 25 (.call aVK [(.tm 24),(ki 2)]),
 RF 2 26 0 7,
 rn 3 (.store 2 true (.tm 26) (.tm 25))] 4 [4,5,6,7])
 (.seq (.region [rq 0 28 (.bin .eql (.tm 19) (ki 1)),
 RM 1 27 28] 2 [0,4,5,6,7,19,27])
 (.cond (.tm 27)
 (.region [RF 0 29 2 7,
 ⟨1,(some 30),.load 1 false (.tm 29),none,[4],[],true⟩,
 RM 2 31 0,
 rq 4 33 (.bC 1 3 [VZ] [(0,1,(.kv (.int .i64 (-1)))),(1,1,(ki 13)),(2,1,(ki 1))]),
 RM 5 34 0,
 ⟨3,(some 32),.call aD [(.tm 31),(ki 3)],none,[4],[1],false⟩,
 ⟨6,(some 35),.call aD [(.tm 34),(ki 3)],none,[4],[1],false⟩,
 rq 7 36 (.idx 1 (.tm 33) (.tm 35)),
 RL 8 37 36,
 rq 9 38 (.idx 1 (.tm 30) (.tm 32)),
 rn 10 (.store 1 false (.tm 38) (.tm 37))] 11 [4,5,6,7])
 (.seq (.region [rq 0 40 (.bin .eql (.tm 19) (ki 2)),
 RM 1 39 40] 2 [0,4,5,6,7,19,39])
 (.cond (.tm 39)
 (.region [RF 0 41 3 7,
 ⟨1,(some 42),.load 1 false (.tm 41),none,[8],[],true⟩,
 RM 2 43 0,
 RM 5 46 0,
 ⟨3,(some 44),.call aD [(.tm 43),(ki 4)],none,[],[1],false⟩,
 rq 4 45 (.bin .sub (.tm 44) (ki 1)),
 ⟨6,(some 47),.call aD [(.tm 46),(ki 4)],none,[],[1],false⟩,
 rq 7 48 (.build [VZ,VZ,VZ,VZ,OZ] [(0,1,(.tm 45)),(1,1,(.tm 47))]),
 rq 8 49 (.bC 5 1 [VZ,VZ,VZ,VZ,OZ] [(0,5,(.tm 48))]),
 rq 9 50 (.append 5 (.tm 42) (.tm 49)),
 RF 10 51 3 7,
 rn 11 (.store 1 false (.tm 51) (.tm 50))] 12 [4,5,6,7])
 (.seq (.region [rq 0 53 (.bin .eql (.tm 19) (ki 3)),
 RM 1 52 53] 2 [0,4,5,6,7,19,52])
 (.cond (.tm 52)
 (.region [RF 0 54 4 7,
 ⟨1,(some 55),.load 1 false (.tm 54),none,[10],[],true⟩,
 RM 2 56 0,
 RM 5 59 0,
 RM 7 61 0,
 ⟨3,(some 57),.call aD [(.tm 56),(ki 4)],none,[],[1],false⟩,
 rq 4 58 (.bin .sub (.tm 57) (ki 1)),
 ⟨6,(some 60),.call aD [(.tm 59),(ki 4)],none,[],[1],false⟩,
 ⟨8,(some 62),.call aVA [(.tm 61),(ki 3)],none,[],[1],false⟩,
 rq 9 63 (.build [VZ,VZ,VZ,VZ,OZ] [(0,1,(.tm 58)),(1,1,(.tm 60)),(2,3,(.tm 62))]),
 rq 10 64 (.bC 5 1 [VZ,VZ,VZ,VZ,OZ] [(0,5,(.tm 63))]),
 rq 11 65 (.append 5 (.tm 55) (.tm 64)),
 RF 12 66 4 7,
 rn 13 (.store 1 false (.tm 66) (.tm 65))] 14 [4,5,6,7])
 (.seq (.region [rq 0 68 (.bin .eql (.tm 19) (ki 4)),
 RM 1 67 68] 2 [0,4,5,6,7,19,67])
 (.cond (.tm 67)
 (.region [RF 0 69 5 7,
 ⟨1,(some 70),.load 1 false (.tm 69),none,[10],[],true⟩,
 RM 2 71 0,
 RM 5 74 0,
 RM 7 76 0,
 ⟨3,(some 72),.call aD [(.tm 71),(ki 4)],none,[],[1],false⟩,
 rq 4 73 (.bin .sub (.tm 72) (ki 1)),
 ⟨6,(some 75),.call aD [(.tm 74),(ki 4)],none,[],[1],false⟩,
 ⟨8,(some 77),.call aVA [(.tm 76),(ki 3)],none,[],[1],false⟩,
 rq 9 78 (.build [VZ,VZ,VZ,VZ,OZ] [(0,1,(.tm 73)),(1,1,(.tm 75)),(2,3,(.tm 77))]),
 rq 10 79 (.bC 5 1 [VZ,VZ,VZ,VZ,OZ] [(0,5,(.tm 78))]),
 rq 11 80 (.append 5 (.tm 70) (.tm 79)),
 RF 12 81 5 7,
 rn 13 (.store 1 false (.tm 81) (.tm 80))] 14 [4,5,6,7])
 (.seq (.region [rq 0 83 (.bin .eql (.tm 19) (ki 5)),
 RM 1 82 83] 2 [0,4,5,6,7,82])
 (.cond (.tm 82)
 (.region [RF 0 84 2 7,
 RL 1 85 84,
 rq 2 86 (.slc 1 (.tm 85) (some (ki 1)) none none),
 RF 3 87 2 7,
 rn 4 (.store 1 false (.tm 87) (.tm 86))] 5 [4,5,6,7])
 (.region [RM 0 20 0,
 rq 1 21 (.call aNJ [(.tm 20),(ki 1)]),
 rn 2 (.store 3 true (.tm 6) (.tm 21))] 3 [4,5,6,7])))))))))))))))
 .skip))
 (.seq (.region [rq 0 88 (.load 3 true (.tm 6)),
 ⟨1,(some 89),.load 6 true (.tm 7),none,[],[],true⟩,
 ⟨2,none,.store 3 true (.tm 4) (.tm 88),none,[],[1],false⟩,
 rn 3 (.store 6 true (.tm 5) (.tm 89))] 4 [4,5])
 .ret))))
def aWC:List Cert:=[⟨[],[0,1,4,5]⟩,⟨[],[0,1,4,5,6,7]⟩,⟨[],[0,4,5,6,7,17]⟩,⟨[],[0,4,5,6,7,19]⟩,⟨[],[0,4,5,6,7,19,22]⟩,⟨[],[4,5,6,7]⟩,⟨[],[0,4,5,6,7,19,27]⟩,⟨[cz 0,(1,[4],[],true),cz 2,cz 4,cz 5,(3,[4],[1],false),(6,[4],[1],false),cz 7,cz 8,cz 9,cz 10],[4,5,6,7]⟩,⟨[],[0,4,5,6,7,19,39]⟩,⟨[cz 0,(1,[8],[],true),cz 2,cz 5,(3,[],[1],false),cz 4,(6,[],[1],false),cz 7,cz 8,cz 9,cz 10,cz 11],[4,5,6,7]⟩,⟨[],[0,4,5,6,7,19,52]⟩,⟨[cz 0,(1,[10],[],true),cz 2,cz 5,cz 7,(3,[],[1],false),cz 4,(6,[],[1],false),(8,[],[1],false),cz 9,cz 10,cz 11,cz 12,cz 13],[4,5,6,7]⟩,⟨[],[0,4,5,6,7,19,67]⟩,⟨[cz 0,(1,[10],[],true),cz 2,cz 5,cz 7,(3,[],[1],false),cz 4,(6,[],[1],false),(8,[],[1],false),cz 9,cz 10,cz 11,cz 12,cz 13],[4,5,6,7]⟩,⟨[],[0,4,5,6,7,82]⟩,⟨[],[4,5,6,7]⟩,⟨[],[4,5,6,7]⟩,⟨[cz 0,(1,[],[],true),(2,[],[1],false),cz 3],[4,5]⟩]
def aVR:List aW:=[.cell 4 3 true,.cell 5 6 true]
theorem aWB:aO Tryz.prog Tryz.f98 aWC=some (aVI,aVR):=by kernel_rfl
def at4:AC:=
 (.seq (.region [rq 0 4 (.alloc [OZ,OZ,OZ])] 1 [0,1,4])
 (.seq (.region [RM 0 6 0,
 rq 1 7 (.call lJ [(.tm 6),(ki 6)]),
 rq 2 5 (.alloc [OZ,OZ,OZ]),
 rn 3 (.store 3 true (.tm 5) (.tm 7))] 4 [0,1,4,5])
 (.seq (.seq (.region [RM 0 8 0,
 RM 1 9 1,
 rq 2 10 (.call kE [(.tm 8),(.tm 9)])] 3 [0,4,5,10])
 (.cond (.tm 10)
 (.seq (.region [RM 0 11 0,
 rq 1 12 (.call aD [(.tm 11),(ki 5)])] 2 [0,4,5,12])
 (.block 0
 (.seq (.region [rq 0 25 (.bin .eql (.tm 12) (ki 0)),
 RM 1 24 25] 2 [0,4,5,12,24])
 (.cond (.tm 24)
 (.region [RM 0 26 0,
 rq 1 27 (.call tN [(.tm 26),(ki 1)]),
 RF 2 28 0 5,
 rn 3 (.store 1 false (.tm 28) (.tm 27))] 4 [4,5])
 (.seq (.region [rq 0 30 (.bin .eql (.tm 12) (ki 1)),
 RM 1 29 30] 2 [0,4,5,12,29])
 (.cond (.tm 29)
 (.region [RF 0 31 1 5,
 ⟨1,(some 32),.load 1 false (.tm 31),none,[4],[],true⟩,
 RM 2 33 0,
 rq 4 35 (.bC 1 2 [VZ] [(0,1,(.kv (.int .i64 (-1)))),(1,1,(ki 4))]),
 RM 5 36 0,
 ⟨3,(some 34),.call aD [(.tm 33),(ki 4)],none,[4],[1],false⟩,
 ⟨6,(some 37),.call aD [(.tm 36),(ki 2)],none,[4],[1],false⟩,
 rq 7 38 (.idx 1 (.tm 35) (.tm 37)),
 RL 8 39 38,
 rq 9 40 (.idx 1 (.tm 32) (.tm 34)),
 rn 10 (.store 1 false (.tm 40) (.tm 39))] 11 [4,5])
 (.seq (.region [rq 0 42 (.bin .eql (.tm 12) (ki 2)),
 RM 1 41 42] 2 [0,4,5,12,41])
 (.cond (.tm 41)
 (.region [RF 0 43 1 5,
 RL 1 44 43,
 rq 2 45 (.slc 1 (.tm 44) (some (ki 1)) none none),
 RF 3 46 1 5,
 rn 4 (.store 1 false (.tm 46) (.tm 45))] 5 [4,5])
 (.seq (.region [rq 0 48 (.bin .eql (.tm 12) (ki 3)),
 RM 1 47 48] 2 [0,4,5,47])
 (.cond (.tm 47)
 (.region [RF 0 49 2 5,
 RL 1 50 49,
 rq 2 51 (.slc 1 (.tm 50) (some (ki 1)) none none),
 RF 3 52 2 5,
 rn 4 (.store 1 false (.tm 52) (.tm 51))] 5 [4,5])
 (.region [RF 0 13 2 5,
 ⟨1,(some 14),.load 1 false (.tm 13),none,[8],[],true⟩,
 RF 2 15 2 5,
 ⟨3,(some 16),.load 1 false (.tm 15),none,[8],[],true⟩,
 rq 4 17 (.idx 1 (.tm 16) (ki 0)),
 ⟨5,(some 18),.load 1 false (.tm 17),none,[8],[],true⟩,
 RM 6 19 0,
 ⟨7,(some 20),.call tS [(.tm 19),(ki 1)],none,[],[1,3,5],false⟩,
 rq 8 21 (.bC 7 1 [VZ,VZ,VZ,VZ,(.v (.bool false)),OZ,OZ] [(0,7,(.tm 20))]),
 ⟨9,(some 22),.append 7 (.tm 18) (.tm 21),none,[],[1],false⟩,
 rq 10 23 (.idx 1 (.tm 14) (ki 0)),
 rn 11 (.store 1 false (.tm 23) (.tm 22))] 12 [4,5])))))))))))
 .skip))
 (.seq (.region [rq 0 53 (.load 3 true (.tm 5)),
 rn 1 (.store 3 true (.tm 4) (.tm 53))] 2 [4])
 .ret))))
def aPU:List Cert:=[⟨[],[0,1,4]⟩,⟨[],[0,1,4,5]⟩,⟨[],[0,4,5,10]⟩,⟨[],[0,4,5,12]⟩,⟨[],[0,4,5,12,24]⟩,⟨[],[4,5]⟩,⟨[],[0,4,5,12,29]⟩,⟨[cz 0,(1,[4],[],true),cz 2,cz 4,cz 5,(3,[4],[1],false),(6,[4],[1],false),cz 7,cz 8,cz 9,cz 10],[4,5]⟩,⟨[],[0,4,5,12,41]⟩,⟨[],[4,5]⟩,⟨[],[0,4,5,47]⟩,⟨[],[4,5]⟩,⟨[cz 0,(1,[8],[],true),cz 2,(3,[8],[],true),cz 4,(5,[8],[],true),cz 6,(7,[],[1,3,5],false),cz 8,(9,[],[1],false),cz 10,cz 11],[4,5]⟩,⟨[],[4]⟩]
def aOA:List aW:=[.cell 4 3 true]
theorem aPQ:aO Tryz.prog Tryz.f105 aPU=some (at4,aOA):=by kernel_rfl
def aVO:AC:=
 (.seq (.region [rq 0 4 (.alloc [OZ,OZ])] 1 [0,1,4])
 (.seq (.region [rq 0 7 (.call v7 []),
 rq 1 5 (.alloc [OZ,OZ]),
 rn 2 (.store 2 true (.tm 5) (.tm 7))] 3 [0,1,4,5])
 (.seq (.region [RM 0 8 0,
 rq 1 9 (.call aU9 [(.tm 8),(ki 99999)]),
 RF 2 10 0 5,
 rn 3 (.store 1 true (.tm 10) (.tm 9))] 4 [0,1,4,5])
 (.seq (.seq (.region [rq 0 6 (.move (ki 0))] 1 [0,1,4,5,6])
 (.block 0
 (.loop
 (.seq (.seq (.region [RM 0 11 6,
 RF 1 12 1 5,
 RL 2 13 12,
 rq 3 14 (.len false (.tm 13)),
 rq 4 15 (.bin .lss (.tm 11) (.tm 14))] 5 [0,1,4,5,6,15])
 (.cond (.tm 15)
 .skip
 (.exit 0)))
 (.seq (.block 1
 (.region [RF 0 18 1 5,
 ⟨1,(some 19),.load 1 false (.tm 18),none,[3],[],true⟩,
 RM 2 20 6,
 rq 3 21 (.bC 1 5 [VZ] [(0,1,(.kv (.int .i64 (-1)))),(1,1,(ki 0)),(2,1,(ki 1)),(3,1,(ki 16)),(4,1,(ki 32))]),
 RM 4 22 0,
 ⟨5,(some 23),.call aD [(.tm 22),(ki 5)],none,[3],[1],false⟩,
 rq 6 24 (.idx 1 (.tm 21) (.tm 23)),
 RL 7 25 24,
 rq 8 26 (.idx 1 (.tm 19) (.tm 20)),
 rn 9 (.store 1 false (.tm 26) (.tm 25))] 10 [0,1,4,5,6]))
 (.region [RM 0 16 6,
 rq 1 17 (.bin .add (.tm 16) (ki 1)),
 RM 2 6 17] 3 [0,1,4,5,6]))))))
 (.seq (.seq (.region [RM 0 27 0,
 RM 1 28 1,
 rq 2 29 (.call kE [(.tm 27),(.tm 28)])] 3 [0,4,5,29])
 (.cond (.tm 29)
 (.seq (.region [RM 0 30 0,
 rq 1 31 (.call aD [(.tm 30),(ki 3)])] 2 [0,4,5,31])
 (.block 2
 (.seq (.region [rq 0 41 (.bin .eql (.tm 31) (ki 0)),
 RM 1 40 41] 2 [0,4,5,31,40])
 (.cond (.tm 40)
 (.region [RM 0 42 0,
 rq 1 43 (.call aU9 [(.tm 42),(ki 1)]),
 RF 2 44 0 5,
 rn 3 (.store 1 true (.tm 44) (.tm 43))] 4 [4,5])
 (.seq (.region [rq 0 46 (.bin .eql (.tm 31) (ki 1)),
 RM 1 45 46] 2 [0,4,5,45])
 (.cond (.tm 45)
 (.region [RF 0 47 1 5,
 RL 1 48 47,
 rq 2 49 (.slc 1 (.tm 48) (some (ki 1)) none none),
 RF 3 50 1 5,
 rn 4 (.store 1 false (.tm 50) (.tm 49))] 5 [4,5])
 (.region [RF 0 32 1 5,
 ⟨1,(some 33),.load 1 false (.tm 32),none,[2],[],true⟩,
 rq 2 34 (.bC 1 2 [VZ] [(0,1,(.kv (.int .i64 (-2)))),(1,1,(ki 64))]),
 RM 3 35 0,
 ⟨4,(some 36),.call aD [(.tm 35),(ki 2)],none,[2],[1],false⟩,
 rq 5 37 (.idx 1 (.tm 34) (.tm 36)),
 RL 6 38 37,
 rq 7 39 (.idx 1 (.tm 33) (ki 0)),
 rn 8 (.store 1 false (.tm 39) (.tm 38))] 9 [4,5])))))))
 .skip))
 (.seq (.region [rq 0 51 (.load 2 true (.tm 5)),
 rn 1 (.store 2 true (.tm 4) (.tm 51))] 2 [4])
 .ret))))))
def aWO:List Cert:=[⟨[],[0,1,4]⟩,⟨[],[0,1,4,5]⟩,⟨[],[0,1,4,5]⟩,⟨[],[0,1,4,5,6]⟩,⟨[],[0,1,4,5,6,15]⟩,⟨[cz 0,(1,[3],[],true),cz 2,cz 3,cz 4,(5,[3],[1],false),cz 6,cz 7,cz 8,cz 9],[0,1,4,5,6]⟩,⟨[],[0,1,4,5,6]⟩,⟨[],[0,4,5,29]⟩,⟨[],[0,4,5,31]⟩,⟨[],[0,4,5,31,40]⟩,⟨[],[4,5]⟩,⟨[],[0,4,5,45]⟩,⟨[],[4,5]⟩,⟨[cz 0,(1,[2],[],true),cz 2,cz 3,(4,[2],[1],false),cz 5,cz 6,cz 7,cz 8],[4,5]⟩,⟨[],[4]⟩]
def aVE:List aW:=[.cell 4 2 true]
theorem aWX:aO Tryz.prog Tryz.f166 aWO=some (aVO,aVE):=by kernel_rfl
theorem aWW:aN Tryz.prog aVK Tryz.f166 aVO aVE:=
 aN.mk Tryz.func166 (by kernel_rfl) aWX
def aVP:AC:=
 (.seq (.region [rq 0 4 (.alloc [VZ,VZ,OZ])] 1 [0,1,4])
 (.seq (.region [RM 0 7 0,
 rq 1 8 (.call aD [(.tm 7),(ki 2)]),
 RM 2 9 0,
 rq 3 10 (.call aD [(.tm 9),(ki 4)]),
 rq 4 11 (.bin .add (ki 1) (.tm 10)),
 rq 5 12 (.build [VZ,VZ,OZ] [(0,1,(.tm 8)),(1,1,(.tm 11))]),
 rq 6 5 (.alloc [VZ,VZ,OZ]),
 rn 7 (.store 3 true (.tm 5) (.tm 12))] 8 [0,1,4,5])
 (.seq (.seq (.region [RM 0 13 0,
 rq 1 14 (.call aD [(.tm 13),(ki 5)]),
 RM 2 6 14] 3 [0,1,4,5,6])
 (.block 0
 (.loop
 (.seq (.seq (.region [RM 0 15 6,
 rq 1 16 (.bin .gtr (.tm 15) (ki 0))] 2 [0,1,4,5,6,16])
 (.cond (.tm 16)
 .skip
 (.exit 0)))
 (.seq (.block 1
 (.region [RF 0 19 2 5,
 ⟨1,(some 20),.load 1 false (.tm 19),none,[4],[],true⟩,
 RM 2 21 0,
 ⟨3,(some 22),.call aD [(.tm 21),(ki 300)],none,[],[1],false⟩,
 rq 4 23 (.bC 1 1 [VZ] [(0,1,(.tm 22))]),
 rq 5 24 (.append 1 (.tm 20) (.tm 23)),
 RF 6 25 2 5,
 rn 7 (.store 1 false (.tm 25) (.tm 24))] 8 [0,1,4,5,6]))
 (.region [RM 0 17 6,
 rq 1 18 (.bin .sub (.tm 17) (ki 1)),
 RM 2 6 18] 3 [0,1,4,5,6]))))))
 (.seq (.seq (.region [RM 0 26 0,
 RM 1 27 1,
 rq 2 28 (.call kE [(.tm 26),(.tm 27)])] 3 [0,4,5,28])
 (.cond (.tm 28)
 (.seq (.region [RM 0 29 0,
 rq 1 30 (.call aD [(.tm 29),(ki 4)])] 2 [0,4,5,30])
 (.block 2
 (.seq (.region [rq 0 34 (.bin .eql (.tm 30) (ki 0)),
 RM 1 33 34] 2 [0,4,5,30,33])
 (.cond (.tm 33)
 (.region [rq 0 35 (.bC 1 2 [VZ] [(0,1,(.kv (.int .i64 (-1)))),(1,1,(ki 2))]),
 RM 1 36 0,
 rq 2 37 (.call aD [(.tm 36),(ki 2)]),
 rq 3 38 (.idx 1 (.tm 35) (.tm 37)),
 RL 4 39 38,
 RF 5 40 0 5,
 rn 6 (.store 1 false (.tm 40) (.tm 39))] 7 [4,5])
 (.seq (.region [rq 0 42 (.bin .eql (.tm 30) (ki 1)),
 RM 1 41 42] 2 [0,4,5,30,41])
 (.cond (.tm 41)
 (.region [rq 0 43 (.bC 1 2 [VZ] [(0,1,(ki 0)),(1,1,(ki 5))]),
 RM 1 44 0,
 rq 2 45 (.call aD [(.tm 44),(ki 2)]),
 rq 3 46 (.idx 1 (.tm 43) (.tm 45)),
 RL 4 47 46,
 RF 5 48 1 5,
 rn 6 (.store 1 false (.tm 48) (.tm 47))] 7 [4,5])
 (.seq (.region [rq 0 50 (.bin .eql (.tm 30) (ki 2)),
 RM 1 49 50] 2 [4,5,49])
 (.cond (.tm 49)
 (.region [rq 0 51 (.bC 1 1 [VZ] [(0,1,(.kv (.int .i64 (-1))))]),
 RF 1 52 2 5,
 rn 2 (.store 1 false (.tm 52) (.tm 51))] 3 [4,5])
 (.region [rq 0 31 (.bC 1 5 [VZ] [(0,1,(ki 1)),(1,1,(ki 2)),(2,1,(ki 3)),(3,1,(ki 4)),(4,1,(ki 5))]),
 RF 1 32 2 5,
 rn 2 (.store 1 false (.tm 32) (.tm 31))] 3 [4,5])))))))))
 .skip))
 (.seq (.region [rq 0 53 (.load 3 true (.tm 5)),
 rn 1 (.store 3 true (.tm 4) (.tm 53))] 2 [4])
 .ret)))))
def aWY:List Cert:=[⟨[],[0,1,4]⟩,⟨[],[0,1,4,5]⟩,⟨[],[0,1,4,5,6]⟩,⟨[],[0,1,4,5,6,16]⟩,⟨[cz 0,(1,[4],[],true),cz 2,(3,[],[1],false),cz 4,cz 5,cz 6,cz 7],[0,1,4,5,6]⟩,⟨[],[0,1,4,5,6]⟩,⟨[],[0,4,5,28]⟩,⟨[],[0,4,5,30]⟩,⟨[],[0,4,5,30,33]⟩,⟨[],[4,5]⟩,⟨[],[0,4,5,30,41]⟩,⟨[],[4,5]⟩,⟨[],[4,5,49]⟩,⟨[],[4,5]⟩,⟨[],[4,5]⟩,⟨[],[4]⟩]
def aVF:List aW:=[.cell 4 3 true]
theorem aW3:aO Tryz.prog Tryz.f167 aWY=some (aVP,aVF):=by kernel_rfl
theorem aW2:aN Tryz.prog aVA Tryz.f167 aVP aVF:=
 aN.mk Tryz.func167 (by kernel_rfl) aW3
def aVN:AC:=
 (.seq (.region [rq 0 4 (.alloc [OZ])] 1 [0,1,4])
 (.seq (.region [rq 0 7 (.call v8 []),
 rq 1 5 (.alloc [OZ]),
 rn 2 (.store 1 true (.tm 5) (.tm 7))] 3 [0,1,4,5])
 (.seq (.seq (.region [RM 0 8 0,
 rq 1 9 (.call aD [(.tm 8),(ki 8)]),
 RM 2 6 9] 3 [0,1,4,5,6])
 (.block 0
 (.loop
 (.seq (.seq (.region [RM 0 10 6,
 rq 1 11 (.bin .gtr (.tm 10) (ki 0))] 2 [0,1,4,5,6,11])
 (.cond (.tm 11)
 .skip
 (.exit 0)))
 (.seq (.block 1
 (.region [RF 0 14 0 5,
 ⟨1,(some 15),.load 1 false (.tm 14),none,[],[],true⟩,
 RM 2 16 0,
 RM 4 18 0,
 ⟨3,(some 17),.call qM [(.tm 16)],none,[],[1],false⟩,
 ⟨5,(some 19),.call aD [(.tm 18),(ki 256)],none,[],[1],false⟩,
 rq 6 20 (.bin .mul (.tm 19) (ki 257)),
 rq 7 21 (.idx 1 (.tm 15) (.tm 17)),
 rn 8 (.store 1 false (.tm 21) (.tm 20))] 9 [0,1,4,5,6]))
 (.region [RM 0 12 6,
 rq 1 13 (.bin .sub (.tm 12) (ki 1)),
 RM 2 6 13] 3 [0,1,4,5,6]))))))
 (.seq (.seq (.region [RM 0 22 0,
 RM 1 23 1,
 rq 2 24 (.call kE [(.tm 22),(.tm 23)])] 3 [0,4,5,24])
 (.cond (.tm 24)
 (.seq (.region [RM 0 25 0,
 rq 1 26 (.call aD [(.tm 25),(ki 3)])] 2 [0,4,5,26])
 (.block 2
 (.seq (.region [rq 0 33 (.bin .eql (.tm 26) (ki 0)),
 RM 1 32 33] 2 [0,4,5,26,32])
 (.cond (.tm 32)
 (.region [RF 0 34 0 5,
 RL 1 35 34,
 rq 2 36 (.slc 1 (.tm 35) (some (ki 1)) none none),
 RF 3 37 0 5,
 rn 4 (.store 1 false (.tm 37) (.tm 36))] 5 [4,5])
 (.seq (.region [rq 0 39 (.bin .eql (.tm 26) (ki 1)),
 RM 1 38 39] 2 [0,4,5,38])
 (.cond (.tm 38)
 (.region [RF 0 40 0 5,
 ⟨1,(some 41),.load 1 false (.tm 40),none,[4],[],true⟩,
 RM 2 42 0,
 rq 4 44 (.bC 1 2 [VZ] [(0,1,(.kv (.int .i64 (-1)))),(1,1,(ki 65536))]),
 RM 5 45 0,
 ⟨3,(some 43),.call aD [(.tm 42),(ki 64)],none,[4],[1],false⟩,
 ⟨6,(some 46),.call aD [(.tm 45),(ki 2)],none,[4],[1],false⟩,
 rq 7 47 (.idx 1 (.tm 44) (.tm 46)),
 RL 8 48 47,
 rq 9 49 (.idx 1 (.tm 41) (.tm 43)),
 rn 10 (.store 1 false (.tm 49) (.tm 48))] 11 [4,5])
 (.region [RF 0 27 0 5,
 RL 1 28 27,
 rq 2 29 (.bC 1 1 [VZ] [(0,1,(ki 0))]),
 rq 3 30 (.append 1 (.tm 28) (.tm 29)),
 RF 4 31 0 5,
 rn 5 (.store 1 false (.tm 31) (.tm 30))] 6 [4,5])))))))
 .skip))
 (.seq (.region [rq 0 50 (.load 1 true (.tm 5)),
 rn 1 (.store 1 true (.tm 4) (.tm 50))] 2 [4])
 .ret)))))
def aWV:List Cert:=[⟨[],[0,1,4]⟩,⟨[],[0,1,4,5]⟩,⟨[],[0,1,4,5,6]⟩,⟨[],[0,1,4,5,6,11]⟩,⟨[cz 0,(1,[],[],true),cz 2,cz 4,(3,[],[1],false),(5,[],[1],false),cz 6,cz 7,cz 8],[0,1,4,5,6]⟩,⟨[],[0,1,4,5,6]⟩,⟨[],[0,4,5,24]⟩,⟨[],[0,4,5,26]⟩,⟨[],[0,4,5,26,32]⟩,⟨[],[4,5]⟩,⟨[],[0,4,5,38]⟩,⟨[cz 0,(1,[4],[],true),cz 2,cz 4,cz 5,(3,[4],[1],false),(6,[4],[1],false),cz 7,cz 8,cz 9,cz 10],[4,5]⟩,⟨[],[4,5]⟩,⟨[],[4]⟩]
def aVH:List aW:=[.cell 4 1 true]
theorem aWP:aO Tryz.prog Tryz.f222 aWV=some (aVN,aVH):=by kernel_rfl
theorem aWR:aN Tryz.prog aU9 Tryz.f222 aVN aVH:=
 aN.mk Tryz.func222 (by kernel_rfl) aWP
end Go.Proofs.YtegiblhkjfiooaaGreat
end
