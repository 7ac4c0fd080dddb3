/- Texts laid together by a program: rules, contracts and the walk that leads to the law. -/
import Derived.Test.YtegiblhkjfiooaaGreatPa3
import Derived.Test.YtegiblhkjfiooaaGreatPa23
import Derived.Test.YtegiblhkjfiooaaGreatPa12
import Derived.Test.YtegiblhkjfiooaaGreatPa15
import Derived.Test.YtegiblhkjfiooaaGreatPa20
import Derived.Test.YtegiblhkjfiooaaGreatPa22
import Derived.Test.YtegiblhkjfiooaaGreatPa6
import Derived.OpenShut
import Derived.Below
set_option linter.unusedVariables false
set_option linter.unusedSimpArgs false
set_option linter.unusedSectionVars false
section
namespace Go.Proofs.YtegiblhkjfiooaaGreat
open Go Go.AM
set_option maxRecDepth 100000
def yA:AC:=
 (.seq (.region [rq 0 4 (.move (.kv (.bool false)))] 1 [0,1])
 (.seq (.seq (.region [rq 0 5 (.move (ki 0))] 1 [0,1,5])
 (.block 0
 (.loop
 (.seq (.seq (.region [RM 0 8 5,
 RM 1 9 1,
 rq 2 10 (.len false (.tm 9)),
 rq 3 11 (.bin .lss (.tm 8) (.tm 10))] 4 [0,1,5,11])
 (.cond (.tm 11)
 .skip
 (.exit 0)))
 (.seq (.block 1
 (.seq (.region [rq 0 6 (.move (.kv (.bool false)))] 1 [0,1,5,6])
 (.seq (.seq (.region [rq 0 7 (.move (ki 0))] 1 [0,1,5,6,7])
 (.block 2
 (.loop
 (.seq (.seq (.region [RM 0 14 7,
 RM 1 15 0,
 rq 2 16 (.len false (.tm 15)),
 rq 3 17 (.bin .lss (.tm 14) (.tm 16))] 4 [0,1,5,6,7,17])
 (.cond (.tm 17)
 .skip
 (.exit 2)))
 (.seq (.block 3
 (.region [RM 0 20 6,
 RM 1 21 20,
 GQ 2 22 (.move (.tm 0)) 21 false,
 GQ 3 23 (.move (.tm 7)) 21 false,
 GQ 4 24 (.move (.tm 7)) 21 false,
 GQ 5 25 (.bin .add (.tm 24) (ki 1)) 21 false,
 GQ 6 26 (.slc 5 (.tm 22) (some (.tm 23)) (some (.tm 25)) none) 21 false,
 GQ 7 27 (.move (.tm 1)) 21 false,
 GQ 8 28 (.move (.tm 5)) 21 false,
 GQ 9 29 (.move (.tm 5)) 21 false,
 GQ 10 30 (.bin .add (.tm 29) (ki 1)) 21 false,
 GQ 11 31 (.slc 5 (.tm 27) (some (.tm 28)) (some (.tm 30)) none) 21 false,
 GQ 12 32 (.call jN [(.tm 26),(.tm 31)]) 21 false,
 rq 13 33 (.pick (.tm 21) (.kv (.bool true)) (.tm 32)),
 RM 14 6 33] 15 [0,1,5,6,7]))
 (.region [RM 0 18 7,
 rq 1 19 (.bin .add (.tm 18) (ki 1)),
 RM 2 7 19] 3 [0,1,5,6,7]))))))
 (.seq (.region [RM 0 34 6,
 rq 1 35 (.un .not (.tm 34))] 2 [0,1,5,35])
 (.cond (.tm 35)
 (.seq (.region [rq 0 4 (.move (.kv (.bool false)))] 1 [4])
 .ret)
 .skip)))))
 (.region [RM 0 12 5,
 rq 1 13 (.bin .add (.tm 12) (ki 1)),
 RM 2 5 13] 3 [0,1,5]))))))
 (.seq (.region [rq 0 4 (.move (.kv (.bool true)))] 1 [4])
 .ret)))
def QP:List Cert:=[⟨[],[0,1]⟩,⟨[],[0,1,5]⟩,⟨[],[0,1,5,11]⟩,⟨[],[0,1,5,6]⟩,⟨[],[0,1,5,6,7]⟩,⟨[],[0,1,5,6,7,17]⟩,⟨[cz 0,cz 1,cz 2,cz 3,cz 4,cz 5,cz 6,cz 7,cz 8,cz 9,cz 10,cz 11,cz 12,cz 13,cz 14],[0,1,5,6,7]⟩,⟨[],[0,1,5,6,7]⟩,⟨[],[0,1,5,35]⟩,⟨[],[4]⟩,⟨[],[0,1,5]⟩,⟨[],[4]⟩]
def F4:List aW:=[.tm 4]
theorem RB:aO Tryz.prog Tryz.f20 QP=some (yA,F4):=by kernel_rfl
theorem QE:aN Tryz.prog AW Tryz.f20 yA F4:=
 aN.mk Tryz.func20 (by kernel_rfl) RB
end Go.Proofs.YtegiblhkjfiooaaGreat
end
section
namespace Go.Proofs.YtegiblhkjfiooaaGreat
open Go Go.AM
set_option maxRecDepth 100000
def zY:AC:=
 (.seq (.region [rq 0 2 (.box true (.tm 0)),
 rq 1 3 (.box true (.tm 1)),
 rq 2 4 (.move (.kv (.bool false)))] 3 [2,3])
 (.seq (.region [RF 0 5 0 2,
 RF 1 6 0 5,
 RL 2 7 6,
 RF 3 8 0 3,
 RF 4 9 0 8,
 RL 5 10 9,
 rq 6 11 (.call jM [(.tm 7),(.tm 10)]),
 RM 7 12 11,
 GQ 8 13 (.fld 1 (.tm 2)) 12 true,
 GQ 9 14 (.load 1 false (.tm 13)) 12 true,
 GQ 10 15 (.fld 1 (.tm 3)) 12 true,
 GQ 11 16 (.load 1 false (.tm 15)) 12 true,
 GQ 12 17 (.call jM [(.tm 14),(.tm 16)]) 12 true,
 rq 13 18 (.pick (.tm 12) (.tm 17) (.kv (.bool false))),
 RM 14 4 18] 15 [4])
 .ret))
def UG:List Cert:=[⟨[],[2,3]⟩,⟨[],[4]⟩]
def I2:List aW:=[.tm 4]
theorem UP:aO Tryz.prog Tryz.f41 UG=some (zY,I2):=by kernel_rfl
theorem UZ:aN Tryz.prog wK Tryz.f41 zY I2:=
 aN.mk Tryz.func41 (by kernel_rfl) UP
end Go.Proofs.YtegiblhkjfiooaaGreat
end
section
namespace Go.Proofs.YtegiblhkjfiooaaGreat
open Go Go.AM
set_option maxRecDepth 100000
set_option maxHeartbeats 8000000
section
variable {H : aA} {nx : Nat} {K : D → aA → Nat → Prop}
theorem yO {α:Type} [Inhabited α] {a b:List α} (hl:a.length=b.length) (h: ∀i,i<a.length→a.getD i default=b.getD i default):a=b:=by
 refine List.ext_getElem hl fun i h1 h2=> ?_
 have:=h i h1
 simpa [List.getD,h1,h2] using this
theorem VC (a b:List Int) (ha:a.length<2^40) (hb:b.length<2^40):aB Tryz.prog jM [dS (a.map aJ),dS (b.map aJ)] .nil 0 fun rr _ _=>rr.plain=true∧rr=dB (decide (a=b)):=by
 refine SU rfl fun Q hQ=> ?_
 unfold xO
 by_cases hl:a.length=b.length
 ·repeat' (first| (with_reducible first| (refine hK _ _ _ ?_;clear hK K)| (refine hB ?_;clear hA hB A B)|refine Z1 ?_|refine Z2 ?_|refine Z3 fun KB hKB=> ?_|refine Z5 (by omega) ?_)| (with_reducible first|refine Y2 fun K hK=> ?_|refine Y3 fun A B hA hB=> ?_)<;>(simp only[go_sem])|fail)
  (have hKX:=hKB;clear hKB);(refine aM.loop (α:={k:Nat//k≤a.length∧(∀i,i<k→a.getD i default=b.getD i default)}) (fun u=>en [(5,dI u.1),(1,dS (b.map aJ)),(0,dS (a.map aJ))]) (fun _=>.nil) _ (fun u=>a.length-u.1) ⟨0,by omega,(by intros;first|trivial|omega)⟩ (bU (Nat.le_refl _) (by repeat' (first| (with_reducible first|exact C1|refine C2 ?_ ?_)| ((with_reducible refine D0 ?_);exact CA rfl)|fail))) ?_);(rintro⟨k,hk,hinv⟩ KL hKL)
  by_cases hlt:k<a.length
  ·repeat' (first| (with_reducible first| (refine hK _ _ _ ?_;clear hK K)| (refine hA ?_;clear hA hB A B)| (refine hB ?_;clear hA hB A B)|refine Z1 ?_|refine Z2 ?_|refine Z3 fun KB hKB=> ?_|refine Z4 (by omega) ?_|refine Z6 (fun h=> ?_) fun h=> ?_)| (with_reducible first|refine Y2 fun K hK=> ?_|refine Y3 fun A B hA hB=> ?_)<;>(simp only[go_sem];try simp (disch:=omega) only[Iw])| ((with_reducible refine Y8 ?_);try simp only[AQ.then,AQ.blk,reduceIte,Nat.reduceEqDiff])| ((with_reducible refine Y0 ?_);simp only[AQ.then,AQ.blk])|refine⟨by omega,?_⟩| (with_reducible refine hKB _ _ _ ?_)|fail)
   ·refine aZ hQ _ rfl rfl (j7 ?_)
    intro he;subst he;simp_all
   · (refine hKL _ _ _ ⟨k+1,by omega,iS hinv (by omega)⟩ (by omega) (by(try dsimp only);omega) (bU (Nat.le_refl _) (by repeat' (first| (with_reducible first|exact C1|refine C2 ?_ ?_)| ((with_reducible refine D0 ?_);exact CA rfl)|fail))))
  ·repeat' (first| (with_reducible first| (refine hK _ _ _ ?_;clear hK K)| (refine hB ?_;clear hA hB A B)|refine Z1 ?_|refine Z5 (by omega) ?_|refine hKX _ _ _ ?_)| (with_reducible first|refine Y2 fun K hK=> ?_|refine Y3 fun A B hA hB=> ?_)<;>(simp only[go_sem])| ((with_reducible first|refine Y8 ?_|refine Y9 ?_);try simp only[AQ.then,AQ.blk,reduceIte,Nat.reduceEqDiff])|fail)
   refine aZ hQ _ rfl rfl (q9 (yO hl fun i hi=>hinv i (by omega)))
 ·repeat' (first| (with_reducible first| (refine hK _ _ _ ?_;clear hK K)| (refine hA ?_;clear hA hB A B)|refine Z1 ?_|refine Z4 (by omega) ?_)| (with_reducible first|refine Y2 fun K hK=> ?_|refine Y3 fun A B hA hB=> ?_)<;>(simp only[go_sem])| ((with_reducible refine Y8 ?_);try simp only[AQ.then,AQ.blk,reduceIte,Nat.reduceEqDiff])|fail)
  refine aZ hQ _ rfl rfl (j7 fun he=>hl (by rw[he]))
theorem tP {a:List Int} {b:List Int} (ha:a.length<2^40) (hb:b.length<2^40) (h:K (dB (decide (a=b))) H nx):aB Tryz.prog jM [dS (a.map aJ),dS (b.map aJ)] H nx K:=
 (VC a b ha hb).pure rfl (aI ⟨aE rfl,aE rfl,trivial⟩) (fun r hr=>hr▸h)
theorem YL (a b:Rsp) (ha:a.data.length<2^40) (hb:b.data.length<2^40):aB Tryz.prog qO [dA (tG a),dA (tG b)] .nil 0 fun rr _ _=>rr.plain=true∧rr=dB (decide (a=b)):=by
 refine UL rfl fun Q hQ=> ?_
 unfold AT
 repeat' (first| (with_reducible first| (refine hK _ _ _ ?_;clear hK K)|refine Z1 ?_)| (first| (with_reducible first|refine Y2 fun K hK=> ?_|refine Y6 (fun h=> ?_) fun h=> ?_)| (with_reducible refine tP ha hb ?_))<;>(simp only[go_sem])| ((with_reducible refine Y8 ?_);try simp only[AQ.then,AQ.blk,reduceIte,Nat.reduceEqDiff])|fail)
 all_goals first|with_reducible refine aZ hQ _ rfl rfl ?_|skip
 all_goals (obtain⟨az9,az2,aAD⟩:=a;obtain⟨b1,b2,b3⟩:=b;dsimp only at*;first|exact q9 (by simp_all)|exact j7 (by simp_all)|exact pD (by simp_all))
theorem W9 {a:Rsp} {b:Rsp} (ha:a.data.length<2^40) (hb:b.data.length<2^40) (h:K (dB (decide (a=b))) H nx):aB Tryz.prog qO [dA (tG a),dA (tG b)] H nx K:=
 (YL a b ha hb).pure rfl (aI ⟨aE rfl,aE rfl,trivial⟩) (fun r hr=>hr▸h)
theorem ajT {l:List Job} {k:Nat} (h:k<l.length):(l.drop k).take (((k:Int)+1).toNat-k)=[l.getD k default]:=by
 rw[show ((k:Int)+1).toNat-k=1 by omega,List.drop_eq_getElem_cons h,List.take_succ_cons,List.take_zero]
 simp[List.getD,h]
theorem VN {a b:Rsp} (ha:a.data.length<2^40) (hb:b.data.length<2^40) (h:K (dB (decide (a=b))) H nx):aB Tryz.prog qO [.one (.agg [cI a.id,cI a.code,.isl (a.data.map aJ)]),.one (.agg [cI b.id,cI b.code,.isl (b.data.map aJ)])] H nx K:=W9 ha hb h
theorem TJ (a b:List Job) (ha:a.length<2^40) (hb:b.length<2^40) (hda: ∀j∈a,j.rsp.data.length<2^40) (hdb: ∀j∈b,j.rsp.data.length<2^40):aB Tryz.prog jN [dS (a.map aS),dS (b.map aS)] .nil 0 fun rr _ _=>rr.plain=true∧rr=dB (decide (a=b)):=by
 refine RW rfl fun Q hQ=> ?_
 unfold xT
 by_cases hl:a.length=b.length
 ·repeat' (first| (with_reducible first| (refine hK _ _ _ ?_;clear hK K)| (refine hB ?_;clear hA hB A B)|refine Z1 ?_|refine Z2 ?_|refine Z3 fun KB hKB=> ?_|refine Z5 (by omega) ?_)| (with_reducible first|refine Y2 fun K hK=> ?_|refine Y3 fun A B hA hB=> ?_)<;>(simp only[go_sem])|fail)
  (have hKX:=hKB;clear hKB);(refine aM.loop (α:={k:Nat//k≤a.length∧(∀i,i<k→a.getD i default=b.getD i default)}) (fun u=>en [(5,dI u.1),(1,dS (b.map aS)),(0,dS (a.map aS))]) (fun _=>.nil) _ (fun u=>a.length-u.1) ⟨0,by omega,(by intros;first|trivial|omega)⟩ (bU (Nat.le_refl _) (by repeat' (first| (with_reducible first|exact C1|refine C2 ?_ ?_)| ((with_reducible refine D0 ?_);exact CA rfl)|fail))) ?_);(rintro⟨k,hk,hinv⟩ KL hKL)
  by_cases hlt:k<a.length
  ·have d1:=hda _ (cC (l:=a) (k:=k) hlt)
   have d2:=hdb _ (cC (l:=b) (k:=k) (by omega))
   have hne: ¬a.getD k default=b.getD k default→¬a=b:=fun h1 h2=>h1 (by rw[h2])
   have heq:(a.getD k default).who=(b.getD k default).who→(a.getD k default).n=(b.getD k default).n→(a.getD k default).rsp=(b.getD k default).rsp→a.getD k default=b.getD k default:=by
    generalize a.getD k default=x
    generalize b.getD k default=y
    obtain⟨x1,x2,x3⟩:=x;obtain⟨y1,y2,y3⟩:=y
    dsimp only;intro h1 h2 h3;subst h1;subst h2;subst h3;rfl
   repeat' (first| (with_reducible first| (refine hK _ _ _ ?_;clear hK K)| (refine hA ?_;clear hA hB A B)| (refine hB ?_;clear hA hB A B)|refine Z1 ?_|refine Z2 ?_|refine Z3 fun KB hKB=> ?_|refine Z4 (by omega) ?_|refine Z6 (fun h=> ?_) fun h=> ?_)| (first| (with_reducible first|refine Y2 fun K hK=> ?_|refine Y3 fun A B hA hB=> ?_|refine Y6 (fun h=> ?_) fun h=> ?_)| (with_reducible refine VN (a:=(a.getD k default).rsp) (b:=(b.getD k default).rsp) d1 d2 ?_))<;>(simp only[go_sem];try simp (disch:=omega) only[Iw])| ((with_reducible refine Y8 ?_);try simp only[AQ.then,AQ.blk,reduceIte,Nat.reduceEqDiff])| ((with_reducible refine Y0 ?_);simp only[AQ.then,AQ.blk])|refine⟨by omega,?_⟩| (with_reducible refine hKB _ _ _ ?_)|fail)
   ·refine aZ hQ _ rfl rfl (j7 (hne fun he=>absurd (congrArg Job.who he) (by assumption)))
   ·refine aZ hQ _ rfl rfl (j7 (hne fun he=>absurd (congrArg Job.n he) (by assumption)))
   ·refine aZ hQ _ rfl rfl (j7 (hne fun he=>absurd (congrArg Job.rsp he) (by assumption)))
   · (refine hKL _ _ _ ⟨k+1,by omega,iS hinv (heq (by omega) (by omega) (Classical.not_not.1 (by assumption)))⟩ (by omega) (by(try dsimp only);omega) (bU (Nat.le_refl _) (by repeat' (first| (with_reducible first|exact C1|refine C2 ?_ ?_)| ((with_reducible refine D0 ?_);exact CA rfl)|fail))))
  ·repeat' (first| (with_reducible first| (refine hK _ _ _ ?_;clear hK K)| (refine hB ?_;clear hA hB A B)|refine Z1 ?_|refine Z5 (by omega) ?_|refine hKX _ _ _ ?_)| (with_reducible first|refine Y2 fun K hK=> ?_|refine Y3 fun A B hA hB=> ?_)<;>(simp only[go_sem])| ((with_reducible first|refine Y8 ?_|refine Y9 ?_);try simp only[AQ.then,AQ.blk,reduceIte,Nat.reduceEqDiff])|fail)
   refine aZ hQ _ rfl rfl (q9 (yO hl fun i hi=>hinv i (by omega)))
 ·repeat' (first| (with_reducible first| (refine hK _ _ _ ?_;clear hK K)| (refine hA ?_;clear hA hB A B)|refine Z1 ?_|refine Z4 (by omega) ?_)| (with_reducible first|refine Y2 fun K hK=> ?_|refine Y3 fun A B hA hB=> ?_)<;>(simp only[go_sem])| ((with_reducible refine Y8 ?_);try simp only[AQ.then,AQ.blk,reduceIte,Nat.reduceEqDiff])|fail)
  refine aZ hQ _ rfl rfl (j7 fun he=>hl (by rw[he]))
theorem AL {a:List Job} {b:List Job} (ha:a.length<2^40) (hb:b.length<2^40) (hda: ∀j∈a,j.rsp.data.length<2^40) (hdb: ∀j∈b,j.rsp.data.length<2^40) (h:K (dB (decide (a=b))) H nx):aB Tryz.prog jN [dS (a.map aS),dS (b.map aS)] H nx K:=
 (TJ a b ha hb hda hdb).pure rfl (aI ⟨aE rfl,aE rfl,trivial⟩) (fun r hr=>hr▸h)
theorem T5 (a b:List Job) (ha:a.length<2^40) (hb:b.length<2^40) (hda: ∀j∈a,j.rsp.data.length<2^40) (hsub: ∀j∈b,j∈a):aB Tryz.prog AW [dS (a.map aS),dS (b.map aS)] .nil 0 fun rr _ _=>rr.plain=true∧rr=dB true:=by
 refine QE rfl fun Q hQ=> ?_
 unfold yA
 repeat' (first| (with_reducible first| (refine hK _ _ _ ?_;clear hK K)|refine Z1 ?_|refine Z3 fun KB hKB=> ?_)| (with_reducible refine Y2 fun K hK=> ?_)<;>(simp only[go_sem])|fail)
 (have hKX:=hKB;clear hKB);(refine aM.loop (α:={k:Nat//k≤b.length∧(True)}) (fun u=>en [(5,dI u.1),(1,dS (b.map aS)),(0,dS (a.map aS))]) (fun _=>.nil) _ (fun u=>b.length-u.1) ⟨0,by omega,(by intros;first|trivial|omega)⟩ (bU (Nat.le_refl _) (by repeat' (first| (with_reducible first|exact C1|refine C2 ?_ ?_)| ((with_reducible refine D0 ?_);exact CA rfl)|fail))) ?_);(rintro⟨k,hk,hinv⟩ KL hKL)
 by_cases hlt:k<b.length
 ·have hm:=hsub _ (cC (l:=b) (k:=k) hlt)
  have d2:=hda _ hm
  have o2:=ajT hlt
  obtain⟨i,hi,hia⟩: ∃i,i<a.length∧a.getD i default=b.getD k default:=by
   obtain⟨i,hi,h⟩:=List.getElem_of_mem hm
   exact⟨i,hi,by simpa [List.getD,hi] using h⟩
  generalize b.getD k default=x at*
  have cj: ∀{H:aA} {nx:Nat} {K:D→aA→Nat→Prop} {j:Nat},j<a.length→K (dB (decide (a.getD j default=x))) H nx→aB Tryz.prog jN [dS (((a.drop j).take (((j:Int)+1).toNat-j)).map aS),dS (((b.drop k).take (((k:Int)+1).toNat-k)).map aS)] H nx K:=fun {H nx K j} hj h=>by
   rw[ajT hj,o2]
   have d1:=hda _ (cC (l:=a) (k:=j) hj)
   refine AL (a:=[a.getD j default]) (b:=[x]) (by simp) (by simp) (by simpa using d1) (by simpa using d2) ?_
   simpa using h
  repeat' (first| (with_reducible first| (refine hK _ _ _ ?_;clear hK K)| (refine hA ?_;clear hA hB A B)|refine Z1 ?_|refine Z2 ?_|refine Z3 fun KB hKB=> ?_|refine Z4 (by omega) ?_)| (with_reducible first|refine Y2 fun K hK=> ?_|refine Y3 fun A B hA hB=> ?_)<;>(simp only[go_sem])|fail)
  (have hKY:=hKB;clear hKB)
  refine aM.sG 0 (β:=Nat×Bool) (fun _ u=>en [(7,dI u.1),(6,dB u.2),(5,dI k),(1,dS (b.map aS)),(0,dS (a.map aS))]) (fun _ _=>.nil) (fun u=>u.1≤a.length∧(i<u.1→u.2=true)) (fun u=>a.length-u.1) (0,false) (bU (Nat.le_refl _) (by repeat' (first| (with_reducible first|exact C1|refine C2 ?_ ?_)| ((with_reducible refine D0 ?_);exact CA rfl)|fail))) ⟨by omega,by intro h;dsimp only at h;omega⟩ ?_
  rintro⟨j,f⟩ ⟨hj,hf⟩ KJ hKJ
  dsimp only at hj hf
  by_cases hlj:j<a.length
  ·cases f
   ·repeat' (first| (with_reducible first| (refine hK _ _ _ ?_;clear hK K)| (refine hA ?_;clear hA hB A B)|refine Z1 ?_|refine Z2 ?_|refine Z3 fun KB hKB=> ?_|refine Z4 (by omega) ?_)| (first| (with_reducible first|refine Y2 fun K hK=> ?_|refine Y3 fun A B hA hB=> ?_)| (refine cj hlj ?_))<;>(simp only[go_sem];try simp (disch:=omega) only[Iw])| ((with_reducible refine Y0 ?_);simp only[AQ.then,AQ.blk])|refine⟨by omega,?_⟩| (with_reducible refine hKB _ _ _ ?_)|fail)
    refine hKJ _ _ _ (j+1,decide (a.getD j default=x)) (by omega) (bU (by omega) (by repeat' (first| (with_reducible first|exact C1|refine C2 ?_ ?_)| ((with_reducible refine D0 ?_);exact CA rfl)|fail))) ⟨by dsimp only;omega,fun h=> ?_⟩ (by dsimp only;omega)
    dsimp only at h ⊢
    have:i=j:=by by_cases h2:i<j;exact absurd (hf h2) (by decide);omega
    subst this;simpa using hia
   ·repeat' (first| (with_reducible first| (refine hK _ _ _ ?_;clear hK K)| (refine hA ?_;clear hA hB A B)|refine Z1 ?_|refine Z2 ?_|refine Z3 fun KB hKB=> ?_|refine Z4 (by omega) ?_)| (with_reducible first|refine Y2 fun K hK=> ?_|refine Y3 fun A B hA hB=> ?_)<;>(simp only[go_sem];try simp (disch:=omega) only[Iw])| ((with_reducible refine Y0 ?_);simp only[AQ.then,AQ.blk])| (with_reducible refine hKB _ _ _ ?_)|fail)
    exact hKJ _ _ _ (j+1,true) (by omega) (bU (by omega) (by repeat' (first| (with_reducible first|exact C1|refine C2 ?_ ?_)| ((with_reducible refine D0 ?_);exact CA rfl)|fail))) ⟨by dsimp only;omega,fun _=>rfl⟩ (by dsimp only;omega)
  ·have:=hf (by omega)
   subst this
   repeat' (first| (with_reducible first| (refine hK _ _ _ ?_;clear hK K)| (refine hB ?_;clear hA hB A B)|refine Z1 ?_|refine Z2 ?_|refine Z5 (by omega) ?_|refine hKY _ _ _ ?_)| (with_reducible first|refine Y2 fun K hK=> ?_|refine Y3 fun A B hA hB=> ?_)<;>(simp only[go_sem];try simp (disch:=omega) only[Iw])| ((with_reducible refine Y9 ?_);try simp only[AQ.then,AQ.blk,reduceIte,Nat.reduceEqDiff])| ((with_reducible refine Y0 ?_);simp only[AQ.then,AQ.blk])| (with_reducible refine hKB _ _ _ ?_)|fail)
   (refine hKL _ _ _ ⟨k+1,by omega,trivial⟩ (by omega) (by(try dsimp only);omega) (bU (Nat.le_refl _) (by repeat' (first| (with_reducible first|exact C1|refine C2 ?_ ?_)| ((with_reducible refine D0 ?_);exact CA rfl)|fail))))
 ·repeat' (first| (with_reducible first| (refine hK _ _ _ ?_;clear hK K)| (refine hB ?_;clear hA hB A B)|refine Z1 ?_|refine Z5 (by omega) ?_|refine hKX _ _ _ ?_)| (with_reducible first|refine Y2 fun K hK=> ?_|refine Y3 fun A B hA hB=> ?_)<;>(simp only[go_sem])| ((with_reducible first|refine Y8 ?_|refine Y9 ?_);try simp only[AQ.then,AQ.blk,reduceIte,Nat.reduceEqDiff])|fail)
  exact aZ hQ _ rfl rfl rfl
theorem anG {a:List Job} {b:List Job} (ha:a.length<2^40) (hb:b.length<2^40) (hda: ∀j∈a,j.rsp.data.length<2^40) (hsub: ∀j∈b,j∈a) (h:K (dB true) H nx):aB Tryz.prog AW [dS (a.map aS),dS (b.map aS)] H nx K:=
 (T5 a b ha hb hda hsub).pure rfl (aI ⟨aE rfl,aE rfl,trivial⟩) (fun r hr=>hr▸h)
theorem XD (a b u v:List Int) (ha:a.length<2^40) (hb:b.length<2^40) (hu:u.length<2^40) (hv:v.length<2^40):aB Tryz.prog wK [.one (.agg [.isl (a.map aJ),.isl (b.map aJ)]),.one (.agg [.isl (u.map aJ),.isl (v.map aJ)])] .nil 0 fun rr _ _=>rr.plain=true∧rr=dB (decide (a=u∧b=v)):=by
 refine UZ rfl fun Q hQ=> ?_
 unfold zY
 repeat' (first| (with_reducible first| (refine hK _ _ _ ?_;clear hK K)|refine Z1 ?_)| (first| (with_reducible first|refine Y2 fun K hK=> ?_|refine Y6 (fun h=> ?_) fun h=> ?_)| (with_reducible refine tP ha hu ?_)| (with_reducible refine tP hb hv ?_))<;>(simp only[go_sem])| ((with_reducible refine Y8 ?_);try simp only[AQ.then,AQ.blk,reduceIte,Nat.reduceEqDiff])|fail)
 all_goals first|with_reducible refine aZ hQ _ rfl rfl ?_|skip
 all_goals first|exact q9 (by simp_all)|exact j7 (by simp_all)|exact pD (by simp_all)
theorem YN {a:List Int} {b:List Int} {u:List Int} {v:List Int} (ha:a.length<2^40) (hb:b.length<2^40) (hu:u.length<2^40) (hv:v.length<2^40) (h:K (dB (decide (a=u∧b=v))) H nx):aB Tryz.prog wK [.one (.agg [.isl (a.map aJ),.isl (b.map aJ)]),.one (.agg [.isl (u.map aJ),.isl (v.map aJ)])] H nx K:=
 (XD a b u v ha hb hu hv).pure rfl (aI ⟨aE rfl,aE rfl,trivial⟩) (fun r hr=>hr▸h)
end
end Go.Proofs.YtegiblhkjfiooaaGreat
end
section
namespace Go.Proofs.YtegiblhkjfiooaaGreat
open Go Go.AM
set_option maxRecDepth 100000
def av4:AC:=
 (.seq (.region [rq 0 2 (.box true (.tm 0)),
 rq 1 3 (.box true (.tm 1)),
 rq 2 4 (.move (.kv (.bool false)))] 3 [2,3])
 (.seq (.region [RF 0 5 0 2,
 rq 1 6 (.load 2 true (.tm 5)),
 RF 2 7 0 3,
 rq 3 8 (.load 2 true (.tm 7)),
 rq 4 9 (.call wK [(.tm 6),(.tm 8)]),
 RM 5 10 9,
 GQ 6 11 (.fld 2 (.tm 2)) 10 true,
 GQ 7 12 (.load 1 false (.tm 11)) 10 true,
 GQ 8 13 (.fld 2 (.tm 3)) 10 true,
 GQ 9 14 (.load 1 false (.tm 13)) 10 true,
 GQ 10 15 (.call jM [(.tm 12),(.tm 14)]) 10 true,
 rq 11 16 (.pick (.tm 10) (.tm 15) (.kv (.bool false))),
 RM 12 17 16,
 GQ 13 18 (.fld 3 (.tm 2)) 17 true,
 GQ 14 19 (.load 1 false (.tm 18)) 17 true,
 GQ 15 20 (.fld 3 (.tm 3)) 17 true,
 GQ 16 21 (.load 1 false (.tm 20)) 17 true,
 GQ 17 22 (.call jN [(.tm 19),(.tm 21)]) 17 true,
 rq 18 23 (.pick (.tm 17) (.tm 22) (.kv (.bool false))),
 RM 19 24 23,
 GQ 20 25 (.fld 4 (.tm 2)) 24 true,
 GQ 21 26 (.load 1 false (.tm 25)) 24 true,
 GQ 22 27 (.fld 4 (.tm 3)) 24 true,
 GQ 23 28 (.load 1 false (.tm 27)) 24 true,
 GQ 24 29 (.call jN [(.tm 26),(.tm 28)]) 24 true,
 rq 25 30 (.pick (.tm 24) (.tm 29) (.kv (.bool false))),
 RM 26 31 30,
 GQ 27 32 (.fld 5 (.tm 2)) 31 true,
 GQ 28 33 (.load 1 false (.tm 32)) 31 true,
 GQ 29 34 (.fld 5 (.tm 3)) 31 true,
 GQ 30 35 (.load 1 false (.tm 34)) 31 true,
 GQ 31 36 (.call jN [(.tm 33),(.tm 35)]) 31 true,
 rq 32 37 (.pick (.tm 31) (.tm 36) (.kv (.bool false))),
 RM 33 4 37] 34 [4])
 .ret))
def ayQ:List Cert:=[⟨[],[2,3]⟩,⟨[],[4]⟩]
def aw2:List aW:=[.tm 4]
theorem ayU:aO Tryz.prog Tryz.f38 ayQ=some (av4,aw2):=by kernel_rfl
theorem ayR:aN Tryz.prog au9 Tryz.f38 av4 aw2:=
 aN.mk Tryz.func38 (by kernel_rfl) ayU
end Go.Proofs.YtegiblhkjfiooaaGreat
end
section
namespace Go.Proofs.YtegiblhkjfiooaaGreat
open Go Go.AM
set_option maxRecDepth 100000
set_option maxHeartbeats 8000000
section
variable {H : aA} {nx : Nat} {K : D → aA → Nat → Prop}
theorem ayX (s:TSt) (hw:s.words.length<2^40) (hh:s.holds.length<2^40) (ha:s.asked.length<2^40) (h1:s.wait.length<2^40) (h2:s.done.length<2^40) (h3:s.told.length<2^40) (hd: ∀j∈s.wait++s.done++s.told,j.rsp.data.length<2^40):aB Tryz.prog au9 [dA (eSt s),dA (eSt s)] .nil 0 fun rr _ _=>rr.plain=true∧rr=dB true:=by
 refine ayR rfl fun Q hQ=> ?_
 unfold av4
 have hd1:=fun j (hj:j∈s.wait)=>hd j (by simp[hj])
 have hd2:=fun j (hj:j∈s.done)=>hd j (by simp[hj])
 have hd3:=fun j (hj:j∈s.told)=>hd j (by simp[hj])
 repeat' (first| (with_reducible first| (refine hK _ _ _ ?_;clear hK K)| (refine hA ?_;clear hA hB A B)| (refine hB ?_;clear hA hB A B)|refine Z1 ?_|refine Z2 ?_|refine Z3 fun KB hKB=> ?_|refine Z4 (by omega) ?_|refine Z5 (by omega) ?_|refine Z6 (fun h=> ?_) fun h=> ?_|refine Z7 (fun h=> ?_) fun h=> ?_|refine fun(cap:Nat) (hcap:_≤cap)=> ?_|refine fun(hcp:_≤cap)=> ?_|refine fun(b:Bool)=> ?_|refine hKX _ _ _ ?_|refine hKY _ _ _ ?_|refine hKZ _ _ _ ?_)| (first| (with_reducible first|refine Y1 fun K hK=> ?_|refine Y2 fun K hK=> ?_|refine Y3 fun A B hA hB=> ?_|refine Y4 (by omega) ?_|refine Y5 (by omega) ?_|refine Y6 (fun h=> ?_) fun h=> ?_| (refine Y7 (fun h=> ?_) (fun h=> ?_)<;>try subst h))| (refine YN (a:=s.words) (b:=s.holds) (u:=s.words) (v:=s.holds) hw hh hw hh ?_)| (refine tP ha ha ?_)| (refine AL h1 h1 hd1 hd1 ?_)| (refine AL h2 h2 hd2 hd2 ?_)| (refine AL h3 h3 hd3 hd3 ?_))<;>(simp only[go_sem];try simp (disch:=omega) only[Iw])| ((with_reducible first|refine Y8 ?_|refine Y9 ?_);try simp only[AQ.then,AQ.blk,reduceIte,Nat.reduceEqDiff])| ((with_reducible refine Y0 ?_);simp only[AQ.then,AQ.blk])| ((with_reducible refine Z8 (fun h=> ?_) (fun h=> ?_))<;>try subst h)|refine⟨by omega,?_⟩| (refine⟨by(rw[List.length_take];omega),?_⟩)| (with_reducible first|refine hKB _ _ _ ?_| (clear hKB KB;refine hKB _ _ _ ?_)| (clear hKB KB;clear hKB KB;refine hKB _ _ _ ?_))|fail)
 all_goals exact aZ hQ _ rfl rfl rfl
theorem ayZ {s:TSt} (hw:s.words.length<2^40) (hh:s.holds.length<2^40) (ha:s.asked.length<2^40) (h1:s.wait.length<2^40) (h2:s.done.length<2^40) (h3:s.told.length<2^40) (hd: ∀j∈s.wait++s.done++s.told,j.rsp.data.length<2^40) (h:K (dB true) H nx):aB Tryz.prog au9 [dA (eSt s),dA (eSt s)] H nx K:=
 (ayX s hw hh ha h1 h2 h3 hd).pure rfl (aI ⟨aE rfl,aE rfl,trivial⟩) (fun r hr=>hr▸h)
end
end Go.Proofs.YtegiblhkjfiooaaGreat
end
section
namespace Go.Proofs.YtegiblhkjfiooaaGreat
open Go Go.AM
set_option maxRecDepth 100000
set_option maxHeartbeats 8000000
theorem aw9:cJ Tryz.prog av0 Tryz.f8 auY avX:=cJ.mk Tryz.func8 (by kernel_rfl) aw6
theorem azC (l:List Int) (hby: ∀x∈l,0≤x∧x<256):aB Tryz.prog av0 [dS (l.map eU8)] .nil 0 fun rr _ _=>rr.plain=true∧rr=dB true:=by
 refine aw9 rfl fun Q hQ=> ?_
 unfold auY
 by_cases hbig:l.length≤1048576
 case neg=>
  repeat' (first| (with_reducible first| (refine hK _ _ _ ?_;clear hK K)| (refine hA ?_;clear hA hB A B)|refine Z1 ?_|refine Z4 (by omega) ?_)| (with_reducible first|refine Y2 fun K hK=> ?_|refine Y3 fun A B hA hB=> ?_)<;>(simp only[go_sem])| ((with_reducible refine Y8 ?_);try simp only[AQ.then,AQ.blk,reduceIte,Nat.reduceEqDiff])|fail)
  exact hQ _ _ _ _ _ (.inr rfl) rfl ⟨rfl,rfl⟩
 have hl:kZ l:=⟨by omega,hby⟩
 repeat' (first| (with_reducible first| (refine hK _ _ _ ?_;clear hK K)| (refine hB ?_;clear hA hB A B)|refine Z1 ?_|refine Z2 ?_|refine Z5 (by omega) ?_)| (first| (with_reducible first|refine Y2 fun K hK=> ?_|refine Y3 fun A B hA hB=> ?_)| (refine ajF hl (fun c xs hb hf hxl hxo=> ?_))| (refine anF hb hf (by omega) hxo (fun H1 nx1 hx1 ffr1=> ?_)))<;>(simp only[go_sem])|fail)
 have e9:=(ffr1 9 (by omega)).trans (show _=some ⟨3,1,[cU c]⟩ from rfl)
 obtain⟨S,hS⟩: ∃S,S=sQ c HY xs:=⟨_,rfl⟩
 rw[←hS]
 simp only[go_sem,e9]
 repeat' (first| (refine UC (fun H2 nx2 hx2 ffr2=> ?_))<;>(simp only[go_sem,e9])|fail)
 have f9:=(ffr2 9 (by omega)).trans ((aA.aC (by omega)).trans e9)
 have f15:=(ffr2 15 (by omega)).trans aA.bH
 refine⟨fun _=>by rw[f9];rfl,?_⟩
 refine axS hb hf (anK c) (by omega) hxo fun H3 nx3 hx3 ffr3=> ?_
 have g9:=(ffr3 9 (by omega)).trans f9
 have g15:=(ffr3 15 (by omega)).trans f15
 obtain⟨E,hE⟩: ∃E,E=RJ c HY xs:=⟨_,rfl⟩
 have hp:F9 c st0 E:=by rw[hE,←amS];exact(afM hb (anK c)).2.2
 have hEl:E.length≤108:=azG hb hp
 have hrun:runM c st0 E=cX S:=by rw[hE,hS,←amS];exact((afM hb (anK c)).2.1).symm
 have hSk:COk c S:=by rw[hS];exact(afM hb (anK c)).1
 rw[←hE]
 clear hE hS ffr1 ffr2 ffr3 e9 f9 f15
 obtain⟨s0,hs0⟩: ∃s0,s0=st0:=⟨_,rfl⟩
 obtain⟨T,aAI⟩: ∃T,T=cX S:=⟨_,rfl⟩
 have hTk:BA c T:=aAI▸hSk.st
 have htn: ∀{H:aA} {nx:Nat} {K:D→aA→Nat→Prop},K (dA (eSt s0)) H nx→aB Tryz.prog auX [] H nx K:=fun h=>by subst hs0;exact ayO h
 have htr: ∀{H:aA} {nx:Nat} {K:D→aA→Nat→Prop},K (.tup [.agg (eSt T),.c (cI E.length)]) H nx→aB Tryz.prog auW [dA (cU c),dA (eSt s0),dS (E.map eEv)] H nx K:=fun h=>by subst hs0;exact ayB hb hf (by omega) hp (by rw[hrun,←aAI];exact h)
 have hab: ∀{H:aA} {nx:Nat} {K:D→aA→Nat→Prop},(∀H' nx',nx≤nx'→(∀id,id<nx→H' id=H id)→K (dA (eSt T)) H' nx')→aB Tryz.prog zX [dA (eI S)] H nx K:=fun h=>by subst aAI;exact T0 hb hSk h
 have hcr: ∀{H:aA} {nx:Nat} {K:D→aA→Nat→Prop},K (dB true) H nx→aB Tryz.prog au9 [dA (eSt T),dA (eSt T)] H nx K:=fun h=>by
  have hls:=hTk.lens hb
  have hwl:=hTk.atm.wl
  have hhl:=hTk.atm.hl
  have hal:=hTk.JI
  refine ayZ (by omega) (by omega) (by omega) (by omega) (by omega) (by omega) (fun j hj=> ?_) h
  simp only[List.mem_append] at hj
  rcases hj with(hj|hj)|hj
  ·rw[hTk.P4 j hj];decide
  ·have:=(hTk.R8 j (List.mem_append_left _ hj)).1.2.2.1;omega
  ·have:=(hTk.R8 j (List.mem_append_right _ hj)).1.2.2.1;omega
 have hao: ∀{H:aA} {nx:Nat} {K:D→aA→Nat→Prop},K (.tup [.agg [.isl (S.words.map aJ),.isl (S.holds.map aJ)],.c (.isl ((av5 c E E.length).map aS))]) H nx→aB Tryz.prog auL [dA (cU c),dS (E.map eEv)] H nx K:=fun h=>axP hb hf hp hEl (by rw[hrun];exact h)
 have hca: ∀{H:aA} {nx:Nat} {K:D→aA→Nat→Prop},K (dB true) H nx→aB Tryz.prog wK [.one (.agg [.isl (S.words.map aJ),.isl (S.holds.map aJ)]),.one (.agg [.isl (S.words.map aJ),.isl (S.holds.map aJ)])] H nx K:=fun h=>by
  have hwl:=hSk.atm.wl
  have hhl:=hSk.atm.hl
  exact YN (by omega) (by omega) (by omega) (by omega) (by simpa using h)
 have hpm:=azM hp E.length (Nat.le_refl _)
 rw[List.take_length,hrun] at hpm
 have h2: ∀j∈av5 c E E.length,j.rsp.data.length<2^40:=fun j hj=>by
  have:=(hSk.st.R8 j ((hpm.mem_iff).1 hj)).1.2.2.1
  omega
 have h3: ∀j∈S.told,j∈av5 c E E.length:=fun j hj=>(hpm.mem_iff).2 (List.mem_append_right _ hj)
 have h4:(av5 c E E.length).length<2^40:=by have:=azB (c:=c) (es:=E) E.length;omega
 have h5:S.told.length<2^40:=by
  have:=hSk.st.lens hb
  have h6:(cX S).told=S.told:=rfl
  rw[h6] at this
  omega
 generalize av5 c E E.length=out at*
 clear hpm hrun hp
 have a6:msk nx3 [7] H3 9=some ⟨3,1,[cU c]⟩:=by unfold msk;rw[if_neg (by simp;omega)];exact g9
 have n2:(nx3=2)=False:=eq_false (by omega)
 have aAJ:(nx3=8)=False:=eq_false (by omega)
 simp only[go_sem,a6]
 repeat' (first| (with_reducible first| (refine hK _ _ _ ?_;clear hK K)|refine Z1 ?_)| (first| (with_reducible refine Y2 fun K hK=> ?_)| (refine htn ?_)| (refine htr ?_)| (refine C5 hb hf hSk ?_)| (refine hab (fun H4 nx4 hx4 ffr4=> ?_)))<;>(simp only[go_sem,a6,g9,g15,n2,aAJ,umB,umS,umM,muM,Nat.add_eq_left,Nat.left_eq_add])|fail)
 have a7:=(ffr4 9 (by omega)).trans ((aA.aC (by omega)).trans g9)
 have q15:=(ffr4 15 (by omega)).trans ((aA.aC (by omega)).trans g15)
 have q7:=(ffr4 (nx3+7) (by omega)).trans aA.bH
 refine⟨fun _=>by rw[q7];rfl,?_⟩
 refine hcr ?_
 have p0:(nx4=9)=False:=eq_false (by omega)
 have p1:(nx4=15)=False:=eq_false (by omega)
 have p2:nx4+6≠15:=by omega
 simp only[go_sem,a7]
 repeat' (first| (with_reducible first| (refine hK _ _ _ ?_;clear hK K)| (refine hB ?_;clear hA hB A B)|refine Z1 ?_|refine Z2 ?_)| (first| (with_reducible first|refine Y2 fun K hK=> ?_|refine Y3 fun A B hA hB=> ?_)| (refine hao ?_)| (refine hca ?_)| (refine anG h4 h5 h2 h3 ?_))<;>(simp only[go_sem,a7,q15,n2,aAJ,p0,p1])| ((with_reducible refine Y8 ?_);try simp only[AQ.then,AQ.blk,reduceIte,Nat.reduceEqDiff])|fail)
 exact hQ _ _ _ _ _ (.inr rfl) rfl ⟨rfl,rfl⟩
end Go.Proofs.YtegiblhkjfiooaaGreat
end
section
namespace Go.AM
open Go.RowKit
def asV (k:IntKind) (w:World) (a:Option Addr) (len cap:Nat) (zs:List Int):Prop:=
 (a=none∧len=0∧cap=0∧zs=[])∨
 ∃x,a=some x∧len≤cap∧cap≤maxLen∧zs.length=cap∧(∀i,i<zs.length→w.cell? (x.add i)=some (.int k (zs.getD i 0)))∧ ∀n∈zs,(Lit.int k n).wf=true
theorem abA {P:Program} {f:FuncId} {l:List Int} {w:World} {v:Value} {I:Nat→Prop} (h:aB P f [dS (l.map eU8)] .nil 0 fun rr _ _=>rr.plain=true∧rr=dB true) (hI: ∀b,I b→b<w.heap.size) (hv:Imm I w (.isl (l.map eU8)) v):
 Calls P f #[v] w fun e w'=>e= .returned (.bool true)∧Below w.heap.size w w':=by
 have hno: ∀b,¬uG ⟨fun _=>(0,0),fun _=>False,I,w⟩ .nil b:=by rintro b ⟨id,o,h,_⟩;cases h
 have hst:St ⟨fun _=>(0,0),fun _=>False,I,w⟩ .nil:=⟨fun id o h=>(by cases h),fun id o h=>(by cases h),fun id o h=>(by cases h),fun id o i j r d h=>(by cases h),fun id id' o o' h=>(by cases h),fun id o h=>(by cases h),hI⟩
 refine(h.2 ⟨fun _=>(0,0),fun _=>False,I,w⟩ [v] hst (fun i hi=>hi.elim) rfl (fun i d u h1 h2=> ?_)).mono ?_
 ·match i with
  |0=>simp at h1 h2;subst h1;subst h2;exact hv
  |i+1=>simp at h1
 ·rintro x w' ⟨u,c',r,H',nx',rfl,rfl,p1,p2,p3,p4,p5,p6,rfl⟩
  have hu:u= .bool true:=by
   simp only[fD,jZ,Rel,bY] at p5
   cases p5;rfl
  subst hu
  exact⟨rfl,p2.os,p2.tape,p2.output,p2.size,fun k hk=>p2.frame k hk (hno k)⟩
theorem atQ {P:Program} {f:FuncId} (h: ∀l:List Int,(∀x∈l,0≤x∧x<256)→aB P f [dS (l.map eU8)] .nil 0 fun rr _ _=>rr.plain=true∧rr=dB true) (az5:Option Addr) (len0 cap0:Nat) (z0:List Int) (w:World) (w0:asV .u8 w az5 len0 cap0 z0):
 Calls P f #[.slice az5 len0 cap0] w fun e w'=>e= .returned (.bool true)∧Below w.heap.size w w':=by
 rcases w0 with⟨rfl,rfl,rfl,rfl⟩|⟨x,rfl,hl,hm,hz,hc,hw⟩
 ·refine abA (I:=fun _=>False) (h [] (fun x hx=>by cases hx)) (fun b hb=>hb.elim) ?_
  exact .isl [] none 0 1 0 0 (fun _ _=>.int .u8 0) (fun h=>absurd rfl h) (Nat.le_refl _) (fun i r h=>by simp at h) (fun i j r d h=>by simp at h) (fun i j r d h=>by simp at h)
 ·have hlt:(z0.take len0).length=len0:=by simp;omega
  have hby: ∀y∈z0.take len0,0≤y∧y<256:=fun y hy=>by
   have:=bounds_u8 (hw y (List.take_subset _ _ hy));omega
  refine abA (I:=fun b=>b=x.block∧0<len0) (h (z0.take len0) hby) (fun b hb=> ?_) ?_
  ·obtain⟨rfl,h0⟩:=hb
   have:=World.block_lt_of_cell? w _ (hc 0 (by omega))
   simpa [Addr.add] using this
  ·have key:=Imm.isl (I:=fun b=>b=x.block∧0<len0) (w:=w) ((z0.take len0).map eU8) (some x) cap0 1 x.block x.off (fun i _=>.int .u8 (z0.getD i 0)) (fun hne=> ?_) (by simp;omega) (fun i r hr=> ?_) (fun i j r d hr hd=> ?_) (fun i j r d hr hd=> ?_)
   ·rw[List.length_map,hlt] at key;exact key
   ·have h0:0<len0:=by
     rcases Nat.eq_zero_or_pos len0 with h0|h0
     ·subst h0;exact absurd (by simp) hne
     ·exact h0
    have hsp:=World.cell?_spot (hc 0 (by omega))
    refine⟨?_,rfl,h0⟩
    obtain⟨b,o,s⟩:=x
    simp only[Addr.add,if_true] at hsp
    subst hsp
    rfl
   ·obtain⟨y,_,rfl⟩:=List.mem_map.1 (List.mem_of_getElem? hr)
    rfl
   ·rw[List.getElem?_map] at hr
    obtain⟨y,hy,rfl⟩:=Option.map_eq_some_iff.1 hr
    match j with
    |0=>
     have hi:i<len0:=by have:=(List.getElem?_eq_some_iff.1 hy).1;omega
     have h1:=hc i (by omega)
     have hsp:=World.cell?_spot (hc 0 (by omega))
     obtain⟨b,o,s⟩:=x
     simp only[Addr.add,if_true] at hsp
     subst hsp
     have e:(Addr.mk b o none).add i=⟨b,o+(i*1+0),none⟩:=by
      unfold Addr.add
      split
      ·rename_i h;subst h;simp
      ·simp
     rw[e] at h1
     exact h1
    |j+1=>simp[eU8] at hd
   ·rw[List.getElem?_map] at hr
    obtain⟨y,hy,rfl⟩:=Option.map_eq_some_iff.1 hr
    match j with
    |0=>
     simp only[eU8,List.getElem?_cons_zero,Option.some.injEq] at hd
     subst hd
     have hyz:y=z0.getD i 0:=by
      rw[List.getElem?_take] at hy
      split at hy
      ·simp[List.getD,hy]
      ·cases hy
     subst hyz
     exact .v _ rfl
    |j+1=>simp[eU8] at hd
end Go.AM
end
