/- Texts laid together by a program: rules, contracts and the walk that leads to the law. -/
import Derived.Test.YtegiblhkjfiooaaGreatPp3
import Derived.Test.YtegiblhkjfiooaaGreatPp7
import Derived.Test.YtegiblhkjfiooaaGreatPp10
import Derived.Test.YtegiblhkjfiooaaGreatPp17
import Derived.Test.YtegiblhkjfiooaaGreatPp18
set_option linter.unusedVariables false
set_option linter.unusedSimpArgs false
set_option linter.unusedSectionVars false
section
namespace Go.Proofs.YtegiblhkjfiooaaGreat
open Go Go.AM
set_option maxRecDepth 100000
def aBO:AC:=
 (.seq (.region [rq 0 2 (.move (.kv (.bool false)))] 1 [0])
 (.seq (.seq (.region [RM 0 6 0,
 rq 1 7 (.len false (.tm 6)),
 rq 2 8 (.bin .gtr (.tm 7) (ki 4))] 3 [0,8])
 (.cond (.tm 8)
 (.seq (.region [rq 0 2 (.move (.kv (.bool false)))] 1 [2])
 .ret)
 .skip))
 (.seq (.seq (.region [rq 0 3 (.move (ki 0))] 1 [0,3])
 (.block 0
 (.loop
 (.seq (.seq (.region [RM 0 9 3,
 RM 1 10 0,
 rq 2 11 (.len false (.tm 10)),
 rq 3 12 (.bin .lss (.tm 9) (.tm 11))] 4 [0,3,12])
 (.cond (.tm 12)
 .skip
 (.exit 0)))
 (.seq (.block 1
 (.seq (.region [RM 0 15 0,
 RM 1 16 3,
 rq 2 17 (.idx 4 (.tm 15) (.tm 16)),
 rq 3 18 (.load 4 true (.tm 17)),
 rq 4 4 (.alloc [VZ,VZ,VZ,(.v (.bool false))]),
 rn 5 (.store 4 true (.tm 4) (.tm 18))] 6 [0,3,4])
 (.seq (.seq (.region [RF 0 19 0 4,
 RL 1 20 19,
 RF 2 21 1 4,
 RL 3 22 21,
 rq 4 23 (.call y2 [(.tm 20),(ki 0),(.tm 22)]),
 rq 5 24 (.un .not (.tm 23)),
 RM 6 25 24,
 GQ 7 26 (.fld 1 (.tm 4)) 25 false,
 GQ 8 27 (.load 1 false (.tm 26)) 25 false,
 GQ 9 28 (.bin .gtr (.tm 27) (ki 63)) 25 false,
 rq 10 29 (.pick (.tm 25) (.kv (.bool true)) (.tm 28)),
 RM 11 30 29,
 GQ 12 31 (.fld 2 (.tm 4)) 30 false,
 GQ 13 32 (.load 1 false (.tm 31)) 30 false,
 GQ 14 33 (.call y2 [(.tm 32),(ki 0),(ki 2)]) 30 false,
 GQ 15 34 (.un .not (.tm 33)) 30 false,
 rq 16 35 (.pick (.tm 30) (.kv (.bool true)) (.tm 34))] 17 [0,3,4,35])
 (.cond (.tm 35)
 (.seq (.region [rq 0 2 (.move (.kv (.bool false)))] 1 [2])
 .ret)
 .skip))
 (.seq (.region [rq 0 5 (.move (ki 0))] 1 [0,3,4,5])
 (.block 2
 (.loop
 (.seq (.seq (.region [RM 0 36 5,
 RM 1 37 3,
 rq 2 38 (.bin .lss (.tm 36) (.tm 37))] 3 [0,3,4,5,38])
 (.cond (.tm 38)
 .skip
 (.exit 2)))
 (.seq (.block 3
 (.seq (.region [RF 0 41 0 4,
 RL 1 42 41,
 RM 2 43 0,
 RM 3 44 5,
 rq 4 45 (.idx 4 (.tm 43) (.tm 44)),
 RF 5 46 1 45,
 RL 6 47 46,
 rq 7 48 (.bin .leq (.tm 42) (.tm 47)),
 RM 8 49 48,
 GQ 9 50 (.move (.tm 0)) 49 true,
 GQ 10 51 (.move (.tm 5)) 49 true,
 GQ 11 52 (.idx 4 (.tm 50) (.tm 51)) 49 true,
 GQ 12 53 (.fld 0 (.tm 52)) 49 true,
 GQ 13 54 (.load 1 false (.tm 53)) 49 true,
 GQ 14 55 (.fld 1 (.tm 4)) 49 true,
 GQ 15 56 (.load 1 false (.tm 55)) 49 true,
 GQ 16 57 (.bin .leq (.tm 54) (.tm 56)) 49 true,
 rq 17 58 (.pick (.tm 49) (.tm 57) (.kv (.bool false)))] 18 [0,3,4,5,58])
 (.cond (.tm 58)
 (.seq (.region [rq 0 2 (.move (.kv (.bool false)))] 1 [2])
 .ret)
 .skip)))
 (.region [RM 0 39 5,
 rq 1 40 (.bin .add (.tm 39) (ki 1)),
 RM 2 5 40] 3 [0,3,4,5])))))))))
 (.region [RM 0 13 3,
 rq 1 14 (.bin .add (.tm 13) (ki 1)),
 RM 2 3 14] 3 [0,3]))))))
 (.seq (.region [rq 0 2 (.move (.kv (.bool true)))] 1 [2])
 .ret))))
def aDQ:List Cert:=[⟨[],[0]⟩,⟨[],[0,8]⟩,⟨[],[2]⟩,⟨[],[0,3]⟩,⟨[],[0,3,12]⟩,⟨[],[0,3,4]⟩,⟨[],[0,3,4,35]⟩,⟨[],[2]⟩,⟨[],[0,3,4,5]⟩,⟨[],[0,3,4,5,38]⟩,⟨[cz 0,cz 1,cz 2,cz 3,cz 4,cz 5,cz 6,cz 7,cz 8,cz 9,cz 10,cz 11,cz 12,cz 13,cz 14,cz 15,cz 16,cz 17],[0,3,4,5,58]⟩,⟨[],[2]⟩,⟨[],[0,3,4,5]⟩,⟨[],[0,3]⟩,⟨[],[2]⟩]
def aB3:List aW:=[.tm 2]
theorem aDZ:aO Tryz.prog Tryz.f143 aDQ=some (aBO,aB3):=by kernel_rfl
theorem aDM:aN Tryz.prog aBG Tryz.f143 aBO aB3:=
 aN.mk Tryz.func143 (by kernel_rfl) aDZ
def aBP:AC:=
 (.seq (.region [rq 0 6 (.move (.kv (.bool false)))] 1 [0,1,2])
 (.seq (.seq (.region [rq 0 7 (.move (ki 0))] 1 [0,1,2,7])
 (.block 0
 (.loop
 (.seq (.seq (.region [RM 0 8 7,
 RM 1 9 0,
 rq 2 10 (.len false (.tm 9)),
 rq 3 11 (.bin .lss (.tm 8) (.tm 10))] 4 [0,1,2,7,11])
 (.cond (.tm 11)
 .skip
 (.exit 0)))
 (.seq (.block 1
 (.seq (.region [RM 0 14 0,
 RM 1 15 7,
 rq 2 16 (.idx 1 (.tm 14) (.tm 15)),
 RL 3 17 16,
 RM 4 18 1,
 RM 5 19 2,
 rq 6 20 (.call y2 [(.tm 17),(.tm 18),(.tm 19)]),
 rq 7 21 (.un .not (.tm 20))] 8 [0,1,2,7,21])
 (.cond (.tm 21)
 (.seq (.region [rq 0 6 (.move (.kv (.bool false)))] 1 [6])
 .ret)
 .skip)))
 (.region [RM 0 12 7,
 rq 1 13 (.bin .add (.tm 12) (ki 1)),
 RM 2 7 13] 3 [0,1,2,7]))))))
 (.seq (.region [rq 0 6 (.move (.kv (.bool true)))] 1 [6])
 .ret)))
def aDP:List Cert:=[⟨[],[0,1,2]⟩,⟨[],[0,1,2,7]⟩,⟨[],[0,1,2,7,11]⟩,⟨[],[0,1,2,7,21]⟩,⟨[],[6]⟩,⟨[],[0,1,2,7]⟩,⟨[],[6]⟩]
def aB1:List aW:=[.tm 6]
theorem aDO:aO Tryz.prog Tryz.f144 aDP=some (aBP,aB1):=by kernel_rfl
theorem aDN:aN Tryz.prog aA3 Tryz.f144 aBP aB1:=
 aN.mk Tryz.func144 (by kernel_rfl) aDO
def aBM:AC:=
 (.seq (.region [rq 0 1 (.box true (.tm 0)),
 rq 1 2 (.move (.kv (.bool false)))] 2 [1])
 (.seq (.seq (.region [RF 0 3 0 1,
 RL 1 4 3,
 rq 2 5 (.call y2 [(.tm 4),(ki 0),(ki 1)]),
 rq 3 6 (.un .not (.tm 5)),
 RM 4 7 6,
 GQ 5 8 (.fld 1 (.tm 1)) 7 false,
 GQ 6 9 (.load 1 false (.tm 8)) 7 false,
 GQ 7 10 (.call y2 [(.tm 9),(ki 1),(ki 4)]) 7 false,
 GQ 8 11 (.un .not (.tm 10)) 7 false,
 rq 9 12 (.pick (.tm 7) (.kv (.bool true)) (.tm 11)),
 RM 10 13 12,
 GQ 11 14 (.fld 2 (.tm 1)) 13 false,
 GQ 12 15 (.load 1 false (.tm 14)) 13 false,
 GQ 13 16 (.fld 3 (.tm 1)) 13 false,
 GQ 14 17 (.load 1 false (.tm 16)) 13 false,
 GQ 15 18 (.fld 4 (.tm 1)) 13 false,
 GQ 16 19 (.load 1 false (.tm 18)) 13 false,
 GQ 17 20 (.call aA6 [(.tm 15),(.tm 17),(.tm 19)]) 13 false,
 GQ 18 21 (.un .not (.tm 20)) 13 false,
 rq 19 22 (.pick (.tm 13) (.kv (.bool true)) (.tm 21))] 20 [1,22])
 (.cond (.tm 22)
 (.seq (.region [rq 0 2 (.move (.kv (.bool false)))] 1 [2])
 .ret)
 .skip))
 (.seq (.seq (.region [RF 0 23 1 1,
 RL 1 24 23,
 rq 2 25 (.bin .geq (.tm 24) (ki 3)),
 RM 3 26 25,
 GQ 4 27 (.fld 3 (.tm 1)) 26 true,
 GQ 5 28 (.load 1 false (.tm 27)) 26 true,
 GQ 6 29 (.bin .neq (.tm 28) (ki 1)) 26 true,
 rq 7 30 (.pick (.tm 26) (.tm 29) (.kv (.bool false)))] 8 [1,30])
 (.cond (.tm 30)
 (.seq (.region [rq 0 2 (.move (.kv (.bool false)))] 1 [2])
 .ret)
 .skip))
 (.seq (.seq (.region [rq 0 31 (.load 7 true (.tm 1)),
 rq 1 32 (.call aAZ [(.tm 31)]),
 rq 2 33 (.un .not (.tm 32))] 3 [1,33])
 (.cond (.tm 33)
 (.seq (.region [RF 0 34 5 1,
 RL 1 35 34,
 rq 2 36 (.len false (.tm 35)),
 rq 3 37 (.bin .eql (.tm 36) (ki 0)),
 RM 4 38 37,
 GQ 5 39 (.fld 6 (.tm 1)) 38 true,
 GQ 6 40 (.load 1 false (.tm 39)) 38 true,
 GQ 7 41 (.len false (.tm 40)) 38 true,
 GQ 8 42 (.bin .eql (.tm 41) (ki 0)) 38 true,
 rq 9 43 (.pick (.tm 38) (.tm 42) (.kv (.bool false))),
 RM 10 2 43] 11 [2])
 .ret)
 .skip))
 (.seq (.region [RF 0 44 5 1,
 RL 1 45 44,
 rq 2 46 (.len false (.tm 45)),
 RF 3 47 3 1,
 RL 4 48 47,
 rq 5 49 (.bin .eql (.tm 46) (.tm 48)),
 RM 6 50 49,
 GQ 7 51 (.fld 6 (.tm 1)) 50 true,
 GQ 8 52 (.load 1 false (.tm 51)) 50 true,
 GQ 9 53 (.len false (.tm 52)) 50 true,
 GQ 10 54 (.fld 3 (.tm 1)) 50 true,
 GQ 11 55 (.load 1 false (.tm 54)) 50 true,
 GQ 12 56 (.bin .eql (.tm 53) (.tm 55)) 50 true,
 rq 13 57 (.pick (.tm 50) (.tm 56) (.kv (.bool false))),
 RM 14 58 57,
 GQ 15 59 (.fld 5 (.tm 1)) 58 true,
 GQ 16 60 (.load 1 false (.tm 59)) 58 true,
 GQ 17 61 (.call aA3 [(.tm 60),(ki 0),(ki 65535)]) 58 true,
 rq 18 62 (.pick (.tm 58) (.tm 61) (.kv (.bool false))),
 RM 19 63 62,
 GQ 20 64 (.fld 6 (.tm 1)) 63 true,
 GQ 21 65 (.load 1 false (.tm 64)) 63 true,
 GQ 22 66 (.call aA3 [(.tm 65),(ki 0),(ki 3)]) 63 true,
 rq 23 67 (.pick (.tm 63) (.tm 66) (.kv (.bool false))),
 RM 24 2 67] 25 [2])
 .ret)))))
def aDV:List Cert:=[⟨[],[1]⟩,⟨[],[1,22]⟩,⟨[],[2]⟩,⟨[],[1,30]⟩,⟨[],[2]⟩,⟨[],[1,33]⟩,⟨[],[2]⟩,⟨[],[2]⟩]
def aB4:List aW:=[.tm 2]
theorem aDY:aO Tryz.prog Tryz.f146 aDV=some (aBM,aB4):=by kernel_rfl
theorem aDW:aN Tryz.prog aBF Tryz.f146 aBM aB4:=
 aN.mk Tryz.func146 (by kernel_rfl) aDY
end Go.Proofs.YtegiblhkjfiooaaGreat
end
section
namespace Go.Proofs.YtegiblhkjfiooaaGreat
open Go Go.AM
set_option maxRecDepth 100000
set_option maxHeartbeats 4000000
section
variable {H : aA} {nx : Nat} {K : D → aA → Nat → Prop}
theorem aD7 (l:List Rng) (hl:l.length<2^40):aB Tryz.prog aBG [dS (l.map eN)] .nil 0 fun rr _ _=>rr.plain=true∧rr=dB (decide (DH l)):=by
 refine aDM rfl fun Q hQ=> ?_
 unfold aBO
 by_cases hl4:(l.length:Int)≤4
 ·repeat' (first| (with_reducible first| (refine hK _ _ _ ?_;clear hK K)| (refine hB ?_;clear hA hB A B)|refine Z1 ?_|refine Z2 ?_|refine Z3 fun KB hKB=> ?_|refine Z5 (by omega) ?_)| (with_reducible first|refine Y2 fun K hK=> ?_|refine Y3 fun A B hA hB=> ?_)<;>(simp only[go_sem])|fail)
  (have hKX:=hKB;clear hKB)
  refine aM.gP (β:=Nat) (fun k=>en [(3,dI k),(0,dS (l.map eN))]) (fun k _ _=>k≤l.length∧ ∀i,i<k→V9 l i) (fun k=>l.length-k) 0 ⟨noF,_,by repeat' (first| (with_reducible first|exact C1|refine C2 ?_ ?_)| ((with_reducible refine D0 ?_);exact CA rfl)|fail),aK,by omega,fun i hi=>by omega⟩ ?_
  rintro k H1 nx1 hnx1 ⟨hk,hinv⟩ KL hKL
  by_cases hlt:k<l.length
  ·obtain⟨r,hr⟩: ∃r,r=l.getD k default:=⟨_,rfl⟩
   have hr':l.getD k default=r:=hr.symm
   have hbad: ¬SF r→¬DH l:=fun h hm=>h (by rw[hr];exact(hm.2 k hlt).1)
   repeat' (first| (with_reducible first| (refine hK _ _ _ ?_;clear hK K)| (refine hA ?_;clear hA hB A B)| (refine hB ?_;clear hA hB A B)|refine Z1 ?_|refine Z2 ?_|refine Z3 fun KB hKB=> ?_|refine Z4 (by omega) ?_|refine Z6 (fun h=> ?_) fun h=> ?_)| (first| (with_reducible first|refine Y2 fun K hK=> ?_|refine Y3 fun A B hA hB=> ?_|refine Y6 (fun h=> ?_) fun h=> ?_)| (with_reducible refine aBC ?_))<;>(simp only[go_sem,hr',Nat.add_assoc,Nat.left_eq_add,Nat.add_eq_left])| ((with_reducible refine Y8 ?_);try simp only[AQ.then,AQ.blk,reduceIte,Nat.reduceEqDiff])|refine⟨by omega,?_⟩|fail)
   ·exact aZ hQ (dB false) rfl rfl (j7 (hbad fun hm=>by unfold SF at hm;omega))
   ·exact aZ hQ (dB false) rfl rfl (j7 (hbad fun hm=>by unfold SF at hm;omega))
   ·exact aZ hQ (dB false) rfl rfl (j7 (hbad fun hm=>by unfold SF at hm;omega))
   have hro:SF r:=by unfold SF;omega
   (have hKY:=hKB;clear hKB)
   refine aM.gP (β:=Nat) (fun j=>en [(5,dI j),(4,.one (.c (.ptr 4 (nx1+8) 0 0))),(3,dI k),(0,dS (l.map eN))]) (fun j H2 _=>(j≤k∧ ∀i,i<j→aaM (l.getD i default) r=false)∧H2 (nx1+8)=some ⟨4,1,[eN r]⟩) (fun j=>k-j) 0 ⟨noF,_,by repeat' (first| (with_reducible first|exact C1|refine C2 ?_ ?_)| ((with_reducible refine C0 ?_);exact CE (by omega) rfl)| ((with_reducible refine D0 ?_);first|exact CA rfl|refine CJ ?_)|fail),aK,⟨by omega,fun i hi=>by omega⟩,by simp only[aA.set,if_true]⟩ ?_
   rintro j H2 nx2 hnx2 ⟨⟨hj,hinvj⟩,g8⟩ KM hKM
   by_cases hjl:j<k
   ·obtain⟨r2,hr2⟩: ∃r2,r2=l.getD j default:=⟨_,rfl⟩
    have hr2':l.getD j default=r2:=hr2.symm
    repeat' (first| (with_reducible first| (refine hK _ _ _ ?_;clear hK K)| (refine hA ?_;clear hA hB A B)| (refine hB ?_;clear hA hB A B)|refine Z1 ?_|refine Z2 ?_|refine Z3 fun KB hKB=> ?_|refine Z4 (by omega) ?_|refine Z6 (fun h=> ?_) fun h=> ?_)| (with_reducible first|refine Y2 fun K hK=> ?_|refine Y3 fun A B hA hB=> ?_|refine Y6 (fun h=> ?_) fun h=> ?_)<;>(simp only[go_sem,hr2',g8];try simp (disch:=omega) only[Iw])| ((with_reducible refine Y8 ?_);try simp only[AQ.then,AQ.blk,reduceIte,Nat.reduceEqDiff])| ((with_reducible refine Y0 ?_);simp only[AQ.then,AQ.blk])|refine⟨by omega,?_⟩| (with_reducible refine hKB _ _ _ ?_)|fail)
    ·refine aZ hQ (dB false) rfl rfl (j7 fun hm=> ?_)
     have h2:=(hm.2 k hlt).2
     refine h2 (cH.2 ⟨l.getD j default,List.mem_iff_getElem.2 ⟨j,by simp;omega,by simp[List.getD,show j<l.length by omega]⟩,decide_eq_true ?_⟩)
     rw[hr2',hr']
     omega
    all_goals exact hKM _ _ _ (j+1) noF _ (by omega) (by omega) (by repeat' (first| (with_reducible first|exact C1|refine C2 ?_ ?_)| ((with_reducible refine C0 ?_);exact CE (by omega) rfl)| ((with_reducible refine D0 ?_);first|exact CA rfl|refine CJ ?_)|fail)) aK ⟨⟨by omega,iS hinvj (by rw[hr2'];exact decide_eq_false (by omega))⟩,g8⟩
   ·repeat' (first| (with_reducible first| (refine hK _ _ _ ?_;clear hK K)| (refine hB ?_;clear hA hB A B)|refine Z1 ?_|refine Z5 (by omega) ?_|refine hKY _ _ _ ?_)| (with_reducible first|refine Y2 fun K hK=> ?_|refine Y3 fun A B hA hB=> ?_)<;>(simp only[go_sem];try simp (disch:=omega) only[Iw])| ((with_reducible refine Y9 ?_);try simp only[AQ.then,AQ.blk,reduceIte,Nat.reduceEqDiff])| ((with_reducible refine Y0 ?_);simp only[AQ.then,AQ.blk])| (with_reducible refine hKB _ _ _ ?_)|fail)
    refine hKL _ _ _ (k+1) noF _ (by omega) (by omega) (by repeat' (first| (with_reducible first|exact C1|refine C2 ?_ ?_)| ((with_reducible refine D0 ?_);exact CA rfl)|fail)) aK ⟨by omega,iS hinv ⟨by rw[hr'];exact hro,fun hc=> ?_⟩⟩
    obtain⟨x,hx,hx2⟩:=cH.1 hc
    obtain⟨i,hi,rfl⟩:=List.mem_iff_getElem.1 hx
    have hi':i<k:=by simp at hi;omega
    have:=hinvj i (by omega)
    simp only[List.getD,show i<l.length by omega,List.getElem?_eq_getElem,Option.getD_some] at this
    rw[hr'] at hx2
    simp only[List.getElem_take] at hx2
    rw[this] at hx2
    cases hx2
  ·repeat' (first| (with_reducible first| (refine hK _ _ _ ?_;clear hK K)| (refine hB ?_;clear hA hB A B)|refine Z1 ?_|refine Z5 (by omega) ?_|refine hKX _ _ _ ?_)| (with_reducible first|refine Y2 fun K hK=> ?_|refine Y3 fun A B hA hB=> ?_)<;>(simp only[go_sem])| ((with_reducible first|refine Y8 ?_|refine Y9 ?_);try simp only[AQ.then,AQ.blk,reduceIte,Nat.reduceEqDiff])|fail)
   have hk2:k=l.length:=by omega
   subst hk2
   exact aZ hQ (dB true) rfl rfl (q9 ⟨hl4,hinv⟩)
 ·repeat' (first| (with_reducible first| (refine hK _ _ _ ?_;clear hK K)| (refine hA ?_;clear hA hB A B)|refine Z1 ?_|refine Z4 (by omega) ?_)| (with_reducible first|refine Y2 fun K hK=> ?_|refine Y3 fun A B hA hB=> ?_)<;>(simp only[go_sem])| ((with_reducible refine Y8 ?_);try simp only[AQ.then,AQ.blk,reduceIte,Nat.reduceEqDiff])|fail)
  exact aZ hQ (dB false) rfl rfl (j7 fun h=>hl4 h.1)
theorem aD5 {l:List Rng} (hl:l.length<2^40) (h:K (dB (decide (DH l))) H nx):aB Tryz.prog aBG [dS (l.map eN)] H nx K:=
 (aD7 l hl).pure rfl (aI ⟨aE rfl,trivial⟩) (fun r hr=>hr▸h)
theorem aD9 (l:List Int) (lo up:Int) (hl:l.length<2^40):aB Tryz.prog aA3 [dS (l.map aJ),dI lo,dI up] .nil 0 fun rr _ _=>rr.plain=true∧rr=dB (decide (All l lo up)):=by
 refine aDN rfl fun Q hQ=> ?_
 unfold aBP
 repeat' (first| (with_reducible first| (refine hK _ _ _ ?_;clear hK K)|refine Z1 ?_|refine Z3 fun KB hKB=> ?_)| (with_reducible refine Y2 fun K hK=> ?_)<;>(simp only[go_sem])|fail)
 (have hKX:=hKB;clear hKB);(refine aM.loop (α:={k:Nat//k≤l.length∧(∀i,i<k→lo≤l.getD i default∧l.getD i default≤up)}) (fun u=>en [(7,dI u.1),(2,dI up),(1,dI lo),(0,dS (l.map aJ))]) (fun _=>.nil) _ (fun u=>l.length-u.1) ⟨0,by omega,(by intros;first|trivial|omega)⟩ (bU (Nat.le_refl _) (by repeat' (first| (with_reducible first|exact C1|refine C2 ?_ ?_)| ((with_reducible refine D0 ?_);exact CA rfl)|fail))) ?_);(rintro⟨k,hk,hinv⟩ KL hKL)
 by_cases hlt:k<l.length
 ·repeat' (first| (with_reducible first| (refine hK _ _ _ ?_;clear hK K)| (refine hA ?_;clear hA hB A B)| (refine hB ?_;clear hA hB A B)|refine Z1 ?_|refine Z2 ?_|refine Z3 fun KB hKB=> ?_|refine Z4 (by omega) ?_|refine Z6 (fun h=> ?_) fun h=> ?_)| (first| (with_reducible first|refine Y2 fun K hK=> ?_|refine Y3 fun A B hA hB=> ?_)| (with_reducible refine aBC ?_))<;>(simp only[go_sem];try simp (disch:=omega) only[Iw])| ((with_reducible refine Y8 ?_);try simp only[AQ.then,AQ.blk,reduceIte,Nat.reduceEqDiff])| ((with_reducible refine Y0 ?_);simp only[AQ.then,AQ.blk])|refine⟨by omega,?_⟩| (with_reducible refine hKB _ _ _ ?_)|fail)
  ·exact aZ hQ (dB false) rfl rfl (j7 fun ha=>by have:=aj1 ha hlt;omega)
  · (refine hKL _ _ _ ⟨k+1,by omega,iS hinv (by omega)⟩ (by omega) (by(try dsimp only);omega) (bU (Nat.le_refl _) (by repeat' (first| (with_reducible first|exact C1|refine C2 ?_ ?_)| ((with_reducible refine D0 ?_);exact CA rfl)|fail))))
 ·repeat' (first| (with_reducible first| (refine hK _ _ _ ?_;clear hK K)| (refine hB ?_;clear hA hB A B)|refine Z1 ?_|refine Z5 (by omega) ?_|refine hKX _ _ _ ?_)| (with_reducible first|refine Y2 fun K hK=> ?_|refine Y3 fun A B hA hB=> ?_)<;>(simp only[go_sem])| ((with_reducible first|refine Y8 ?_|refine Y9 ?_);try simp only[AQ.then,AQ.blk,reduceIte,Nat.reduceEqDiff])|fail)
  exact aZ hQ (dB true) rfl rfl (q9 (aEA fun i hi=>hinv i (by omega)))
theorem aCC {l:List Int} {lo:Int} {up:Int} (hl:l.length<2^40) (h:K (dB (decide (All l lo up))) H nx):aB Tryz.prog aA3 [dS (l.map aJ),dI lo,dI up] H nx K:=
 (aD9 l lo up hl).pure rfl (aI ⟨aE rfl,aE rfl,aE rfl,trivial⟩) (fun r hr=>hr▸h)
theorem aD1 (q:Req) (hd:q.data.length<2^40) (hl:q.lanes.length<2^40):aB Tryz.prog aBF [dA (eB q)] .nil 0 fun rr _ _=>rr.plain=true∧rr=dB (decide (dH q)):=by
 refine aDW rfl fun Q hQ=> ?_
 unfold aBM
 repeat' (first| (with_reducible first| (refine hK _ _ _ ?_;clear hK K)| (refine hA ?_;clear hA hB A B)| (refine hB ?_;clear hA hB A B)|refine Z1 ?_|refine Z2 ?_|refine Z6 (fun h=> ?_) fun h=> ?_)| (first| (with_reducible first|refine Y2 fun K hK=> ?_|refine Y3 fun A B hA hB=> ?_|refine Y6 (fun h=> ?_) fun h=> ?_)| (with_reducible refine aBC ?_)| (with_reducible refine aC2 ?_)| (with_reducible refine aCI ?_)| (with_reducible refine aCC (l:=q.data) hd ?_)| (with_reducible refine aCC (l:=q.lanes) hl ?_))<;>(simp only[go_sem])| ((with_reducible refine Y8 ?_);try simp only[AQ.then,AQ.blk,reduceIte,Nat.reduceEqDiff])| ((with_reducible refine Z8 (fun h=> ?_) (fun h=> ?_))<;>try subst h)|fail)
 all_goals first|with_reducible refine aZ hQ _ rfl rfl ?_|skip
 all_goals
  have e2:wrM q=true↔(q.kind=2∨q.kind=4):=by simp[wrM]
  have e3:All ([]:List Int) 0 65535:=by simp[All]
  have e4:All ([]:List Int) 0 3:=by simp[All]
  have e5:q.data.length=0→q.data=[]:=List.length_eq_zero_iff.1
  have e6:q.lanes.length=0→q.lanes=[]:=List.length_eq_zero_iff.1
  clear hQ
  first|exact j7 (by unfold dH n5;grind)|exact q9 (by unfold dH n5;grind)|exact pD (by unfold dH n5;grind)
theorem aD8 {q:Req} (hd:q.data.length<2^40) (hl:q.lanes.length<2^40) (h:K (dB (decide (dH q))) H nx):aB Tryz.prog aBF [dA (eB q)] H nx K:=
 (aD1 q hd hl).pure rfl (aI ⟨aE rfl,trivial⟩) (fun r hr=>hr▸h)
end
end Go.Proofs.YtegiblhkjfiooaaGreat
end
section
namespace Go.Proofs.YtegiblhkjfiooaaGreat
open Go Go.AM
set_option maxRecDepth 100000
set_option maxHeartbeats 8000000
section
variable {H : aA} {nx : Nat} {K : D → aA → Nat → Prop}
theorem aC8 {l:List Int} {p i:Nat} (hl:kZ l) (hp50:p+2000<2^50) (hi:i<nx) (ho:H i=some (rdO l p))
 (h: ∀H' nx' p' (xs:List CIn),nx≤nx'→xs.length≤90→(∀x∈xs,vZ x)→H' i=some (rdO l p')→(∀id,id<nx→id≠i→H' id=H id)→K (dS (xs.map eIn)) H' nx'):aB Tryz.prog AE [dP 2 i,dI 50] H nx K:=by
 refine aB.tW ?_
 refine RX rfl fun Q hQ=> ?_
 unfold yD
 have hA:bQ nx [i]:=AM.apart (by simp) (by simp;omega)
 simp only[bQ,eZ] at hA
 repeat' (first| (with_reducible first| (refine hK _ _ _ ?_;clear hK K)|refine Z1 ?_)| (with_reducible refine Y2 fun K hK=> ?_)<;>(simp only[go_sem,Nat.add_assoc,Nat.left_eq_add,Nat.add_eq_left,hA])|fail)
 refine aX (p:=p) hl (by omega) (by omega) (by omega) (by simp only[aA.set,hA,if_false];exact ho) fun x h1 h2=> ?_
 obtain⟨slow,hs1,hs2⟩: ∃slow:Int,[[D1.v (Value.int IntKind.i64 2)],[D1.v (Value.int IntKind.i64 3)],[D1.v (Value.int IntKind.i64 5)],[D1.v (Value.int IntKind.i64 20)]][x.toNat]?=some [cI slow]∧0<slow∧slow<1000:=by
  have:x=0∨x=1∨x=2∨x=3:=by omega
  rcases this with rfl|rfl|rfl|rfl
  ·exact⟨2,rfl,by omega⟩
  ·exact⟨3,rfl,by omega⟩
  ·exact⟨5,rfl,by omega⟩
  ·exact⟨20,rfl,by omega⟩
 have hx0:(0≤x)=True:=eq_true h1
 have hx4:(x<4)=True:=eq_true (by omega)
 simp only[go_sem,Nat.add_assoc,Nat.left_eq_add,Nat.add_eq_left,Nat.reduceAdd,hA,hs1,hx0,hx4]
 refine⟨by omega,?_⟩
 refine hK _ _ _ ?_
 clear hK K
 repeat' (first| (with_reducible refine Z1 ?_)| (with_reducible refine Y2 fun K hK=> ?_)<;>(simp only[go_sem])|fail)
 refine aX (p:=p+1) hl (by omega) (by omega) (by omega) aA.bH fun y hy1 hy2=> ?_
 simp only[go_sem]
 repeat' (first| (with_reducible first| (refine hK _ _ _ ?_;clear hK K)|refine Z3 fun KB hKB=> ?_)|fail)
 (have hKX:=hKB;clear hKB)
 refine aM.TF fun G0 hG0=> ?_
 have ci:G0 i=some (rdO l (p+1+1)):=by rw[hG0];exact aA.bH
 have c1:G0 (nx+1)=some ⟨3,0,[]⟩:=by rw[hG0];simp only[aA.set,show ¬nx+1=i by omega,Nat.add_left_cancel_iff,Nat.reduceEqDiff,if_false,if_true]
 have cfr: ∀id,id<nx→id≠i→G0 id=H id:=fun id d1 d2=>by rw[hG0];simp only[aA.set,d2,show ¬id=nx+1 by omega,show ¬id=nx+3 by omega,if_false]
 clear hG0
 refine aM.gP (β:=Nat×Nat×List CIn×Nat×Nat) (fun u=>en [(7,dI u.1),(6,dI slow),(5,.one (.c (.osl 3 u.2.2.2.1 0 u.2.2.1.length u.2.2.2.2))),(0,dP 2 i)])
  (fun u H1 nx1=>u.1+u.2.2.1.length≤90∧u.2.1+10*u.1≤p+2+10*y.toNat∧(∀x∈u.2.2.1,vZ x)∧H1 i=some (rdO l u.2.1)∧(∃m,H1 u.2.2.2.1=some ⟨3,m,u.2.2.1.map eIn⟩∧u.2.2.1.length≤u.2.2.2.2∧u.2.2.2.2≤m)∧nx≤u.2.2.2.1∧u.2.2.2.1<nx1∧ ∀id,id<nx→id≠i→H1 id=H id)
  (fun u=>u.1) (y.toNat,p+1+1,[],nx+1,0) ⟨noF,_,by repeat' (first| (with_reducible first|exact C1|refine C2 ?_ ?_)| ((with_reducible refine C0 ?_);first|exact CC|exact CE (by omega) rfl| (exact CG (by(congr 2;omega)) rfl))| ((with_reducible refine D0 ?_);first|exact CA rfl|refine CJ ?_)|fail),aK,by dsimp only[List.length_nil];omega,by dsimp only;omega,fun x hx=>by simp at hx,ci,⟨0,c1,Nat.le_refl _,Nat.le_refl _⟩,by dsimp only;omega,by dsimp only;omega,cfr⟩ ?_
 rintro⟨j,q,xs,io,cap⟩ H1 nx1 hnx ⟨hj,hq,hxs,gi,⟨m,g1,g2,g3⟩,hio1,hio2,hfr⟩ KL hKL
 dsimp only at hj hq hxs gi g1 g2 g3 hio1 hio2
 have hA1:bQ nx1 [i,io]:=AM.apart (by simp;omega) (by simp;omega)
 simp only[bQ,eZ] at hA1
 by_cases hj0:0<j
 ·repeat' (first| (with_reducible first| (refine hK _ _ _ ?_;clear hK K)| (refine hA ?_;clear hA hB A B)|refine Z1 ?_|refine Z2 ?_|refine Z3 fun KB hKB=> ?_|refine Z4 (by omega) ?_)| (with_reducible first|refine Y2 fun K hK=> ?_|refine Y3 fun A B hA hB=> ?_)<;>(simp only[go_sem])|fail)
  refine YJ hl (by omega) hs2 (by omega) gi fun H2 nx2 q2 x hx2 hq2 hxo fi ffr=> ?_
  have f1:=(ffr io (by omega) (by omega)).trans g1
  have hA2:bQ nx2 [i,io]:=AM.apart (by simp;omega) (by simp;omega)
  simp only[bQ,eZ] at hA2
  simp only[go_sem,Nat.add_assoc,f1,hA1,hA2]
  refine⟨g3,by omega,fun cap1 hcap hcp=> ?_⟩
  refine hK _ _ _ ?_
  clear hK K
  repeat' (first| (with_reducible (refine hK _ _ _ ?_;clear hK K))| (with_reducible refine Y2 fun K hK=> ?_)<;>(simp only[go_sem];try simp (disch:=omega) only[Iw])| ((with_reducible refine Y0 ?_);simp only[AQ.then,AQ.blk])| (with_reducible refine hKB _ _ _ ?_)|fail)
  refine hKL _ _ _ (j-1,q2,xs++[x],nx1+7,cap1) noF _ (by omega) (by dsimp only;omega) (by dsimp only;rw[List.length_append,List.length_singleton];repeat' (first| (with_reducible first|exact C1|refine C2 ?_ ?_)| ((with_reducible refine C0 ?_);first|exact CQ (by omega) rfl rfl (by rfl) rfl|exact CE (by omega) rfl| (exact CG (by(congr 2;omega)) rfl))| ((with_reducible refine D0 ?_);first|exact CA rfl|refine CJ ?_)|fail)) aK ⟨by simp;omega,by dsimp only;omega,fun z hz=> ?_,?_,⟨cap1,aA.bH,by simpa using hcap,Nat.le_refl _⟩,by dsimp only;omega,by dsimp only;omega,fun id d1 d2=> ?_⟩
  ·rcases List.mem_append.1 hz with hz|hz
   ·exact hxs z hz
   ·simp at hz;subst hz;exact hxo
  ·rw[aA.aC (by omega),aA.aC (by omega),aA.jG (by omega)];exact fi
  ·rw[aA.aC (by omega),aA.aC (by omega),aA.jG (by omega),ffr id (by omega) d2];exact hfr id d1 d2
 ·repeat' (first| (with_reducible first| (refine hK _ _ _ ?_;clear hK K)| (refine hB ?_;clear hA hB A B)|refine Z1 ?_|refine Z5 (by omega) ?_|refine hKX _ _ _ ?_)| (with_reducible first|refine Y2 fun K hK=> ?_|refine Y3 fun A B hA hB=> ?_)<;>(simp only[go_sem])| ((with_reducible first|refine Y8 ?_|refine Y9 ?_);try simp only[AQ.then,AQ.blk,reduceIte,Nat.reduceEqDiff])|fail)
  refine hQ _ _ _ _ _ (.inr rfl) rfl ⟨dS (xs.map eIn),_,fun j=>j=io,yP QX g1 rfl g2 rfl,PU,h _ _ q xs (by omega) (by omega) hxs ?_ fun id d1 d2=> ?_⟩
  ·rw[aA.jG (by omega)];exact gi
  ·rw[aA.jG (by omega)];exact hfr id d1 d2
theorem aC4 (m:List Rng) (q:Req) (hm:DH m) (hq:dH q) (hl:m.length<2^20):aB Tryz.prog y3 [dS (m.map eN),dA (eB q)] .nil 0 fun rr _ _=>rr.plain=true∧rr=dI (gZ m q):=by
 refine aCQ rfl fun Q hQ=> ?_
 unfold aA7
 have hwh:bV m (bE q.addr q.many q.wrap)<m.length:=by have hlt:=PQ (p:=(inR · ((bE q.addr q.many q.wrap).getD 0 default))) (l:=m);unfold bV;grind
 have hd:=B7.L4 hq
 have hb4:(bE q.addr q.many q.wrap).length<2^40:=by have:=MK (addr:=q.addr) (many:=q.many) (wrap:=q.wrap);omega
 have d1:=decide_eq_true hm
 have d2:=decide_eq_true hq
 repeat' (first| (with_reducible first| (refine hK _ _ _ ?_;clear hK K)| (refine hA ?_;clear hA hB A B)| (refine hB ?_;clear hA hB A B)|refine Z1 ?_|refine Z2 ?_|refine Z6 (fun h=> ?_) fun h=> ?_)| (first| (with_reducible first|refine Y2 fun K hK=> ?_|refine Y3 fun A B hA hB=> ?_)| (with_reducible refine aD5 (by omega) ?_)| (with_reducible refine aD8 hd.1 hd.2 ?_)| (with_reducible refine aC9 ?_)| (with_reducible refine aDG (by omega) hb4 ?_))<;>(simp only[go_sem,d1,d2,eq_true hm,eq_true hq])| ((with_reducible refine Y8 ?_);try simp only[AQ.then,AQ.blk,reduceIte,Nat.reduceEqDiff])|refine⟨by omega,?_⟩|fail)
 all_goals first|with_reducible refine aZ hQ _ rfl rfl ?_|skip
 ·unfold gZ;exact(congrArg dI (if_pos h)).symm
 ·unfold gZ;exact(congrArg dI (if_neg h)).symm
theorem aC6 {m:List Rng} {q:Req} (hm:DH m) (hq:dH q) (hl:m.length<2^20) (h:K (dI (gZ m q)) H nx):aB Tryz.prog y3 [dS (m.map eN),dA (eB q)] H nx K:=
 (aC4 m q hm hq hl).pure rfl (aI ⟨aE rfl,aE rfl,trivial⟩) (fun r hr=>hr▸h)
def aBY (k:Nat) (q:Req):Prop:=(gZ (E9 false) q=0↔k=0)∧gZ (E9 false) q≠3
theorem aEL {G:aA} {nx' bp b cap m capb len k:Nat} {P:List Prog} {R Rall:List Req} (h5:G bp=some ⟨1,cap,P.map jR⟩) (hb:G b=some ⟨7,m,Rall.map eB⟩) (hR:R=Rall.take len) (hlen:len=R.length) (hc:len≤capb) (hne: ¬b=bp) (hk:k<P.length):
 CvX (fun t=>t=b) nx' (G.set bp ⟨1,cap,(P.map jR).set k [.osl 7 b 0 len capb]⟩) ((without (fun t=>t=b) G).set bp ⟨1,cap,(P.set k R).map jR⟩):=by
 refine apO (t:=bp) (o':=⟨1,cap,(P.set k R).map jR⟩) (fun j hj=> ?_) aA.bH aA.bH (fun h=>hne h.symm) (ak7 (R:=(P.set k R).map jR) (i:=k) (r':=jR R) rfl ?_ ?_ (fun r hr=>(aG iR _ r hr).2) rfl (aH (XN (o:=⟨7,m,Rall.map eB⟩) (len:=len) (cap:=capb) (aG rL R) (by rw[List.length_map];exact hlen) rfl ?_ rfl ?_ (by rw[List.length_map];omega)) eP)) fun j hj1 hj2=> ?_
 ·have hj':j=b:=hj
  rw[aA.aC (by omega)];exact if_pos hj
 ·rw[List.map_set,List.set_set]
 ·rw[List.getElem?_map,List.getElem?_set_self (by simpa using hk)];rfl
 ·rw[aA.aC hne];exact hb
 ·dsimp only
  rw[List.length_map,←List.map_take,←hlen,←hR]
 ·rw[aA.aC hj1,aA.aC hj1,iI (F:=fun t=>t=b) hj2]
theorem aEK {x:Int} (h0:0≤x) (h1:x<12):dH ⟨0,1,x,4,false,[],[]⟩∧aBY 0 ⟨0,1,x,4,false,[],[]⟩:=by
 refine⟨⟨by dsimp only;omega,by dsimp only;omega,⟨by dsimp only;omega,⟨h0,by dsimp only;omega⟩,.inr (by dsimp only;omega)⟩,rfl,rfl,by simp[All],by simp[All],.inl rfl⟩,?_⟩
 have h: ∀n:Fin 12,gZ (E9 false) ⟨0,1,(n.1:Int),4,false,[],[]⟩=0:=by decide
 have h2:=h ⟨x.toNat,by omega⟩
 dsimp only at h2
 rw[show (x.toNat:Int)=x by omega] at h2
 unfold aBY
 rw[h2]
 decide
theorem aCF:aN Tryz.prog aAT Tryz.f27 aAU aA5:=aCE
theorem aCY:cJ Tryz.prog aBE Tryz.f72 aA8 aBQ:=cJ.mk Tryz.func72 (by kernel_rfl) aCL
theorem aDC {l:List Int} {p i:Nat} (hl:kZ l) (hp50:p+1100<2^50) (hi:i<nx) (ho:H i=some (rdO l p))
 (h: ∀H' nx' p' (c:Cfg),nx≤nx'→aQ c→jO c→c.map=E9 false→(∀k,k<3→∀q∈c.cP.getD k default,aBY k q)→H' i=some (rdO l p')→p'≤p+1100→(∀id,id<nx→id≠i→H' id=H id)→K (dA (cU c)) H' nx'):aB Tryz.prog aBE [dP 2 i] H nx K:=by
 refine aB.tW ?_
 refine aCY rfl fun Q hQ=> ?_
 unfold aA8
 have hA:bQ nx [i]:=AM.apart (by simp) (by simp;omega)
 simp only[bQ,eZ] at hA
 repeat' (first| (with_reducible first| (refine hK _ _ _ ?_;clear hK K)|refine Z1 ?_|refine Z3 fun KB hKB=> ?_)| (first| (with_reducible refine Y2 fun K hK=> ?_)| (refine aDJ (p:=p) hl (by omega) (by omega) (by simp only[aA.set,hA,if_false];exact ho) (fun pb c cap h1 h2 h3 h4 h5 h6=> ?_)))<;>(simp only[go_sem,Nat.add_assoc,Nat.left_eq_add,Nat.add_eq_left,hA])|fail)
 (have hKX:=hKB;clear hKB)
 refine aM.TF fun G0 hG0=> ?_
 obtain⟨m3,hm3⟩: ∃m3,m3=E9 false:=⟨_,rfl⟩
 have hm3o:DH m3:=by rw[hm3];exact PO false 3 (by omega)
 have hm3l:m3.length=3:=by rw[hm3];rfl
 have ci:G0 i=some (rdO l pb):=by rw[hG0];simp only[aA.set,hA,show ¬i=nx+5 by omega,show ¬i=nx+3 by omega,show ¬i=nx+9 by omega,if_false,if_true]
 have c0:G0 nx=some ⟨3,1,[[.osl 0 0 0 0 0,.osl 0 0 0 0 0,.osl 0 0 0 0 0]]⟩:=by rw[hG0];simp only[aA.set,hA,Nat.left_eq_add,Nat.reduceEqDiff,if_false,if_true]
 have c3:G0 (nx+3)=some ⟨3,1,[[.osl 4 (nx+9) 0 3 3,.isl (c.lat.map aJ),.osl 1 (nx+5) 0 3 cap]]⟩:=by rw[hG0];simp only[aA.set,Nat.add_left_cancel_iff,Nat.reduceEqDiff,if_false,if_true]
 have c5:G0 (nx+5)=some ⟨1,cap,c.cP.map jR⟩:=by rw[hG0];simp only[aA.set,Nat.add_left_cancel_iff,Nat.reduceEqDiff,if_false,if_true]
 have c9:G0 (nx+9)=some ⟨4,3,m3.map eN⟩:=by rw[hG0,hm3];simp only[aA.set,if_true];rfl
 have cfr: ∀id,id<nx→id≠i→G0 id=H id:=fun id d1 d2=>by rw[hG0];simp only[aA.set,d2,show ¬id=nx by omega,show ¬id=nx+3 by omega,show ¬id=nx+5 by omega,show ¬id=nx+9 by omega,if_false]
 clear hG0
 have hpr0: ∀pr∈c.cP,pr.length≤12∧ ∀q∈pr,dH q:=fun pr hpr=>by
  have:=h3.2.2.2.2
  rw[cH] at this
  have h7:mV pr:=Classical.not_not.1 fun hc=>this ⟨pr,hpr,decide_eq_true hc⟩
  refine⟨by have:=h7.1;omega,fun q hq=>Classical.not_not.1 fun hc=>h7.2 (cH.2 ⟨q,hq,decide_eq_true hc⟩)⟩
 refine aM.gP (β:=Nat×Nat×List Prog) (fun u=>en [(4,dI u.1),(3,.one (.c (.ptr 3 (nx+3) 0 0))),(2,.one (.c (.ptr 3 nx 0 0))),(0,dP 2 i)])
  (fun u H1 _=>(u.1≤3∧u.2.1≤p+1000+u.1∧u.2.2.length=3∧(∀pr∈u.2.2,pr.length≤12∧ ∀q∈pr,dH q)∧ ∀j,j<u.1→∀q∈u.2.2.getD j default,aBY j q)∧H1 i=some (rdO l u.2.1)∧H1 nx=some ⟨3,1,[[.osl 0 0 0 0 0,.osl 0 0 0 0 0,.osl 0 0 0 0 0]]⟩∧H1 (nx+3)=some ⟨3,1,[[.isl (m3.map eN),.isl (c.lat.map aJ),.osl 1 (nx+5) 0 3 cap]]⟩∧H1 (nx+5)=some ⟨1,cap,u.2.2.map jR⟩∧ ∀id,id<nx→id≠i→H1 id=H id)
  (fun u=>3-u.1) (0,pb,c.cP) ⟨fun t=>t=nx+9,(without (fun t=>t=nx+9) G0).set (nx+3) ⟨3,1,[[.isl (m3.map eN),.isl (c.lat.map aJ),.osl 1 (nx+5) 0 3 cap]]⟩,by repeat' (first| (with_reducible first|exact C1|refine C2 ?_ ?_)| ((with_reducible refine C0 ?_);exact CE (by omega) rfl)| ((with_reducible refine D0 ?_);first|exact CA rfl|refine CJ ?_)|fail),?_,⟨by dsimp only;omega,by dsimp only;omega,h5,hpr0,fun j hj=>by dsimp only at hj;omega⟩,by rw[aA.aC (by omega),iI (by omega)];exact ci,by rw[aA.aC (by omega),iI (by omega)];exact c0,aA.bH,by rw[aA.aC (by omega),iI (by omega)];exact c5,fun id d1 d2=>by rw[aA.aC (by omega),iI (by omega)];exact cfr id d1 d2⟩ ?_
 ·refine apO (t:=nx+3) (o':=⟨3,1,[[.isl (m3.map eN),.isl (c.lat.map aJ),.osl 1 (nx+5) 0 3 cap]]⟩) (fun j hj=> ?_) aA.bH c3 (by omega) (aP (aH (bW K3 c9 hm3l.symm (by omega) rfl) (aH (bB rfl) (aH (.osl _ _ _ _ _ (by omega)) eP)))) fun j hj1 hj2=> ?_
  ·rw[aA.aC (by omega)];exact if_pos hj
  ·rw[aA.aC (by omega),iI (F:=fun t=>t=nx+9) hj2]
 clear c0 c3 c5 c9 cfr ci
 rintro⟨k,pk,P⟩ H1 nx1 hnx1 ⟨⟨hk,hpk,hP3,hPo,hPg⟩,gi,g0,g3,g5,hfr⟩ KL hKL
 dsimp only at hk hpk hP3 hPo hPg gi g5
 have hA1:bQ nx1 [i,nx,nx+3,nx+5]:=AM.apart (by simp;omega) (by simp;omega)
 simp only[bQ,eZ] at hA1
 by_cases hlt:k<3
 ·obtain⟨pr,hpr⟩: ∃pr,pr=P.getD k default:=⟨_,rfl⟩
  have hpr':P.getD k default=pr:=hpr.symm
  have hprm:pr∈P:=by rw[hpr];exact cC (by omega)
  obtain⟨hpl,hpq⟩:=hPo pr hprm
  have fin: ∀(e':Env) (G:aA) (n' pos:Nat) (R' Rall:List Req) (b m capb len:Nat),nx1≤n'→(∀(H:aA) (F:Nat→Prop),CvE H F id n' (en [(4,dI ((k+1:Nat))),(3,.one (.c (.ptr 3 (nx+3) 0 0))),(2,.one (.c (.ptr 3 nx 0 0))),(0,dP 2 i)]) e')→G b=some ⟨7,m,Rall.map eB⟩→R'=Rall.take len→len=R'.length→len≤capb→nx1≤b→G i=some (rdO l pos)→pos≤pk+1→(∀id,id<nx1→id≠i→G id=H1 id)→R'.length≤12→(∀q∈R',dH q∧aBY k q)→
   KL e' (G.set (nx+5) ⟨1,cap,(P.map jR).set k [.osl 7 b 0 len capb]⟩) n':=by
   intro e' G n' pos R' Rall b m capb len az9 az2 aAD aAE aAA aAF aAC aAB aAG a10 a11 a12
   have aEP:=(a10 (nx+3) (by omega) (by omega)).trans g3
   have aEQ:=(a10 (nx+5) (by omega) (by omega)).trans g5
   have z0:=(a10 nx (by omega) (by omega)).trans g0
   have hw: ∀j,j≠b→without (fun t=>t=b) G j=G j:=fun j hj=>iI (F:=fun t=>t=b) hj
   refine hKL _ _ _ (k+1,pos,P.set k R') (fun t=>t=b) _ (by omega) (by dsimp only;omega) (az2 _ _) (aEL aEQ aAD aAE aAA aAF (by omega) (by omega)) ⟨⟨by dsimp only;omega,by dsimp only;omega,by simpa using hP3,fun pr hpr=> ?_,fun j hj q hq=> ?_⟩,by rw[aA.aC (by omega),hw _ (by omega)];exact aAB,by rw[aA.aC (by omega),hw _ (by omega)];exact z0,by rw[aA.aC (by omega),hw _ (by omega)];exact aEP,aA.bH,fun id d1 d2=>by rw[aA.aC (by omega),hw _ (by omega),a10 id (by omega) d2];exact hfr id d1 d2⟩
   ·rcases List.mem_or_eq_of_mem_set hpr with hpr|rfl
    ·exact hPo pr hpr
    ·exact⟨a11,fun q hq=>(a12 q hq).1⟩
   ·dsimp only at hq hj
    rw[pY (by omega)] at hq
    split at hq
    ·rename_i e;subst e;exact(a12 q hq).2
    ·exact hPg j (by omega) q hq
  repeat' (first| (with_reducible first| (refine hK _ _ _ ?_;clear hK K)| (refine hA ?_;clear hA hB A B)|refine Z1 ?_|refine Z2 ?_|refine Z3 fun KB hKB=> ?_|refine Z4 (by omega) ?_)| (with_reducible first|refine Y2 fun K hK=> ?_|refine Y3 fun A B hA hB=> ?_)<;>(simp only[go_sem,Nat.add_assoc,Nat.left_eq_add,Nat.add_eq_left,gi,g0,g3,g5,hA1])|fail)
  (have hKY:=hKB;clear hKB)
  refine aM.gP (β:=Nat×List Req×Nat×Nat) (fun u=>en [(6,dI u.1),(5,.one (.c (.osl 7 u.2.2.1 0 u.2.1.length u.2.2.2))),(4,dI k),(3,.one (.c (.ptr 3 (nx+3) 0 0))),(2,.one (.c (.ptr 3 nx 0 0))),(0,dP 2 i)])
   (fun u H2 nx2=>(u.1≤pr.length∧u.2.1.length≤u.1∧ ∀q∈u.2.1,dH q∧aBY k q)∧(∃m,H2 u.2.2.1=some ⟨7,m,u.2.1.map eB⟩∧u.2.1.length≤u.2.2.2∧u.2.2.2≤m)∧(nx1≤u.2.2.1∧u.2.2.1<nx2)∧ ∀id,id<nx1→H2 id=H1 id)
   (fun u=>pr.length-u.1) (0,[],nx1+2,0) ⟨noF,_,by repeat' (first| (with_reducible first|exact C1|refine C2 ?_ ?_)| ((with_reducible refine C0 ?_);first|exact CC|exact CE (by omega) rfl)| ((with_reducible refine D0 ?_);first|exact CA rfl|refine CJ ?_)|fail),aK,⟨by dsimp only;omega,by simp,fun q hq=>by simp at hq⟩,⟨0,aA.bH,Nat.le_refl _,Nat.le_refl _⟩,by dsimp only;omega,fun id hid=>aA.aC (by omega)⟩ ?_
  rintro⟨j,R,nb,cr⟩ H2 nx2 hnx2 ⟨⟨hj,hRl,hRg⟩,⟨mr,r1,r2,r3⟩,hnb,hfr2⟩ KM hKM
  dsimp only at hj hRl hRg r1 r2 r3 hnb
  have s3:=(hfr2 (nx+3) (by omega)).trans g3
  have s5:=(hfr2 (nx+5) (by omega)).trans g5
  have si:=(hfr2 i (by omega)).trans gi
  have s0:=(hfr2 nx (by omega)).trans g0
  have hA2:bQ nx2 [i,nx,nx+3,nx+5,nb]:=AM.apart (by simp;omega) (by simp;omega)
  simp only[bQ,eZ] at hA2
  by_cases hjl:j<pr.length
  ·obtain⟨q,hq⟩: ∃q,q=pr.getD j default:=⟨_,rfl⟩
   have hq':pr.getD j default=q:=hq.symm
   have hqo:dH q:=by rw[hq];exact hpq _ (cC hjl)
   obtain⟨S,hS⟩: ∃S,S=gZ m3 q:=⟨_,rfl⟩
   have hsl: ∀{H:aA} {nx:Nat} {K:D→aA→Nat→Prop},K (dI S) H nx→aB Tryz.prog y3 [dS (m3.map eN),dA (eB q)] H nx K:=fun h=>aC6 hm3o hqo (by omega) (by rw[←hS];exact h)
   repeat' (first| (with_reducible first| (refine hK _ _ _ ?_;clear hK K)| (refine hA ?_;clear hA hB A B)| (refine hB ?_;clear hA hB A B)|refine Z1 ?_|refine Z2 ?_|refine Z3 fun KB hKB=> ?_|refine Z4 (by omega) ?_|refine Z6 (fun h=> ?_) fun h=> ?_|refine fun(cap:Nat) (hcap:_≤cap)=> ?_|refine fun(hcp:_≤cap)=> ?_)| (first| (with_reducible first|refine Y2 fun K hK=> ?_|refine Y3 fun A B hA hB=> ?_| (refine Y7 (fun h=> ?_) (fun h=> ?_)<;>try subst h))| (refine hsl ?_))<;>(simp only[go_sem,Nat.add_assoc,Nat.left_eq_add,Nat.add_eq_left,hpr',hq',r1,s0,s3,s5,si,hA2];try simp (disch:=omega) only[Iw])| ((with_reducible refine Y0 ?_);simp only[AQ.then,AQ.blk])|refine⟨by omega,?_⟩| (with_reducible refine hKB _ _ _ ?_)|fail)
   ·rename_i h7
    have h8:=h
    have hgo:aBY k q:=by
     unfold aBY
     rw[←hm3,←hS]
     simp only[beq_iff_eq,decide_eq_decide] at h7
     exact⟨by rw[h7];omega,h8⟩
    refine hKM _ _ _ (j+1,R++[q],nx2+36,cap) noF _ (by omega) (by dsimp only;omega) (by dsimp only;rw[List.length_append,List.length_singleton];repeat' (first| (with_reducible first|exact C1|refine C2 ?_ ?_)| ((with_reducible refine C0 ?_);first|exact CQ (by omega) rfl rfl (by rfl) rfl|exact CE (by omega) rfl)| ((with_reducible refine D0 ?_);first|exact CA rfl|refine CJ ?_)|fail)) aK ⟨⟨by dsimp only;omega,by simp;omega,fun z hz=> ?_⟩,⟨cap,aA.bH,by simpa using hcap,Nat.le_refl _⟩,by dsimp only;omega,fun id hid=> ?_⟩
    ·rcases List.mem_append.1 hz with hz|hz
     ·exact hRg z hz
     ·simp at hz;subst hz;exact⟨hqo,hgo⟩
    ·rw[aA.aC (by omega),aA.aC (by omega),aA.aC (by omega),aA.jG (by omega)];exact hfr2 id hid
   all_goals refine hKM _ _ _ (j+1,R,nb,cr) noF _ (by omega) (by dsimp only;omega) (by dsimp only;repeat' (first| (with_reducible first|exact C1|refine C2 ?_ ?_)| ((with_reducible refine C0 ?_);first|exact CQ (by omega) rfl rfl (by rfl) rfl|exact CE (by omega) rfl)| ((with_reducible refine D0 ?_);first|exact CA rfl|refine CJ ?_)|fail)) aK ⟨⟨by dsimp only;omega,by dsimp only;omega,hRg⟩,⟨mr,by rw[aA.aC (by dsimp only;omega)];exact r1,r2,r3⟩,by dsimp only;omega,fun id hid=>by rw[aA.aC (by omega)];exact hfr2 id hid⟩
  ·by_cases hk0:k=0
   ·subst hk0
    repeat' (first| (with_reducible first| (refine hK _ _ _ ?_;clear hK K)| (refine hA ?_;clear hA hB A B)| (refine hB ?_;clear hA hB A B)|refine Z1 ?_|refine Z4 (by omega) ?_|refine Z5 (by omega) ?_|refine hKY _ _ _ ?_)| (with_reducible first|refine Y2 fun K hK=> ?_|refine Y3 fun A B hA hB=> ?_)<;>(simp only[go_sem,Nat.add_assoc,Nat.left_eq_add,Nat.add_eq_left,hpr',r1,s0,s3,s5,si,hA2])| ((with_reducible refine Y9 ?_);try simp only[AQ.then,AQ.blk,reduceIte,Nat.reduceEqDiff])|refine⟨by omega,?_⟩|fail)
    refine aX (p:=pk) hl (by omega) (by omega) (by omega) si fun x hx1 hx2=> ?_
    have hA3: ∀y,(H2.set i y) nb=H2 nb:=fun y=>aA.aC (by omega)
    simp only[go_sem,Nat.add_assoc,Nat.left_eq_add,Nat.add_eq_left,r1,hA2]
    obtain⟨q0,hq0⟩: ∃q0:Req,q0=⟨0,1,x,4,false,[],[]⟩:=⟨_,rfl⟩
    have hx12:x<12:=by omega
    have hgq:=aEK hx1 hx12
    rw[←hq0] at hgq
    have hRl12:R.length≤12:=by omega
    refine⟨r3,by omega,fun cap1 hcap hcp=> ?_⟩
    refine hK _ _ _ ?_
    clear hK K
    refine aM.tW _ _ noF (fun t=>.inl rfl) (KO (i:=nx2+15) (o':=⟨7,cap1,(R++[q0]).map eB⟩) aA.bH (uO (R:=R.map eB) (r':=eB q0) (by simp) rfl (fun r hr=>(aG rL R r hr).2) rfl (by rw[hq0];exact aH (bB rfl) (aH (bB rfl) (aH (bB rfl) (aH (bB rfl) (aH (bB rfl) (aH xG (aH xG eP))))))))) ?_
    refine aM.TF fun G hG=> ?_
    have z15:G (nx2+15)=some ⟨7,cap1,(R++[q0]).map eB⟩:=by rw[hG];exact aA.bH
    have zi:G i=some (rdO l (pk+1)):=by rw[hG,aA.aC (by omega),aA.aC (by omega),aA.aC (by omega)];exact aA.bH
    have zo: ∀id,id<nx1→id≠i→G id=H1 id:=fun id d1 d2=>by rw[hG,aA.aC (by omega),aA.aC (by omega),aA.aC (by omega),aA.aC (by omega),aA.jG (by omega)];exact hfr2 id d1
    clear hG
    have aEP:=(zo (nx+3) (by omega) (by omega)).trans g3
    have aEQ:=(zo (nx+5) (by omega) (by omega)).trans g5
    have z0:=(zo nx (by omega) (by omega)).trans g0
    have hA4:bQ (nx2+17) [i,nx,nx+3,nx+5,nx2+15]:=AM.apart (by simp;omega) (by simp;omega)
    simp only[bQ,eZ] at hA4
    have hl1:R.length+1=(R++[q0]).length:=by simp
    have hall: ∀z∈R++[q0],dH z∧aBY 0 z:=fun z hz=>by
     rcases List.mem_append.1 hz with hz|hz
     ·exact hRg z hz
     ·simp at hz;subst hz;exact hgq
    have hcap':(R++[q0]).length≤cap1:=by simpa using hcap
    have hlen13:(R++[q0]).length≤13:=by simp;omega
    rw[hl1]
    generalize R++[q0]=aER at*
    clear hl1
    by_cases h12:(12:Int)<aER.length
    ·have h12t:((12:Int)<aER.length)=True:=eq_true h12
     repeat' (first| (with_reducible (refine hK _ _ _ ?_;clear hK K))| (with_reducible refine Y2 fun K hK=> ?_)<;>(simp only[go_sem,Nat.add_assoc,Nat.left_eq_add,Nat.add_eq_left,z15,zi,z0,aEP,aEQ,hA4,h12t];try simp (disch:=omega) only[Iw])| ((with_reducible refine Y0 ?_);simp only[AQ.then,AQ.blk])|refine⟨by omega,?_⟩| (with_reducible refine hKB _ _ _ ?_)|fail)
     exact fin _ G _ (pk+1) (aER.take 12) aER (nx2+15) cap1 cap1 12 (by omega) (fun _ _=>by repeat' (first| (with_reducible first|exact C1|refine C2 ?_ ?_)| ((with_reducible refine C0 ?_);exact CE (by omega) rfl)| ((with_reducible refine D0 ?_);first|exact CA rfl|refine CJ ?_)|fail)) z15 rfl (by rw[List.length_take];omega) (by omega) (by omega) zi (by omega) zo (by rw[List.length_take];omega) fun q hq=>hall q (List.mem_of_mem_take hq)
    ·have h12f:((12:Int)<aER.length)=False:=eq_false h12
     repeat' (first| (with_reducible (refine hK _ _ _ ?_;clear hK K))| (with_reducible refine Y2 fun K hK=> ?_)<;>(simp only[go_sem,Nat.add_assoc,Nat.left_eq_add,Nat.add_eq_left,z15,zi,z0,aEP,aEQ,hA4,h12f];try simp (disch:=omega) only[Iw])| ((with_reducible refine Y0 ?_);simp only[AQ.then,AQ.blk])|refine⟨by omega,?_⟩| (with_reducible refine hKB _ _ _ ?_)|fail)
     exact fin _ G _ (pk+1) aER aER (nx2+15) cap1 cap1 aER.length (by omega) (fun _ _=>by repeat' (first| (with_reducible first|exact C1|refine C2 ?_ ?_)| ((with_reducible refine C0 ?_);exact CE (by omega) rfl)| ((with_reducible refine D0 ?_);first|exact CA rfl|refine CJ ?_)|fail)) z15 List.take_length.symm rfl hcap' (by omega) zi (by omega) zo (by omega) hall
   ·have hkf:((k:Int)=0)=False:=eq_false (by omega)
    have h12f:((12:Int)<R.length)=False:=eq_false (by omega)
    repeat' (first| (with_reducible first| (refine hK _ _ _ ?_;clear hK K)| (refine hB ?_;clear hA hB A B)|refine Z1 ?_|refine Z2 ?_|refine Z5 (by omega) ?_|refine hKY _ _ _ ?_)| (with_reducible first|refine Y2 fun K hK=> ?_|refine Y3 fun A B hA hB=> ?_)<;>(simp only[go_sem,Nat.add_assoc,Nat.left_eq_add,Nat.add_eq_left,hpr',r1,s0,s3,s5,si,hA2,hkf,h12f];try simp (disch:=omega) only[Iw])| ((with_reducible refine Y9 ?_);try simp only[AQ.then,AQ.blk,reduceIte,Nat.reduceEqDiff])| ((with_reducible refine Y0 ?_);simp only[AQ.then,AQ.blk])|refine⟨by omega,?_⟩| (with_reducible refine hKB _ _ _ ?_)|fail)
    exact fin _ H2 _ pk R R nb mr cr R.length (by omega) (fun _ _=>by repeat' (first| (with_reducible first|exact C1|refine C2 ?_ ?_)| ((with_reducible refine C0 ?_);exact CE (by omega) rfl)| ((with_reducible refine D0 ?_);first|exact CA rfl|refine CJ ?_)|fail)) r1 List.take_length.symm rfl r2 (by omega) si (by omega) (fun id d1 _=>hfr2 id d1) (by omega) hRg
 ·have hk3:k=3:=by omega
  subst hk3
  repeat' (first| (with_reducible first| (refine hK _ _ _ ?_;clear hK K)| (refine hB ?_;clear hA hB A B)|refine Z1 ?_|refine Z5 (by omega) ?_|refine hKX _ _ _ ?_)| (with_reducible first|refine Y2 fun K hK=> ?_|refine Y3 fun A B hA hB=> ?_)<;>(simp only[go_sem,g0,g3])| ((with_reducible first|refine Y8 ?_|refine Y9 ?_);try simp only[AQ.then,AQ.blk,reduceIte,Nat.reduceEqDiff])|fail)
  have q5:H1.set nx ⟨3,1,[[.isl (m3.map eN),.isl (c.lat.map aJ),.osl 1 (nx+5) 0 3 cap]]⟩ (nx+5)=some ⟨1,cap,P.map jR⟩:=by rw[aA.aC (by omega)];exact g5
  have hpo: ∀pr∈P,mV pr:=fun pr hpr=>by
   obtain⟨q1,q2⟩:=hPo pr hpr
   refine⟨by omega,fun hc=> ?_⟩
   obtain⟨x,hx,hx2⟩:=cH.1 hc
   exact of_decide_eq_true hx2 (q2 x hx)
  refine hQ _ _ _ _ _ (.inr rfl) (fZ (m:=1) rfl aA.bH rfl) ⟨dA (cU ⟨m3,c.lat,P⟩),without (fun t=>t=nx+5) _,fun t=>t=nx+5,lY (aH (bB rfl) (aH (bB rfl) (aH (bW iR q5 hP3.symm (by dsimp only;omega) rfl) eP))),kS,h _ _ pk ⟨m3,c.lat,P⟩ (by omega) ⟨hm3o,h3.2.1,h3.2.2.1,by dsimp only;omega,fun hc=> ?_⟩ ⟨by dsimp only;omega,h4.lat,by dsimp only;omega,fun pr hpr=>by have:=(hPo pr hpr).1;omega,fun pr hpr q hq=>B7.L4 ((hPo pr hpr).2 q hq)⟩ hm3 (fun k hk q hq=>hPg k hk q hq) ?_ (by omega) fun id d1 d2=> ?_⟩
  ·obtain⟨x,hx,hx2⟩:=cH.1 hc
   exact of_decide_eq_true hx2 (hpo x hx)
  ·rw[iI (F:=fun t=>t=nx+5) (show ¬i=nx+5 by omega),aA.aC (by omega)];exact gi
  ·rw[iI (F:=fun t=>t=nx+5) (show ¬id=nx+5 by omega),aA.aC (by omega)];exact hfr id d1 d2
theorem aCX (l:List Int) (hl:kZ l):aB Tryz.prog aAT [dS (l.map eU8)] .nil 0
 fun r _ n=>n=0∧r.imm=true∧ ∃(c:Cfg) (xs:List CIn),aQ c∧jO c∧(c.map=E9 false∧ ∀k,k<3→∀q∈c.cP.getD k default,aBY k q)∧xs.length≤90∧(∀x∈xs,vZ x)∧r= .tup [.agg (cU c),.c (.isl (xs.map eIn))]:=by
 have hl2:kZ (l.take 2000):=⟨by simp;omega,fun x hx=>hl.byte x (List.take_subset _ _ hx)⟩
 refine aCF rfl fun Q hQ=> ?_
 unfold aAU
 repeat' (first| (with_reducible first| (refine hK _ _ _ ?_;clear hK K)|refine Z1 ?_)| (first| (with_reducible refine Y2 fun K hK=> ?_)| (refine B7.F2 ?_)| (refine aDC (p:=0) hl2 (by omega) (by omega) rfl (fun H1 nx1 pb c hx1 hbok hbfit hmap hgood hri hpb ffr1=> ?_)))<;>(simp only[go_sem])|fail)
 refine aC8 (p:=pb) hl2 (by omega) (by omega) (by rw[aA.aC (by omega)];exact hri) fun H2 nx2 p2 xs hx2 hxl hxo hi2 ffr2=> ?_
 have f8:=(ffr2 8 (by omega) (by omega)).trans aA.bH
 have f0:=(ffr2 0 (by omega) (by omega)).trans ((aA.aC (by omega)).trans ((ffr1 0 (by omega) (by omega)).trans (show _=some ⟨3,1,[[.osl 0 0 0 0 0,.osl 0 0 0 0 0,.osl 0 0 0 0 0]]⟩ from rfl)))
 simp only[go_sem,f8,f0]
 repeat' (first| (with_reducible (refine hK _ _ _ ?_;clear hK K))| ((with_reducible refine Y8 ?_);try simp only[AQ.then,AQ.blk,reduceIte,Nat.reduceEqDiff])|fail)
 exact V4 hQ (.tup [.agg (cU c),.c (.isl (xs.map eIn))]) _ rfl (aE rfl) rfl ⟨c,xs,hbok,hbfit,⟨hmap,hgood⟩,hxl,hxo,rfl⟩
theorem aCM {l:List Int} (hl:kZ l) (h: ∀(c:Cfg) (xs:List CIn),aQ c→jO c→(c.map=E9 false∧ ∀k,k<3→∀q∈c.cP.getD k default,aBY k q)→xs.length≤90→(∀x∈xs,vZ x)→K (.tup [.agg (cU c),.c (.isl (xs.map eIn))]) H nx):aB Tryz.prog aAT [dS (l.map eU8)] H nx K:=
 (aCX l hl).fresh rfl fun r ⟨c,xs,q1,q2,q3,q4,q5,q6⟩=>q6▸h c xs q1 q2 q3 q4 q5
end
end Go.Proofs.YtegiblhkjfiooaaGreat
end
section
namespace Go.Proofs.YtegiblhkjfiooaaGreat
open Go Go.AM
set_option maxRecDepth 100000
set_option maxHeartbeats 8000000
theorem aCO:cJ Tryz.prog aAS Tryz.f28 aA9 aBT:=cJ.mk Tryz.func28 (by kernel_rfl) aCN
section
variable {H : aA} {nx : Nat} {K : D → aA → Nat → Prop}
def aED (b:Bool):List D1:=[cB b,cB false,cB false,cB false]
theorem aB9:cJ Tryz.prog aAV Tryz.f75 aA2 aBI:=cJ.mk Tryz.func75 (by kernel_rfl) aCA
theorem aA0:cJ Tryz.prog dC Tryz.f142 eV iQ:=cJ.mk Tryz.func142 (by kernel_rfl) pF
theorem aAW:cJ Tryz.prog cN Tryz.f74 dX gQ:=cJ.mk Tryz.func74 (by kernel_rfl) nA
theorem aCG {c:Cfg} {q:Req} {i0 i1:Nat} {S:Int} {b:Bool} (hS:gZ c.map q=S) (hml:c.map.length<2^40) (hs:0<S∧S≤3) (h0:i0<nx) (h1:i1<nx) (o0:H i0=some ⟨4,1,[aED b]⟩) (o1:H i1=some ⟨3,1,[cU c]⟩)
 (h: ∀H' nx',nx≤nx'→(∀id,id<nx→H' id=H id)→K (dB false) H' nx'):aB Tryz.prog aAV [dA (eB q),.one (.c (.ptr 4 i0 0 0)),.one (.c (.ptr 3 i1 0 0))] H nx K:=by
 refine aB9 rfl fun Q hQ=> ?_
 unfold aA2
 have n0:(i0=nx)=False:=eq_false (by omega)
 have n1:(i1=nx)=False:=eq_false (by omega)
 have hsl: ∀{H:aA} {nx:Nat} {K:D→aA→Nat→Prop},K (dI S) H nx→aB Tryz.prog rN [dS (c.map.map eN),dA (eB q)] H nx K:=fun h=>DE hml (by rw[hS];exact h)
 have hS3:S=1∨S=2∨S=3:=by omega
 rcases hS3 with rfl|rfl|rfl
 all_goals
  repeat' (first| (with_reducible first| (refine hK _ _ _ ?_;clear hK K)|refine Z1 ?_)| (first| (with_reducible refine Y2 fun K hK=> ?_)| (refine hsl ?_))<;>(simp only[go_sem,Nat.add_assoc,Nat.left_eq_add,Nat.add_eq_left,o0,o1,n0,n1,aED])| ((with_reducible refine Y8 ?_);try simp only[AQ.then,AQ.blk,reduceIte,Nat.reduceEqDiff])|refine⟨by omega,?_⟩|fail)
  exact hQ _ _ _ _ _ (.inr rfl) rfl (h _ _ (by omega) fun id hid=>aA.aC (by omega))
theorem aBV {l:List Req} {f:FuncId} {caps:List D1} (hl:l.length<2^40) (hc: ∀x∈caps,∃n id row col,id<nx∧x= .ptr n id row col)
 (hf: ∀x∈l,∀(H':aA) (nx':Nat) (K:D→aA→Nat→Prop),nx≤nx'→(∀id,id<nx→H' id=H id)→(∀H2 nx2,nx'≤nx2→(∀id,id<nx→H2 id=H id)→K (dB false) H2 nx2)→aB Tryz.prog f (dA (eB x)::caps.map fun d=>.one (.c d)) H' nx' K)
 (h: ∀H' nx',nx≤nx'→(∀id,id<nx→H' id=H id)→K (dB false) H' nx'):aB Tryz.prog cN [dS (l.map eB),.one (.c (.clo f caps))] H nx K:=by
 have hclo: ∀{H:aA} {F:Nat→Prop} {nh:Nat},nx≤nh→Cv1 H F id nh (.clo f caps) (.clo f caps):=fun hn=>akM fun x hx=>by
  obtain⟨n,id,row,col,h1,h2⟩:=hc x hx
  exact⟨n,id,row,col,by omega,h2⟩
 have hix: ∀{n0:Nat} {K:D→aA→Nat→Prop},nx≤n0→(∀H' nx',n0≤nx'→(∀id,id<nx→H' id=H id)→K (dI (-1)) H' nx')→aB Tryz.prog dC [dS (l.map eB),.one (.c (.clo f caps))] H n0 K:=fun {n0 K} hn0 h=>by
  refine aA0 rfl fun Q hQ=> ?_
  unfold eV
  repeat' (first| (with_reducible first| (refine hK _ _ _ ?_;clear hK K)|refine Z1 ?_|refine Z3 fun KB hKB=> ?_)| (with_reducible refine Y2 fun K hK=> ?_)<;>(simp only[go_sem])|fail)
  (have hKX:=hKB;clear hKB)
  refine aM.gP (β:=Nat) (fun k=>en [(8,dI k),(7,dI l.length),(1,.one (.c (.clo f caps))),(0,dS (l.map eB))]) (fun k H1 _=>k≤l.length∧ ∀id,id<nx→H1 id=H id) (fun k=>l.length-k) 0 ⟨noF,_,by(repeat' (first| (with_reducible first|exact C1|refine C2 ?_ ?_)| ((with_reducible refine D0 ?_);first|exact CA rfl|refine CJ ?_)|fail));all_goals exact hclo (by omega),aK,by omega,fun _ _=>rfl⟩ ?_
  rintro k H1 nx1 hnx1 ⟨hk,hfr⟩ KL hKL
  by_cases hlt:k<l.length
  ·repeat' (first| (with_reducible first| (refine hK _ _ _ ?_;clear hK K)| (refine hA ?_;clear hA hB A B)|refine Z1 ?_|refine Z2 ?_|refine Z3 fun KB hKB=> ?_|refine Z4 (by omega) ?_)| (with_reducible first|refine Y2 fun K hK=> ?_|refine Y3 fun A B hA hB=> ?_)<;>(simp only[go_sem])|refine⟨by omega,?_⟩|fail)
   refine hf _ (cC hlt) _ _ _ (by omega) hfr fun H2 nx2 hx2 hfr2=> ?_
   simp only[go_sem]
   repeat' (first| (with_reducible first| (refine hK _ _ _ ?_;clear hK K)| (refine hB ?_;clear hA hB A B)|refine Z2 ?_)| (with_reducible first|refine Y2 fun K hK=> ?_|refine Y3 fun A B hA hB=> ?_)<;>(simp only[go_sem];try simp (disch:=omega) only[Iw])| ((with_reducible refine Y0 ?_);simp only[AQ.then,AQ.blk])| (with_reducible refine hKB _ _ _ ?_)|fail)
   exact hKL _ _ _ (k+1) noF _ (by omega) (by omega) (by(repeat' (first| (with_reducible first|exact C1|refine C2 ?_ ?_)| ((with_reducible refine D0 ?_);first|exact CA rfl|refine CJ ?_)|fail));all_goals exact hclo (by omega)) aK ⟨by omega,hfr2⟩
  ·repeat' (first| (with_reducible first| (refine hK _ _ _ ?_;clear hK K)| (refine hB ?_;clear hA hB A B)|refine Z1 ?_|refine Z5 (by omega) ?_|refine hKX _ _ _ ?_)| (with_reducible first|refine Y2 fun K hK=> ?_|refine Y3 fun A B hA hB=> ?_)<;>(simp only[go_sem])| ((with_reducible first|refine Y8 ?_|refine Y9 ?_);try simp only[AQ.then,AQ.blk,reduceIte,Nat.reduceEqDiff])|fail)
   exact hQ _ _ _ _ _ (.inr rfl) rfl (h _ _ (by omega) hfr)
 refine aAW rfl fun Q hQ=> ?_
 unfold dX
 repeat' (first| (with_reducible first| (refine hK _ _ _ ?_;clear hK K)|refine Z1 ?_)| (first| (with_reducible refine Y2 fun K hK=> ?_)| (refine hix (by omega) (fun H1 nx1 hx1 hfr=> ?_)))<;>(simp only[go_sem])| ((with_reducible refine Y8 ?_);try simp only[AQ.then,AQ.blk,reduceIte,Nat.reduceEqDiff])|fail)
 exact hQ _ _ _ _ _ (.inr rfl) rfl (h _ _ (by omega) hfr)
theorem aC5 (c:Cfg) (hb:aQ c) (hcf:jO c) (h0: ∀q∈c.cP.getD 0 default,gZ c.map q=0) (h1: ∀k,1≤k→k<3→∀q∈c.cP.getD k default,gZ c.map q≠0):
 aB Tryz.prog aAS [dA (cU c),dI 0] .nil 0 fun r _ _=>r.plain=true∧r=dB true:=by
 obtain⟨hp3,hpl⟩:=hC hb
 have hml:=hb.1.1
 refine aCO rfl fun Q hQ=> ?_
 unfold aA9
 repeat' (first| (with_reducible first| (refine hK _ _ _ ?_;clear hK K)| (refine hB ?_;clear hA hB A B)|refine Z1 ?_|refine Z2 ?_|refine Z3 fun KB hKB=> ?_)| (first| (with_reducible first|refine Y2 fun K hK=> ?_|refine Y3 fun A B hA hB=> ?_)| (refine W6 hcf ?_)| (with_reducible refine oR ?_))<;>(simp only[go_sem,Nat.add_assoc,Nat.left_eq_add,Nat.add_eq_left,eq_true hb])|refine⟨by omega,?_⟩|fail)
 (have hKX:=hKB;clear hKB)
 obtain⟨pr,hpr⟩: ∃pr,pr=c.cP.getD 0 default:=⟨_,rfl⟩
 rw[←hpr] at h0 ⊢
 have hpr12:pr.length≤12:=by rw[hpr];exact hpl 0
 refine aM.gP (β:=Nat) (fun k=>en [(24,dI k),(23,dI pr.length),(22,dS (pr.map eB)),(5,.one (.c (.ptr 4 10 0 0))),(2,.one (.c (.ptr 3 0 0 0))),(1,dI 0)])
  (fun k H1 _=>k≤pr.length∧H1 0=some ⟨3,1,[cU c]⟩∧H1 10=some ⟨4,1,[aED (decide (0<k))]⟩) (fun k=>pr.length-k) 0 ⟨noF,_,by repeat' (first| (with_reducible first|exact C1|refine C2 ?_ ?_)| ((with_reducible refine C0 ?_);exact CE (by omega) rfl)| ((with_reducible refine D0 ?_);first|exact CA rfl|refine CJ ?_)|fail),aK,by omega,rfl,rfl⟩ ?_
 rintro k H1 nx1 hnx ⟨hk,g0,g10⟩ KL hKL
 have hA:bQ nx1 [0,10]:=AM.apart (by simp) (by simp;omega)
 simp only[bQ,eZ] at hA
 by_cases hlt:k<pr.length
 ·obtain⟨q,hq⟩: ∃q,q=pr.getD k default:=⟨_,rfl⟩
  have hq':pr.getD k default=q:=hq.symm
  have hq0:gZ c.map q=0:=h0 q (by rw[hq];exact cC hlt)
  have hsl: ∀{H:aA} {nx:Nat} {K:D→aA→Nat→Prop},K (dI 0) H nx→aB Tryz.prog rN [dS (c.map.map eN),dA (eB q)] H nx K:=fun h=>DE (by omega) (by rw[hq0];exact h)
  repeat' (first| (with_reducible first| (refine hK _ _ _ ?_;clear hK K)| (refine hA ?_;clear hA hB A B)|refine Z1 ?_|refine Z2 ?_|refine Z3 fun KB hKB=> ?_|refine Z4 (by omega) ?_)| (first| (with_reducible first|refine Y2 fun K hK=> ?_|refine Y3 fun A B hA hB=> ?_)| (refine hsl ?_))<;>(simp only[go_sem,Nat.add_assoc,Nat.left_eq_add,Nat.add_eq_left,hq',g0,g10,hA,aED];try simp (disch:=omega) only[Iw])| ((with_reducible refine Y0 ?_);simp only[AQ.then,AQ.blk])|refine⟨by omega,?_⟩| (with_reducible refine hKB _ _ _ ?_)|fail)
  exact hKL _ _ _ (k+1) noF _ (by omega) (by omega) (by repeat' (first| (with_reducible first|exact C1|refine C2 ?_ ?_)| ((with_reducible refine C0 ?_);exact CE (by omega) rfl)| ((with_reducible refine D0 ?_);first|exact CA rfl|refine CJ ?_)|fail)) aK ⟨by omega,by rw[aA.aC (by omega),aA.aC (by omega)];exact g0,by rw[aA.bH];simp[aED]⟩
 ·repeat' (first| (with_reducible first| (refine hK _ _ _ ?_;clear hK K)| (refine hB ?_;clear hA hB A B)|refine Z1 ?_|refine Z3 fun KB hKB=> ?_|refine Z5 (by omega) ?_|refine hKX _ _ _ ?_)| (with_reducible first|refine Y2 fun K hK=> ?_|refine Y3 fun A B hA hB=> ?_)<;>(simp only[go_sem,Nat.add_assoc,Nat.left_eq_add,Nat.add_eq_left,g0,g10,hp3])| ((with_reducible refine Y9 ?_);try simp only[AQ.then,AQ.blk,reduceIte,Nat.reduceEqDiff])|fail)
  (have hKY:=hKB;clear hKB)
  obtain⟨b,hbd⟩: ∃b,b=decide (0<k):=⟨_,rfl⟩
  rw[←hbd] at g10
  refine aM.gP (β:=Nat) (fun k=>en [(37,dI k),(36,dI 3),(35,dS (c.cP.map jR)),(5,.one (.c (.ptr 4 10 0 0))),(2,.one (.c (.ptr 3 0 0 0))),(1,dI 0)])
   (fun k H1 _=>k≤3∧H1 0=some ⟨3,1,[cU c]⟩∧H1 10=some ⟨4,1,[aED b]⟩) (fun k=>3-k) 0 ⟨noF,_,by repeat' (first| (with_reducible first|exact C1|refine C2 ?_ ?_)| ((with_reducible refine C0 ?_);exact CE (by omega) rfl)| ((with_reducible refine D0 ?_);first|exact CA rfl|refine CJ ?_)|fail),aK,by omega,g0,g10⟩ ?_
  clear g0 g10 hk hbd hlt
  rintro k H2 nx2 hnx2 ⟨hk,g0,g10⟩ KM hKM
  by_cases hlt:k<3
  ·by_cases hk0:k=0
   ·subst hk0
    repeat' (first| (with_reducible first| (refine hK _ _ _ ?_;clear hK K)| (refine hA ?_;clear hA hB A B)| (refine hB ?_;clear hA hB A B)|refine Z1 ?_|refine Z2 ?_|refine Z3 fun KB hKB=> ?_|refine Z4 (by omega) ?_)| (with_reducible first|refine Y2 fun K hK=> ?_|refine Y3 fun A B hA hB=> ?_|refine Y5 (by omega) ?_)<;>(simp only[go_sem,hp3];try simp (disch:=omega) only[Iw])| ((with_reducible refine Y0 ?_);simp only[AQ.then,AQ.blk])|refine⟨by omega,?_⟩| (with_reducible refine hKB _ _ _ ?_)|fail)
    exact hKM _ _ _ 1 noF _ (by omega) (by omega) (by repeat' (first| (with_reducible first|exact C1|refine C2 ?_ ?_)| ((with_reducible refine C0 ?_);exact CE (by omega) rfl)| ((with_reducible refine D0 ?_);first|exact CA rfl|refine CJ ?_)|fail)) aK ⟨by omega,g0,g10⟩
   ·have hkf:((k:Int)=0)=False:=eq_false (by omega)
    have hpk:=hpl k
    have hct: ∀{H':aA} {n:Nat} {K:D→aA→Nat→Prop},nx2≤n→H' 0=some ⟨3,1,[cU c]⟩→H' 10=some ⟨4,1,[aED b]⟩→(∀H3 n3,n≤n3→(∀id,id<n→H3 id=H' id)→K (dB false) H3 n3)→aB Tryz.prog cN [dS ((c.cP.getD k default).map eB),.one (.c (.clo aAV [.ptr 4 10 0 0,.ptr 3 0 0 0]))] H' n K:=fun {H' n K} hn e0 e10 h=>
     aBV (by omega) (fun x hx=>by simp only[List.mem_cons,List.not_mem_nil,or_false] at hx;rcases hx with rfl|rfl<;>exact⟨_,_,_,_,by omega,rfl⟩) (fun q hq H4 az7 aES hn4 f4 h4=>by
      have hs:=aiT hb (q:=q)
      have hs0:=h1 k (by omega) hlt q hq
      exact aCG (c:=c) rfl (by omega) (by omega) (by omega) (by omega) ((f4 10 (by omega)).trans e10) ((f4 0 (by omega)).trans e0) fun H5 az8 hn5 f5=>h4 _ _ hn5 fun id hid=>(f5 id (by omega)).trans (f4 id hid)) h
    repeat' (first| (with_reducible first| (refine hK _ _ _ ?_;clear hK K)| (refine hA ?_;clear hA hB A B)|refine Z1 ?_|refine Z2 ?_|refine Z3 fun KB hKB=> ?_|refine Z4 (by omega) ?_)| (with_reducible first|refine Y2 fun K hK=> ?_|refine Y3 fun A B hA hB=> ?_)<;>(simp only[go_sem,hp3,hkf])|refine⟨by omega,?_⟩|fail)
    refine hct (by omega) g0 g10 fun H3 n3 hx3 f3=> ?_
    simp only[go_sem]
    repeat' (first| (with_reducible first| (refine hK _ _ _ ?_;clear hK K)| (refine hB ?_;clear hA hB A B)|refine Z2 ?_)| (with_reducible first|refine Y2 fun K hK=> ?_|refine Y3 fun A B hA hB=> ?_)<;>(simp only[go_sem];try simp (disch:=omega) only[Iw])| ((with_reducible refine Y0 ?_);simp only[AQ.then,AQ.blk])| (with_reducible refine hKB _ _ _ ?_)|fail)
    exact hKM _ _ _ (k+1) noF _ (by omega) (by omega) (by repeat' (first| (with_reducible first|exact C1|refine C2 ?_ ?_)| ((with_reducible refine C0 ?_);exact CE (by omega) rfl)| ((with_reducible refine D0 ?_);first|exact CA rfl|refine CJ ?_)|fail)) aK ⟨by omega,(f3 0 (by omega)).trans g0,(f3 10 (by omega)).trans g10⟩
  ·repeat' (first| (with_reducible first| (refine hK _ _ _ ?_;clear hK K)| (refine hB ?_;clear hA hB A B)|refine Z1 ?_|refine Z5 (by omega) ?_|refine hKY _ _ _ ?_)| (with_reducible first|refine Y2 fun K hK=> ?_|refine Y3 fun A B hA hB=> ?_)<;>(simp only[go_sem,hp3])| ((with_reducible first|refine Y8 ?_|refine Y9 ?_);try simp only[AQ.then,AQ.blk,reduceIte,Nat.reduceEqDiff])|fail)
   exact hQ _ _ _ _ _ (.inr rfl) rfl ⟨rfl,rfl⟩
theorem aC1 {c:Cfg} (hb:aQ c) (hcf:jO c) (h0: ∀q∈c.cP.getD 0 default,gZ c.map q=0) (h1: ∀k,1≤k→k<3→∀q∈c.cP.getD k default,gZ c.map q≠0) (h:K (dB true) H nx):aB Tryz.prog aAS [dA (cU c),dI 0] H nx K:=
 (aC5 c hb hcf h0 h1).pure rfl (aI ⟨aE rfl,aE rfl,trivial⟩) fun r hr=>hr▸h
end
end Go.Proofs.YtegiblhkjfiooaaGreat
end
