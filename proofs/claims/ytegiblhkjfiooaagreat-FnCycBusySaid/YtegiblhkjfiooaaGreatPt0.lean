/- Texts laid together by a program: rules, contracts and the walk that leads to the law. -/
import Derived.Test.YtegiblhkjfiooaaGreatPb3
import Derived.Test.YtegiblhkjfiooaaGreatPb20
import Derived.Test.YtegiblhkjfiooaaGreatPb19
import Derived.Test.YtegiblhkjfiooaaGreatPb22
set_option linter.unusedVariables false
set_option linter.unusedSimpArgs false
set_option linter.unusedSectionVars false
section
namespace Go.Proofs.YtegiblhkjfiooaaGreat
open Go Go.AM
set_option maxRecDepth 100000
def a0:AC:=
 (.seq (.region [rq 0 2 (.move (.kv (.bool false)))] 1 [0])
 (.seq (.seq (.region [RM 0 8 0,
 rq 1 9 (.len false (.tm 8)),
 rq 2 10 (.bin .gtr (.tm 9) (ki 1048576))] 3 [0,10])
 (.cond (.tm 10)
 (.seq (.region [rq 0 2 (.move (.kv (.bool true)))] 1 [2])
 .ret)
 .skip))
 (.seq (.region [RM 0 12 0,
 rq 1 13 (.call u7 [(.tm 12)]),
 RM 2 11 13,
 rq 3 14 (.ext (.tm 11) 0),
 rq 4 15 (.ext (.tm 11) 1),
 rq 5 3 (.alloc [OZ,OZ,OZ]),
 rn 6 (.store 3 true (.tm 3) (.tm 14)),
 RM 7 4 15] 8 [3,4])
 (.seq (.region [rq 0 16 (.load 3 true (.tm 3)),
 RM 1 17 4,
 rq 2 18 (.call IM [(.tm 16),(.tm 17)]),
 rq 3 5 (.alloc [OZ,OZ,OZ,OZ,OZ]),
 rn 4 (.store 5 true (.tm 5) (.tm 18))] 5 [3,5])
 (.seq (.seq (.region [rq 0 19 (.load 3 true (.tm 3)),
 rq 1 20 (.load 5 true (.tm 5)),
 rq 2 21 (.call mW [(.tm 19),(.tm 20)]),
 rq 3 22 (.un .not (.tm 21))] 4 [3,5,22])
 (.cond (.tm 22)
 (.seq (.region [rq 0 2 (.move (.kv (.bool false)))] 1 [2])
 .ret)
 .skip))
 (.seq (.seq (.region [rq 0 6 (.move (ki 0))] 1 [3,5,6])
 (.block 0
 (.loop
 (.seq (.seq (.region [RM 0 23 6,
 rq 1 24 (.bin .lss (.tm 23) (ki 40)),
 RM 2 25 24,
 GQ 3 26 (.load 3 true (.tm 3)) 25 true,
 GQ 4 27 (.load 5 true (.tm 5)) 25 true,
 GQ 5 28 (.call xJ [(.tm 26),(.tm 27)]) 25 true,
 GQ 6 29 (.un .not (.tm 28)) 25 true,
 rq 7 30 (.pick (.tm 25) (.tm 29) (.kv (.bool false)))] 8 [3,5,6,30])
 (.cond (.tm 30)
 .skip
 (.exit 0)))
 (.seq (.block 1
 (.seq (.region [⟨0,(some 33),.load 3 true (.tm 3),none,[4],[],true⟩,
 ⟨1,(some 34),.load 5 true (.tm 5),none,[4],[],true⟩,
 rq 4 7 (.alloc [OZ,OZ,OZ,OZ,OZ]),
 ⟨2,(some 35),.call DB [],none,[4],[0,1],false⟩,
 ⟨3,(some 36),.call FO [(.tm 33),(.tm 34),(.tm 35)],none,[4],[],false⟩,
 rn 5 (.store 5 true (.tm 7) (.tm 36))] 6 [3,5,6,7])
 (.seq (.seq (.region [rq 0 37 (.load 5 true (.tm 7)),
 rq 1 38 (.load 5 true (.tm 5)),
 rq 2 39 (.call C6 [(.tm 37),(.tm 38)])] 3 [3,5,6,7,39])
 (.cond (.tm 39)
 (.seq (.region [rq 0 2 (.move (.kv (.bool false)))] 1 [2])
 .ret)
 .skip))
 (.region [rq 0 40 (.load 5 true (.tm 7)),
 rn 1 (.store 5 true (.tm 5) (.tm 40))] 2 [3,5,6]))))
 (.region [RM 0 31 6,
 rq 1 32 (.bin .add (.tm 31) (ki 1)),
 RM 2 6 32] 3 [3,5,6]))))))
 (.seq (.region [rq 0 41 (.call E2 []),
 RM 1 2 41] 2 [2])
 .ret)))))))
def a3:List Cert:=[⟨[],[0]⟩,⟨[],[0,10]⟩,⟨[],[2]⟩,⟨[],[3,4]⟩,⟨[],[3,5]⟩,⟨[],[3,5,22]⟩,⟨[],[2]⟩,⟨[],[3,5,6]⟩,⟨[],[3,5,6,30]⟩,⟨[(0,[4],[],true),(1,[4],[],true),cz 4,(2,[4],[0,1],false),(3,[4],[],false),cz 5],[3,5,6,7]⟩,⟨[],[3,5,6,7,39]⟩,⟨[],[2]⟩,⟨[],[3,5,6]⟩,⟨[],[3,5,6]⟩,⟨[],[2]⟩]
def a1:List aW:=[.tm 2]
theorem a4:aO Tryz.prog Tryz.f4 a3=some (a0,a1):=by kernel_rfl
end Go.Proofs.YtegiblhkjfiooaaGreat
end
section
namespace Go.Proofs.YtegiblhkjfiooaaGreat
open Go Go.AM
set_option maxRecDepth 100000
set_option maxHeartbeats 8000000
theorem a2:cJ Tryz.prog agC Tryz.f4 a0 a1:=cJ.mk Tryz.func4 (by kernel_rfl) a4
theorem a5 (l:List Int) (hby: ∀x∈l,0≤x∧x<256):aB Tryz.prog agC [dS (l.map eU8)] .nil 0 fun rr _ _=>rr.plain=true∧rr=dB true:=by
 refine a2 rfl fun Q hQ=> ?_
 unfold a0
 by_cases hbig:l.length≤1048576
 case neg=>
  repeat' (first| (with_reducible first| (refine hK _ _ _ ?_;clear hK K)| (refine hA ?_;clear hA hB A B)|refine Z1 ?_|refine Z4 (by omega) ?_)| (with_reducible first|refine Y2 fun K hK=> ?_|refine Y3 fun A B hA hB=> ?_)<;>(simp only[go_sem])| ((with_reducible refine Y8 ?_);try simp only[AQ.then,AQ.blk,reduceIte,Nat.reduceEqDiff])|fail)
  exact hQ _ _ _ _ _ (.inr rfl) rfl ⟨rfl,rfl⟩
 have hl:kZ l:=⟨by omega,hby⟩
 repeat' (first| (with_reducible first| (refine hK _ _ _ ?_;clear hK K)| (refine hB ?_;clear hA hB A B)|refine Z1 ?_|refine Z2 ?_|refine Z5 (by omega) ?_)| (first| (with_reducible first|refine Y2 fun K hK=> ?_|refine Y3 fun A B hA hB=> ?_)| (refine ajF hl (fun c xs hb hf hxl hxo=> ?_))| (refine anF hb hf (by omega) hxo (fun H1 nx1 hx1 ffr1=> ?_)))<;>(simp only[go_sem])|fail)
 have e9:=(ffr1 9 (by omega)).trans (show _=some ⟨3,1,[cU c]⟩ from rfl)
 have hSk:COk c (sQ c HY xs):=(afM hb (anK c)).1
 generalize sQ c HY xs=S at*
 clear ffr1
 simp only[go_sem,e9]
 repeat' (first| (with_reducible first| (refine hK _ _ _ ?_;clear hK K)| (refine hB ?_;clear hA hB A B)|refine Z1 ?_|refine Z2 ?_|refine Z3 fun KB hKB=> ?_)| (first| (with_reducible first|refine Y2 fun K hK=> ?_|refine Y3 fun A B hA hB=> ?_)| (refine C5 hb hf hSk ?_))<;>(simp only[go_sem,e9])|fail)
 (have hKX:=hKB;clear hKB)
 refine aM.gP (β:=Nat×CSt) (fun u=>en [(6,dI u.1),(5,.one (.c (.ptr 5 15 0 0))),(3,.one (.c (.ptr 3 9 0 0)))])
  (fun u H3 _=>u.1≤40∧COk c u.2∧H3 9=some ⟨3,1,[cU c]⟩∧H3 15=some ⟨5,1,[eI u.2]⟩) (fun u=>40-u.1) (0,S) ⟨noF,_,by repeat' (first| (with_reducible first|exact C1|refine C2 ?_ ?_)| ((with_reducible refine C0 ?_);exact CE (by omega) rfl)| ((with_reducible refine D0 ?_);first|exact CA rfl|refine CJ ?_)|fail),aK,by dsimp only;omega,hSk,by rw[aA.aC (by omega)];exact e9,aA.bH⟩ ?_
 clear hSk e9
 rintro⟨k,S⟩ H3 nx3 hnx3 ⟨hk,hSk,g9,g15⟩ KL hKL
 dsimp only at hk hSk g15
 have hA:bQ nx3 [9,15]:=AM.apart (by simp) (by simp;omega)
 simp only[bQ,eZ] at hA
 by_cases hlt:k<40
 ·by_cases hd:(S.told.length:Int)=jS (GA c) 3
  ·have hdT:decide ((S.told.length:Int)=jS (GA c) 3)=true:=decide_eq_true hd
   have hcd: ∀{H:aA} {nx:Nat} {K:D→aA→Nat→Prop},K (dB true) H nx→aB Tryz.prog xJ [dA (cU c),dA (eI S)] H nx K:=fun h=>ak3 hb hf hSk (by rw[hdT];exact h)
   repeat' (first| (with_reducible first| (refine hK _ _ _ ?_;clear hK K)| (refine hB ?_;clear hA hB A B)|refine Z1 ?_|refine hKX _ _ _ ?_)| (first| (with_reducible first|refine Y2 fun K hK=> ?_|refine Y3 fun A B hA hB=> ?_|refine Y4 (by omega) ?_)| (refine hcd ?_)| (with_reducible refine apY ?_))<;>(simp only[go_sem,g9,g15])| ((with_reducible first|refine Y8 ?_|refine Y9 ?_);try simp only[AQ.then,AQ.blk,reduceIte,Nat.reduceEqDiff])|fail)
   exact hQ _ _ _ _ _ (.inr rfl) rfl ⟨rfl,rfl⟩
  ·have hdF:decide ((S.told.length:Int)=jS (GA c) 3)=false:=decide_eq_false hd
   have hcd: ∀{H:aA} {nx:Nat} {K:D→aA→Nat→Prop},K (dB false) H nx→aB Tryz.prog xJ [dA (cU c),dA (eI S)] H nx K:=fun h=>ak3 hb hf hSk (by rw[hdF];exact h)
   have hne:=ar1 hb hSk (fun hf=>hd ((asX hSk).2 hf))
   have hS2:COk c (vF c pU S):=PN hb hSk
   have a6: ∀G:aA,msk (nx3+8) [4] G 9=G 9:=fun G=>by unfold msk;rw[if_neg (by simp)]
   have m15: ∀G:aA,msk (nx3+8) [4] G 15=G 15:=fun G=>by unfold msk;rw[if_neg (by simp;omega)]
   repeat' (first| (with_reducible first| (refine hK _ _ _ ?_;clear hK K)| (refine hA ?_;clear hA hB A B)|refine Z1 ?_|refine Z2 ?_|refine Z3 fun KB hKB=> ?_)| (first| (with_reducible first|refine Y2 fun K hK=> ?_|refine Y3 fun A B hA hB=> ?_|refine Y4 (by omega) ?_)| (refine hcd ?_)| (refine XE (fun H4 nx4 hx4 ffr4=> ?_)))<;>(simp only[go_sem,g9,g15,a6,m15,hA,Nat.add_assoc,Nat.left_eq_add,Nat.add_eq_left])|fail)
   have um: ∀(i:Nat) (A B:aA),i≠nx3+12→dT (nx3+8) [4] A B i=B i:=fun i A B h=>by unfold dT;rw[if_neg (by simp;omega)]
   have um2: ∀A B:aA,dT (nx3+8) [4] A B (nx3+12)=A (nx3+12):=fun A B=>by unfold dT;rw[if_pos (by simp)]
   obtain⟨G,hG⟩: ∃G,G=dT (nx3+8) [4] (H3.set (nx3+12) ⟨5,1,[[.osl 0 0 0 0 0,.osl 0 0 0 0 0,.osl 0 0 0 0 0,.osl 0 0 0 0 0,.osl 0 0 0 0 0]]⟩) H4:=⟨_,rfl⟩
   rw[←hG]
   have a7:G 9=some ⟨3,1,[cU c]⟩:=by rw[hG,um _ _ _ (by omega),ffr4 _ (by omega),a6];exact g9
   have q15:G 15=some ⟨5,1,[eI S]⟩:=by rw[hG,um _ _ _ (by omega),ffr4 _ (by omega),m15];exact g15
   have q12:G (nx3+12)=some ⟨5,1,[[.osl 0 0 0 0 0,.osl 0 0 0 0 0,.osl 0 0 0 0 0,.osl 0 0 0 0 0,.osl 0 0 0 0 0]]⟩:=by rw[hG,um2];exact aA.bH
   clear hG ffr4 g9 g15 hA
   refine⟨⟨fun _=>by rw[q15];rfl,fun _=>by rw[a7];rfl⟩,?_⟩
   refine ajU hb hf hSk ⟨rfl,rfl,rfl⟩ fun H5 nx5 hx5 ffr5=> ?_
   obtain⟨S2,hS2e⟩: ∃S2,S2=vF c pU S:=⟨_,rfl⟩
   rw[←hS2e] at hne hS2 ⊢
   clear hS2e
   refine(fun(h: ∀G',G'=dT (nx3+8) [4] G H5→DQ _ _ _ _ _ _ _ _ _ _ _ _ _ _)=>h _ rfl) fun G' hG'=> ?_
   have a8:G' 9=some ⟨3,1,[cU c]⟩:=by rw[hG',um _ _ _ (by omega),ffr5 _ (by omega),a6];exact a7
   have r15:G' 15=some ⟨5,1,[eI S]⟩:=by rw[hG',um _ _ _ (by omega),ffr5 _ (by omega),m15];exact q15
   have r12:G' (nx3+12)=some ⟨5,1,[[.osl 0 0 0 0 0,.osl 0 0 0 0 0,.osl 0 0 0 0 0,.osl 0 0 0 0 0,.osl 0 0 0 0 0]]⟩:=by rw[hG',um2];exact q12
   have hcf: ∀{H:aA} {nx:Nat} {K:D→aA→Nat→Prop},K (dB false) H nx→aB Tryz.prog C6 [dA (eI S2),dA (eI S)] H nx K:=fun h=>aoR (hS2.sz hb) (hSk.sz hb) (by rw[decide_eq_false hne];exact h)
   simp only[go_sem]
   rw[←hG']
   clear hG' ffr5
   simp only[go_sem,r12]
   refine hK _ _ _ ?_
   clear hK K
   have a9:(9=nx3+12)=False:=eq_false (by omega)
   have n15:(nx3=3)=False:=eq_false (by omega)
   have hA:bQ nx5 [9,15,nx3+12]:=AM.apart (by simp;omega) (by simp;omega)
   simp only[bQ,eZ] at hA
   repeat' (first| (with_reducible first| (refine hK _ _ _ ?_;clear hK K)| (refine hB ?_;clear hA hB A B)|refine Z1 ?_|refine Z2 ?_)| (first| (with_reducible first|refine Y2 fun K hK=> ?_|refine Y3 fun A B hA hB=> ?_)| (refine hcf ?_))<;>(simp only[go_sem,a8,r15,r12,a9,n15,hA];try simp (disch:=omega) only[Iw])| ((with_reducible refine Y0 ?_);simp only[AQ.then,AQ.blk])| (with_reducible refine hKB _ _ _ ?_)|fail)
   exact hKL _ _ _ (k+1,S2) noF _ (by omega) (by dsimp only;omega) (by repeat' (first| (with_reducible first|exact C1|refine C2 ?_ ?_)| ((with_reducible refine C0 ?_);exact CE (by omega) rfl)| ((with_reducible refine D0 ?_);first|exact CA rfl|refine CJ ?_)|fail)) aK ⟨by dsimp only;omega,hS2,by rw[aA.aC (by omega),aA.aC (by omega)];exact a8,aA.bH⟩
 ·repeat' (first| (with_reducible first| (refine hK _ _ _ ?_;clear hK K)| (refine hB ?_;clear hA hB A B)|refine Z1 ?_|refine hKX _ _ _ ?_)| (first| (with_reducible first|refine Y2 fun K hK=> ?_|refine Y3 fun A B hA hB=> ?_|refine Y5 (by omega) ?_)| (with_reducible refine apY ?_))<;>(simp only[go_sem,g9,g15])| ((with_reducible first|refine Y8 ?_|refine Y9 ?_);try simp only[AQ.then,AQ.blk,reduceIte,Nat.reduceEqDiff])|fail)
  exact hQ _ _ _ _ _ (.inr rfl) rfl ⟨rfl,rfl⟩
end Go.Proofs.YtegiblhkjfiooaaGreat
end
