/- Texts laid together by a program: rules, contracts and the walk that leads to the law. -/
import Derived.Test.YtegiblhkjfiooaaGreatPb8
import Derived.Test.YtegiblhkjfiooaaGreatPb3
set_option linter.unusedVariables false
set_option linter.unusedSimpArgs false
set_option linter.unusedSectionVars false
section
namespace Go.Proofs.YtegiblhkjfiooaaGreat
open Go Go.AM
set_option maxRecDepth 100000
set_option maxHeartbeats 8000000
section
variable {H : aA} {nx : Nat} {K : D → aA → Nat → Prop}
abbrev dW (n:Int):D:=.one (.c (.v (.int .u64 n)))
theorem K7:aB Tryz.prog eF [dW 1,dW 6] .nil 0 fun rr _ _=>rr.plain=true∧rr= .tup [.c (.v (.int .u64 0)),.c (.v (.int .u64 6))]:=by
 refine pB rfl fun Q hQ=> ?_
 unfold iN
 repeat' (first| (with_reducible first| (refine hK _ _ _ ?_;clear hK K)|refine Z1 ?_)| (with_reducible refine Y2 fun K hK=> ?_)<;>(simp only[go_sem])| ((with_reducible refine Y8 ?_);try simp only[AQ.then,AQ.blk,reduceIte,Nat.reduceEqDiff])|fail)
 exact aZ hQ (.tup [.c (.v (.int .u64 0)),.c (.v (.int .u64 6))]) (by rfl) rfl rfl
theorem LS (h:K (.tup [.c (.v (.int .u64 0)),.c (.v (.int .u64 6))]) H nx):aB Tryz.prog eF [dW 1,dW 6] H nx K:=
 (K7).pure rfl (aI ⟨aE rfl,aE rfl,trivial⟩) (fun r hr=>hr▸h)
theorem OK:aB Tryz.prog cE [dW 1,dW 6] .nil 0 fun rr _ _=>rr.plain=true∧rr= .tup [.c (.v (.int .u64 0)),.c (.v (.int .u64 6))]:=by
 refine tM rfl fun Q hQ=> ?_
 unfold kO
 repeat' (first| (with_reducible first| (refine hK _ _ _ ?_;clear hK K)| (refine hB ?_;clear hA hB A B)|refine Z1 ?_|refine Z2 ?_)| (first| (with_reducible first|refine Y2 fun K hK=> ?_|refine Y3 fun A B hA hB=> ?_)| (with_reducible refine LS ?_))<;>(simp only[go_sem])| ((with_reducible refine Y8 ?_);try simp only[AQ.then,AQ.blk,reduceIte,Nat.reduceEqDiff])|fail)
 all_goals first|with_reducible refine aZ hQ _ rfl rfl ?_|skip
 all_goals rfl
theorem N8 (h:K (.tup [.c (.v (.int .u64 0)),.c (.v (.int .u64 6))]) H nx):aB Tryz.prog cE [dW 1,dW 6] H nx K:=
 (OK).pure rfl (aI ⟨aE rfl,aE rfl,trivial⟩) (fun r hr=>hr▸h)
theorem zL:aB Tryz.prog eJ [dO 1 0 1 1,dI 6] (hp [(0,⟨1,1,[(-1:Int)].map aJ⟩)]) 1
 fun r H' n'=>n'=2∧H'=hp [(1,⟨1,6,(List.replicate 6 (-1:Int)).map aJ⟩)]∧r=dO 1 1 6 6:=by
 refine yV rfl fun Q hQ=> ?_
 unfold i7
 have w1:IntKind.u64.wrap 1=1:=by decide
 have w6:IntKind.u64.wrap 6=6:=by decide
 have m16:min 1 6=1:=rfl
 have h11:((1:Nat):Int)=1:=rfl
 generalize hl0:[(-1:Int)]=l0 at*
 have hlen:l0.length=1:=by subst hl0;rfl
 repeat' (first| (with_reducible first| (refine hK _ _ _ ?_;clear hK K)| (refine hB ?_;clear hA hB A B)|refine Z1 ?_|refine Z2 ?_|refine Z3 fun KB hKB=> ?_)| (first| (with_reducible first|refine Y2 fun K hK=> ?_|refine Y3 fun A B hA hB=> ?_)| (with_reducible refine N8 ?_))<;>(simp only[go_sem,hlen,w1,w6,h11,m16];try simp (disch:=omega) only[Iw])|refine⟨by omega,?_⟩|fail)
 (have hKX:=hKB;clear hKB)
 obtain⟨R,hR⟩: ∃R:Nat→List Int,R=fun n=>List.replicate n (-1:Int)++List.replicate (6-n) 0:=⟨_,rfl⟩
 refine aM.sG 1 (β:=Nat) (fun b n=>en [(8,dI n),(7,dO 1 b 6 6)]) (fun b n=>hp [(b,⟨1,6,(R n).map aJ⟩)]) (fun n=>n=1∨n=2∨n=4∨n=6) (fun n=>6-n) 1
  (by(refine cR [23] (by omega) (by repeat' (first| (with_reducible first|exact C1|refine C2 ?_ ?_)| ((with_reducible refine C0 ?_);exact CQ (by omega) rfl rfl (by rfl) rfl)| ((with_reducible refine D0 ?_);first|exact CA rfl|refine CJ ?_)|fail)) ⟨⟨by simp,by simp[sgL],_,rfl,bP (aG bF _) (by subst hR;subst hl0;rfl) rfl⟩,trivial⟩ (by simp[sgL]))) (.inl rfl) ?_
 intro n hn KL hKL
 have m15:min 1 5=1:=rfl
 have m24:min 2 4=2:=rfl
 have m42:min 4 2=2:=rfl
 have hRl: ∀n,n≤6→(R n).length=6:=fun n hn=>by subst hR;simp;omega
 have r1:=hRl 1 (by decide)
 have r2:=hRl 2 (by decide)
 have r4:=hRl 4 (by decide)
 rcases hn with rfl|rfl|rfl|rfl
 ·repeat' (first| (with_reducible first| (refine hK _ _ _ ?_;clear hK K)| (refine hA ?_;clear hA hB A B)|refine Z1 ?_|refine Z2 ?_|refine Z3 fun KB hKB=> ?_|refine Z4 (by omega) ?_)| (with_reducible first|refine Y2 fun K hK=> ?_|refine Y3 fun A B hA hB=> ?_)<;>(simp only[go_sem,r1,m15];try simp (disch:=omega) only[Iw])| ((with_reducible refine Y0 ?_);simp only[AQ.then,AQ.blk])|refine⟨by omega,?_⟩| (with_reducible refine hKB _ _ _ ?_)|fail)
  exact hKL _ _ _ 2 (by omega) (by(refine cR [29] (by omega) (by repeat' (first| (with_reducible first|exact C1|refine C2 ?_ ?_)| ((with_reducible refine C0 ?_);exact CQ (by omega) rfl rfl (by rfl) rfl)| ((with_reducible refine D0 ?_);first|exact CA rfl|refine CJ ?_)|fail)) ⟨⟨by simp,by simp[sgL],_,rfl,bP (aG bF _) (by subst hR;rfl) rfl⟩,trivial⟩ (by simp[sgL]))) (by omega) (by omega)
 ·repeat' (first| (with_reducible first| (refine hK _ _ _ ?_;clear hK K)| (refine hA ?_;clear hA hB A B)|refine Z1 ?_|refine Z2 ?_|refine Z3 fun KB hKB=> ?_|refine Z4 (by omega) ?_)| (with_reducible first|refine Y2 fun K hK=> ?_|refine Y3 fun A B hA hB=> ?_)<;>(simp only[go_sem,r2,m24];try simp (disch:=omega) only[Iw])| ((with_reducible refine Y0 ?_);simp only[AQ.then,AQ.blk])|refine⟨by omega,?_⟩| (with_reducible refine hKB _ _ _ ?_)|fail)
  exact hKL _ _ _ 4 (by omega) (by(refine cR [29] (by omega) (by repeat' (first| (with_reducible first|exact C1|refine C2 ?_ ?_)| ((with_reducible refine C0 ?_);exact CQ (by omega) rfl rfl (by rfl) rfl)| ((with_reducible refine D0 ?_);first|exact CA rfl|refine CJ ?_)|fail)) ⟨⟨by simp,by simp[sgL],_,rfl,bP (aG bF _) (by subst hR;rfl) rfl⟩,trivial⟩ (by simp[sgL]))) (by omega) (by omega)
 ·repeat' (first| (with_reducible first| (refine hK _ _ _ ?_;clear hK K)| (refine hA ?_;clear hA hB A B)|refine Z1 ?_|refine Z2 ?_|refine Z3 fun KB hKB=> ?_|refine Z4 (by omega) ?_)| (with_reducible first|refine Y2 fun K hK=> ?_|refine Y3 fun A B hA hB=> ?_)<;>(simp only[go_sem,r4,m42];try simp (disch:=omega) only[Iw])| ((with_reducible refine Y0 ?_);simp only[AQ.then,AQ.blk])|refine⟨by omega,?_⟩| (with_reducible refine hKB _ _ _ ?_)|fail)
  exact hKL _ _ _ 6 (by omega) (by(refine cR [29] (by omega) (by repeat' (first| (with_reducible first|exact C1|refine C2 ?_ ?_)| ((with_reducible refine C0 ?_);exact CQ (by omega) rfl rfl (by rfl) rfl)| ((with_reducible refine D0 ?_);first|exact CA rfl|refine CJ ?_)|fail)) ⟨⟨by simp,by simp[sgL],_,rfl,bP (aG bF _) (by subst hR;rfl) rfl⟩,trivial⟩ (by simp[sgL]))) (by omega) (by omega)
 ·repeat' (first| (with_reducible first| (refine hK _ _ _ ?_;clear hK K)| (refine hB ?_;clear hA hB A B)|refine Z1 ?_|refine Z5 (by omega) ?_|refine hKX _ _ _ ?_)| (with_reducible first|refine Y2 fun K hK=> ?_|refine Y3 fun A B hA hB=> ?_)<;>(simp only[go_sem])| ((with_reducible first|refine Y8 ?_|refine Y9 ?_);try simp only[AQ.then,AQ.blk,reduceIte,Nat.reduceEqDiff])|fail)
  (refine hQ _ _ _ _ _ 2 (dO 1 1 6 6) (hp [(1,⟨1,6,(List.replicate 6 (-1:Int)).map aJ⟩)]) _ _ (.inr rfl) rfl (fU [29] (by omega) (by repeat' (first| ((with_reducible refine C0 ?_);exact CQ (by omega) rfl rfl (by rfl) rfl)| ((with_reducible refine D0 ?_);refine CJ ?_)|fail)) ⟨⟨by simp,by simp[sgL],_,rfl,bP (aG bF _) (by subst hR;rfl) rfl⟩,trivial⟩ (by simp[sgL])) ?_)
  exact⟨rfl,rfl,rfl⟩
theorem zT {i0:Nat} (h0:i0<nx) (o0:H i0=some ⟨1,1,[[cI (-1)]]⟩) (h:K (dO 1 nx 6 6) ((H.del i0).set nx ⟨1,6,(List.replicate 6 (-1:Int)).map aJ⟩) (nx+1)):aB Tryz.prog eJ [dO 1 i0 1 1,dI 6] H nx K:=by
 refine zL.AF [i0] rfl ⟨qS (by simp) rfl rfl rfl rfl,aE rfl,trivial⟩ ⟨⟨by simp,id,_,o0,bP (aG bF _) rfl rfl⟩,trivial⟩ (by simp) (by simp;omega) (by simp) fun r H' n' _ ⟨q1,q2,q3⟩=> ?_
 subst q1;subst q2;subst q3
 generalize List.replicate 6 (-1:Int)=w0 at*
 have e1:back (tau 1 nx (nth [i0])) (hp [(1,⟨1,6,w0.map aJ⟩)]) 2 H=(H.del i0).set nx ⟨1,6,w0.map aJ⟩:=by
  simp[back,hp,aA.set,aA.nil,tau,nth,uB,aA.eL,aA.yI]
 rw[←e1] at h
 exact h
end
end Go.Proofs.YtegiblhkjfiooaaGreat
end
section
namespace Go.Proofs.YtegiblhkjfiooaaGreat
open Go Go.AM
set_option maxRecDepth 100000
def xH:AC:=
 (.seq (.region [rq 0 4 (.move (.kv (.bool false)))] 1 [0,1])
 (.seq (.seq (.region [RM 0 6 0,
 rq 1 7 (.len false (.tm 6)),
 RM 2 8 1,
 rq 3 9 (.len false (.tm 8)),
 rq 4 10 (.bin .neq (.tm 7) (.tm 9))] 5 [0,1,10])
 (.cond (.tm 10)
 (.seq (.region [rq 0 4 (.move (.kv (.bool false)))] 1 [4])
 .ret)
 .skip))
 (.seq (.seq (.region [rq 0 5 (.move (ki 0))] 1 [0,1,5])
 (.block 0
 (.loop
 (.seq (.seq (.region [RM 0 11 5,
 RM 1 12 0,
 rq 2 13 (.len false (.tm 12)),
 rq 3 14 (.bin .lss (.tm 11) (.tm 13))] 4 [0,1,5,14])
 (.cond (.tm 14)
 .skip
 (.exit 0)))
 (.seq (.block 1
 (.seq (.region [RM 0 17 0,
 RM 1 18 5,
 rq 2 19 (.idx 3 (.tm 17) (.tm 18)),
 rq 3 20 (.load 3 true (.tm 19)),
 RM 4 21 1,
 RM 5 22 5,
 rq 6 23 (.idx 3 (.tm 21) (.tm 22)),
 rq 7 24 (.load 3 true (.tm 23)),
 rq 8 25 (.xop (.aeq true 3) [(.tm 20),(.tm 24)])] 9 [0,1,5,25])
 (.cond (.tm 25)
 (.seq (.region [rq 0 4 (.move (.kv (.bool false)))] 1 [4])
 .ret)
 .skip)))
 (.region [RM 0 15 5,
 rq 1 16 (.bin .add (.tm 15) (ki 1)),
 RM 2 5 16] 3 [0,1,5]))))))
 (.seq (.region [rq 0 4 (.move (.kv (.bool true)))] 1 [4])
 .ret))))
def QW:List Cert:=[⟨[],[0,1]⟩,⟨[],[0,1,10]⟩,⟨[],[4]⟩,⟨[],[0,1,5]⟩,⟨[],[0,1,5,14]⟩,⟨[cz 0,cz 1,cz 2,cz 3,cz 4,cz 5,cz 6,cz 7,cz 8],[0,1,5,25]⟩,⟨[],[4]⟩,⟨[],[0,1,5]⟩,⟨[],[4]⟩]
def E3:List aW:=[.tm 4]
theorem P7:aO Tryz.prog Tryz.f34 QW=some (xH,E3):=by kernel_rfl
theorem R4:aN Tryz.prog oJ Tryz.f34 xH E3:=
 aN.mk Tryz.func34 (by kernel_rfl) P7
end Go.Proofs.YtegiblhkjfiooaaGreat
end
section
namespace Go.Proofs.YtegiblhkjfiooaaGreat
open Go Go.AM
set_option maxRecDepth 100000
def AS:AC:=
 (.seq (.region [rq 0 2 (.box true (.tm 0)),
 rq 1 3 (.box true (.tm 1)),
 rq 2 4 (.move (.kv (.bool false)))] 3 [2,3])
 (.seq (.seq (.region [RF 0 11 0 2,
 rq 1 12 (.load 2 true (.tm 11)),
 RF 2 13 0 3,
 rq 3 14 (.load 2 true (.tm 13)),
 rq 4 15 (.call wK [(.tm 12),(.tm 14)]),
 rq 5 16 (.un .not (.tm 15)),
 RM 6 17 16,
 GQ 7 18 (.fld 2 (.tm 2)) 17 false,
 GQ 8 19 (.load 1 false (.tm 18)) 17 false,
 GQ 9 20 (.len false (.tm 19)) 17 false,
 GQ 10 21 (.fld 2 (.tm 3)) 17 false,
 GQ 11 22 (.load 1 false (.tm 21)) 17 false,
 GQ 12 23 (.len false (.tm 22)) 17 false,
 GQ 13 24 (.bin .neq (.tm 20) (.tm 23)) 17 false,
 rq 14 25 (.pick (.tm 17) (.kv (.bool true)) (.tm 24)),
 RM 15 26 25,
 GQ 16 27 (.fld 3 (.tm 2)) 26 false,
 GQ 17 28 (.load 1 false (.tm 27)) 26 false,
 GQ 18 29 (.len false (.tm 28)) 26 false,
 GQ 19 30 (.fld 3 (.tm 3)) 26 false,
 GQ 20 31 (.load 1 false (.tm 30)) 26 false,
 GQ 21 32 (.len false (.tm 31)) 26 false,
 GQ 22 33 (.bin .neq (.tm 29) (.tm 32)) 26 false,
 rq 23 34 (.pick (.tm 26) (.kv (.bool true)) (.tm 33)),
 RM 24 35 34,
 GQ 25 36 (.fld 4 (.tm 2)) 35 false,
 GQ 26 37 (.load 1 false (.tm 36)) 35 false,
 GQ 27 38 (.fld 4 (.tm 3)) 35 false,
 GQ 28 39 (.load 1 false (.tm 38)) 35 false,
 GQ 29 40 (.call jN [(.tm 37),(.tm 39)]) 35 false,
 GQ 30 41 (.un .not (.tm 40)) 35 false,
 rq 31 42 (.pick (.tm 35) (.kv (.bool true)) (.tm 41))] 32 [2,3,42])
 (.cond (.tm 42)
 (.seq (.region [rq 0 4 (.move (.kv (.bool false)))] 1 [4])
 .ret)
 .skip))
 (.seq (.seq (.region [rq 0 5 (.move (ki 0))] 1 [2,3,5])
 (.block 0
 (.loop
 (.seq (.seq (.region [RM 0 43 5,
 RF 1 44 2 2,
 RL 2 45 44,
 rq 3 46 (.len false (.tm 45)),
 rq 4 47 (.bin .lss (.tm 43) (.tm 46))] 5 [2,3,5,47])
 (.cond (.tm 47)
 .skip
 (.exit 0)))
 (.seq (.block 1
 (.seq (.region [RF 0 50 2 2,
 RL 1 51 50,
 RM 2 52 5,
 rq 3 53 (.idx 4 (.tm 51) (.tm 52)),
 rq 4 54 (.load 4 true (.tm 53)),
 rq 5 6 (.alloc [VZ,OZ,OZ,VZ]),
 rn 6 (.store 4 true (.tm 6) (.tm 54))] 7 [2,3,5,6])
 (.seq (.region [RF 0 55 2 3,
 RL 1 56 55,
 RM 2 57 5,
 rq 3 58 (.idx 4 (.tm 56) (.tm 57)),
 rq 4 59 (.load 4 true (.tm 58)),
 rq 5 7 (.alloc [VZ,OZ,OZ,VZ]),
 rn 6 (.store 4 true (.tm 7) (.tm 59))] 7 [2,3,5,6,7])
 (.seq (.region [RF 0 60 0 6,
 RL 1 61 60,
 RF 2 62 0 7,
 RL 3 63 62,
 rq 4 64 (.bin .neq (.tm 61) (.tm 63)),
 RM 5 65 64,
 GQ 6 66 (.fld 3 (.tm 6)) 65 false,
 GQ 7 67 (.load 1 false (.tm 66)) 65 false,
 GQ 8 68 (.fld 3 (.tm 7)) 65 false,
 GQ 9 69 (.load 1 false (.tm 68)) 65 false,
 GQ 10 70 (.bin .neq (.tm 67) (.tm 69)) 65 false,
 rq 11 71 (.pick (.tm 65) (.kv (.bool true)) (.tm 70)),
 RM 12 72 71,
 GQ 13 73 (.fld 1 (.tm 6)) 72 false,
 GQ 14 74 (.load 1 false (.tm 73)) 72 false,
 GQ 15 75 (.fld 1 (.tm 7)) 72 false,
 GQ 16 76 (.load 1 false (.tm 75)) 72 false,
 GQ 17 77 (.call jM [(.tm 74),(.tm 76)]) 72 false,
 GQ 18 78 (.un .not (.tm 77)) 72 false,
 rq 19 79 (.pick (.tm 72) (.kv (.bool true)) (.tm 78)),
 RM 20 80 79,
 GQ 21 81 (.fld 2 (.tm 6)) 80 false,
 GQ 22 82 (.load 1 false (.tm 81)) 80 false,
 GQ 23 83 (.fld 2 (.tm 7)) 80 false,
 GQ 24 84 (.load 1 false (.tm 83)) 80 false,
 GQ 25 85 (.call oJ [(.tm 82),(.tm 84)]) 80 false,
 GQ 26 86 (.un .not (.tm 85)) 80 false,
 rq 27 87 (.pick (.tm 80) (.kv (.bool true)) (.tm 86))] 28 [2,3,5,87])
 (.cond (.tm 87)
 (.seq (.region [rq 0 4 (.move (.kv (.bool false)))] 1 [4])
 .ret)
 .skip)))))
 (.region [RM 0 48 5,
 rq 1 49 (.bin .add (.tm 48) (ki 1)),
 RM 2 5 49] 3 [2,3,5]))))))
 (.seq (.seq (.region [rq 0 8 (.move (ki 0))] 1 [2,3,8])
 (.block 2
 (.loop
 (.seq (.seq (.region [RM 0 88 8,
 RF 1 89 3 2,
 RL 2 90 89,
 rq 3 91 (.len false (.tm 90)),
 rq 4 92 (.bin .lss (.tm 88) (.tm 91))] 5 [2,3,8,92])
 (.cond (.tm 92)
 .skip
 (.exit 2)))
 (.seq (.block 3
 (.seq (.region [RF 0 95 3 2,
 RL 1 96 95,
 RM 2 97 8,
 rq 3 98 (.idx 3 (.tm 96) (.tm 97)),
 rq 4 99 (.load 3 true (.tm 98)),
 rq 5 9 (.alloc [OZ,OZ,VZ]),
 rn 6 (.store 3 true (.tm 9) (.tm 99))] 7 [2,3,8,9])
 (.seq (.region [RF 0 100 3 3,
 RL 1 101 100,
 RM 2 102 8,
 rq 3 103 (.idx 3 (.tm 101) (.tm 102)),
 rq 4 104 (.load 3 true (.tm 103)),
 rq 5 10 (.alloc [OZ,OZ,VZ]),
 rn 6 (.store 3 true (.tm 10) (.tm 104))] 7 [2,3,8,9,10])
 (.seq (.region [RF 0 105 2 9,
 RL 1 106 105,
 RF 2 107 2 10,
 RL 3 108 107,
 rq 4 109 (.bin .neq (.tm 106) (.tm 108)),
 RM 5 110 109,
 GQ 6 111 (.fld 0 (.tm 9)) 110 false,
 GQ 7 112 (.load 1 false (.tm 111)) 110 false,
 GQ 8 113 (.fld 0 (.tm 10)) 110 false,
 GQ 9 114 (.load 1 false (.tm 113)) 110 false,
 GQ 10 115 (.call oJ [(.tm 112),(.tm 114)]) 110 false,
 GQ 11 116 (.un .not (.tm 115)) 110 false,
 rq 12 117 (.pick (.tm 110) (.kv (.bool true)) (.tm 116)),
 RM 13 118 117,
 GQ 14 119 (.fld 1 (.tm 9)) 118 false,
 GQ 15 120 (.load 1 false (.tm 119)) 118 false,
 GQ 16 121 (.fld 1 (.tm 10)) 118 false,
 GQ 17 122 (.load 1 false (.tm 121)) 118 false,
 GQ 18 123 (.call jN [(.tm 120),(.tm 122)]) 118 false,
 GQ 19 124 (.un .not (.tm 123)) 118 false,
 rq 20 125 (.pick (.tm 118) (.kv (.bool true)) (.tm 124))] 21 [2,3,8,125])
 (.cond (.tm 125)
 (.seq (.region [rq 0 4 (.move (.kv (.bool false)))] 1 [4])
 .ret)
 .skip)))))
 (.region [RM 0 93 8,
 rq 1 94 (.bin .add (.tm 93) (ki 1)),
 RM 2 8 94] 3 [2,3,8]))))))
 (.seq (.region [rq 0 4 (.move (.kv (.bool true)))] 1 [4])
 .ret)))))
def TV:List Cert:=[⟨[],[2,3]⟩,⟨[],[2,3,42]⟩,⟨[],[4]⟩,⟨[],[2,3,5]⟩,⟨[],[2,3,5,47]⟩,⟨[],[2,3,5,6]⟩,⟨[],[2,3,5,6,7]⟩,⟨[],[2,3,5,87]⟩,⟨[],[4]⟩,⟨[],[2,3,5]⟩,⟨[],[2,3,8]⟩,⟨[],[2,3,8,92]⟩,⟨[],[2,3,8,9]⟩,⟨[],[2,3,8,9,10]⟩,⟨[],[2,3,8,125]⟩,⟨[],[4]⟩,⟨[],[2,3,8]⟩,⟨[],[4]⟩]
def I4:List aW:=[.tm 4]
theorem TS:aO Tryz.prog Tryz.f25 TV=some (AS,I4):=by kernel_rfl
end Go.Proofs.YtegiblhkjfiooaaGreat
end
section
namespace Go.Proofs.YtegiblhkjfiooaaGreat
open Go Go.AM
set_option maxRecDepth 100000
def xO:AC:=
 (.seq (.region [rq 0 4 (.move (.kv (.bool false)))] 1 [0,1])
 (.seq (.seq (.region [RM 0 6 0,
 rq 1 7 (.len false (.tm 6)),
 RM 2 8 1,
 rq 3 9 (.len false (.tm 8)),
 rq 4 10 (.bin .neq (.tm 7) (.tm 9))] 5 [0,1,10])
 (.cond (.tm 10)
 (.seq (.region [rq 0 4 (.move (.kv (.bool false)))] 1 [4])
 .ret)
 .skip))
 (.seq (.seq (.region [rq 0 5 (.move (ki 0))] 1 [0,1,5])
 (.block 0
 (.loop
 (.seq (.seq (.region [RM 0 11 5,
 RM 1 12 0,
 rq 2 13 (.len false (.tm 12)),
 rq 3 14 (.bin .lss (.tm 11) (.tm 13))] 4 [0,1,5,14])
 (.cond (.tm 14)
 .skip
 (.exit 0)))
 (.seq (.block 1
 (.seq (.region [RM 0 17 0,
 RM 1 18 5,
 rq 2 19 (.idx 1 (.tm 17) (.tm 18)),
 RL 3 20 19,
 RM 4 21 1,
 RM 5 22 5,
 rq 6 23 (.idx 1 (.tm 21) (.tm 22)),
 RL 7 24 23,
 rq 8 25 (.bin .neq (.tm 20) (.tm 24))] 9 [0,1,5,25])
 (.cond (.tm 25)
 (.seq (.region [rq 0 4 (.move (.kv (.bool false)))] 1 [4])
 .ret)
 .skip)))
 (.region [RM 0 15 5,
 rq 1 16 (.bin .add (.tm 15) (ki 1)),
 RM 2 5 16] 3 [0,1,5]))))))
 (.seq (.region [rq 0 4 (.move (.kv (.bool true)))] 1 [4])
 .ret))))
def P9:List Cert:=[⟨[],[0,1]⟩,⟨[],[0,1,10]⟩,⟨[],[4]⟩,⟨[],[0,1,5]⟩,⟨[],[0,1,5,14]⟩,⟨[cz 0,cz 1,cz 2,cz 3,cz 4,cz 5,cz 6,cz 7,cz 8],[0,1,5,25]⟩,⟨[],[4]⟩,⟨[],[0,1,5]⟩,⟨[],[4]⟩]
def GS:List aW:=[.tm 4]
theorem P1:aO Tryz.prog Tryz.f19 P9=some (xO,GS):=by kernel_rfl
theorem SU:aN Tryz.prog jM Tryz.f19 xO GS:=
 aN.mk Tryz.func19 (by kernel_rfl) P1
end Go.Proofs.YtegiblhkjfiooaaGreat
end
section
namespace Go.Proofs.YtegiblhkjfiooaaGreat
open Go Go.AM
set_option maxRecDepth 100000
def AT:AC:=
 (.seq (.region [rq 0 2 (.box true (.tm 0)),
 rq 1 3 (.box true (.tm 1)),
 rq 2 4 (.move (.kv (.bool false)))] 3 [2,3])
 (.seq (.region [RF 0 5 0 2,
 RL 1 6 5,
 RF 2 7 0 3,
 RL 3 8 7,
 rq 4 9 (.bin .eql (.tm 6) (.tm 8)),
 RM 5 10 9,
 GQ 6 11 (.fld 1 (.tm 2)) 10 true,
 GQ 7 12 (.load 1 false (.tm 11)) 10 true,
 GQ 8 13 (.fld 1 (.tm 3)) 10 true,
 GQ 9 14 (.load 1 false (.tm 13)) 10 true,
 GQ 10 15 (.bin .eql (.tm 12) (.tm 14)) 10 true,
 rq 11 16 (.pick (.tm 10) (.tm 15) (.kv (.bool false))),
 RM 12 17 16,
 GQ 13 18 (.fld 2 (.tm 2)) 17 true,
 GQ 14 19 (.load 1 false (.tm 18)) 17 true,
 GQ 15 20 (.fld 2 (.tm 3)) 17 true,
 GQ 16 21 (.load 1 false (.tm 20)) 17 true,
 GQ 17 22 (.call jM [(.tm 19),(.tm 21)]) 17 true,
 rq 18 23 (.pick (.tm 17) (.tm 22) (.kv (.bool false))),
 RM 19 4 23] 20 [4])
 .ret))
def T1:List Cert:=[⟨[],[2,3]⟩,⟨[],[4]⟩]
def II:List aW:=[.tm 4]
theorem U0:aO Tryz.prog Tryz.f84 T1=some (AT,II):=by kernel_rfl
theorem UL:aN Tryz.prog qO Tryz.f84 AT II:=
 aN.mk Tryz.func84 (by kernel_rfl) U0
end Go.Proofs.YtegiblhkjfiooaaGreat
end
section
namespace Go.Proofs.YtegiblhkjfiooaaGreat
open Go Go.AM
set_option maxRecDepth 100000
def xT:AC:=
 (.seq (.region [rq 0 4 (.move (.kv (.bool false)))] 1 [0,1])
 (.seq (.seq (.region [RM 0 6 0,
 rq 1 7 (.len false (.tm 6)),
 RM 2 8 1,
 rq 3 9 (.len false (.tm 8)),
 rq 4 10 (.bin .neq (.tm 7) (.tm 9))] 5 [0,1,10])
 (.cond (.tm 10)
 (.seq (.region [rq 0 4 (.move (.kv (.bool false)))] 1 [4])
 .ret)
 .skip))
 (.seq (.seq (.region [rq 0 5 (.move (ki 0))] 1 [0,1,5])
 (.block 0
 (.loop
 (.seq (.seq (.region [RM 0 11 5,
 RM 1 12 0,
 rq 2 13 (.len false (.tm 12)),
 rq 3 14 (.bin .lss (.tm 11) (.tm 13))] 4 [0,1,5,14])
 (.cond (.tm 14)
 .skip
 (.exit 0)))
 (.seq (.block 1
 (.seq (.region [RM 0 17 0,
 RM 1 18 5,
 rq 2 19 (.idx 5 (.tm 17) (.tm 18)),
 RF 3 20 0 19,
 RL 4 21 20,
 RM 5 22 1,
 RM 6 23 5,
 rq 7 24 (.idx 5 (.tm 22) (.tm 23)),
 RF 8 25 0 24,
 RL 9 26 25,
 rq 10 27 (.bin .neq (.tm 21) (.tm 26)),
 RM 11 28 27,
 GQ 12 29 (.move (.tm 0)) 28 false,
 GQ 13 30 (.move (.tm 5)) 28 false,
 GQ 14 31 (.idx 5 (.tm 29) (.tm 30)) 28 false,
 GQ 15 32 (.fld 1 (.tm 31)) 28 false,
 GQ 16 33 (.load 1 false (.tm 32)) 28 false,
 GQ 17 34 (.move (.tm 1)) 28 false,
 GQ 18 35 (.move (.tm 5)) 28 false,
 GQ 19 36 (.idx 5 (.tm 34) (.tm 35)) 28 false,
 GQ 20 37 (.fld 1 (.tm 36)) 28 false,
 GQ 21 38 (.load 1 false (.tm 37)) 28 false,
 GQ 22 39 (.bin .neq (.tm 33) (.tm 38)) 28 false,
 rq 23 40 (.pick (.tm 28) (.kv (.bool true)) (.tm 39)),
 RM 24 41 40,
 GQ 25 42 (.move (.tm 0)) 41 false,
 GQ 26 43 (.move (.tm 5)) 41 false,
 GQ 27 44 (.idx 5 (.tm 42) (.tm 43)) 41 false,
 GQ 28 45 (.fld 2 (.tm 44)) 41 false,
 GQ 29 46 (.load 3 true (.tm 45)) 41 false,
 GQ 30 47 (.move (.tm 1)) 41 false,
 GQ 31 48 (.move (.tm 5)) 41 false,
 GQ 32 49 (.idx 5 (.tm 47) (.tm 48)) 41 false,
 GQ 33 50 (.fld 2 (.tm 49)) 41 false,
 GQ 34 51 (.load 3 true (.tm 50)) 41 false,
 GQ 35 52 (.call qO [(.tm 46),(.tm 51)]) 41 false,
 GQ 36 53 (.un .not (.tm 52)) 41 false,
 rq 37 54 (.pick (.tm 41) (.kv (.bool true)) (.tm 53))] 38 [0,1,5,54])
 (.cond (.tm 54)
 (.seq (.region [rq 0 4 (.move (.kv (.bool false)))] 1 [4])
 .ret)
 .skip)))
 (.region [RM 0 15 5,
 rq 1 16 (.bin .add (.tm 15) (ki 1)),
 RM 2 5 16] 3 [0,1,5]))))))
 (.seq (.region [rq 0 4 (.move (.kv (.bool true)))] 1 [4])
 .ret))))
def R3:List Cert:=[⟨[],[0,1]⟩,⟨[],[0,1,10]⟩,⟨[],[4]⟩,⟨[],[0,1,5]⟩,⟨[],[0,1,5,14]⟩,⟨[cz 0,cz 1,cz 2,cz 3,cz 4,cz 5,cz 6,cz 7,cz 8,cz 9,cz 10,cz 11,cz 12,cz 13,cz 14,cz 15,cz 16,cz 17,cz 18,cz 19,cz 20,cz 21,cz 22,cz 23,cz 24,cz 25,cz 26,cz 27,cz 28,cz 29,cz 30,cz 31,cz 32,cz 33,cz 34,cz 35,cz 36,cz 37],[0,1,5,54]⟩,⟨[],[4]⟩,⟨[],[0,1,5]⟩,⟨[],[4]⟩]
def FA:List aW:=[.tm 4]
theorem RZ:aO Tryz.prog Tryz.f35 R3=some (xT,FA):=by kernel_rfl
theorem RW:aN Tryz.prog jN Tryz.f35 xT FA:=
 aN.mk Tryz.func35 (by kernel_rfl) RZ
end Go.Proofs.YtegiblhkjfiooaaGreat
end
section
namespace Go.Proofs.YtegiblhkjfiooaaGreat
open Go Go.AM
set_option maxRecDepth 100000
def yA:AC:=
 (.seq (.region [rq 0 4 (.move (.kv (.bool false)))] 1 [0,1])
 (.seq (.seq (.region [rq 0 5 (.move (ki 0))] 1 [0,1,5])
 (.block 0
 (.loop
 (.seq (.seq (.region [RM 0 8 5,
 RM 1 9 1,
 rq 2 10 (.len false (.tm 9)),
 rq 3 11 (.bin .lss (.tm 8) (.tm 10))] 4 [0,1,5,11])
 (.cond (.tm 11)
 .skip
 (.exit 0)))
 (.seq (.block 1
 (.seq (.region [rq 0 6 (.move (.kv (.bool false)))] 1 [0,1,5,6])
 (.seq (.seq (.region [rq 0 7 (.move (ki 0))] 1 [0,1,5,6,7])
 (.block 2
 (.loop
 (.seq (.seq (.region [RM 0 14 7,
 RM 1 15 0,
 rq 2 16 (.len false (.tm 15)),
 rq 3 17 (.bin .lss (.tm 14) (.tm 16))] 4 [0,1,5,6,7,17])
 (.cond (.tm 17)
 .skip
 (.exit 2)))
 (.seq (.block 3
 (.region [RM 0 20 6,
 RM 1 21 20,
 GQ 2 22 (.move (.tm 0)) 21 false,
 GQ 3 23 (.move (.tm 7)) 21 false,
 GQ 4 24 (.move (.tm 7)) 21 false,
 GQ 5 25 (.bin .add (.tm 24) (ki 1)) 21 false,
 GQ 6 26 (.slc 5 (.tm 22) (some (.tm 23)) (some (.tm 25)) none) 21 false,
 GQ 7 27 (.move (.tm 1)) 21 false,
 GQ 8 28 (.move (.tm 5)) 21 false,
 GQ 9 29 (.move (.tm 5)) 21 false,
 GQ 10 30 (.bin .add (.tm 29) (ki 1)) 21 false,
 GQ 11 31 (.slc 5 (.tm 27) (some (.tm 28)) (some (.tm 30)) none) 21 false,
 GQ 12 32 (.call jN [(.tm 26),(.tm 31)]) 21 false,
 rq 13 33 (.pick (.tm 21) (.kv (.bool true)) (.tm 32)),
 RM 14 6 33] 15 [0,1,5,6,7]))
 (.region [RM 0 18 7,
 rq 1 19 (.bin .add (.tm 18) (ki 1)),
 RM 2 7 19] 3 [0,1,5,6,7]))))))
 (.seq (.region [RM 0 34 6,
 rq 1 35 (.un .not (.tm 34))] 2 [0,1,5,35])
 (.cond (.tm 35)
 (.seq (.region [rq 0 4 (.move (.kv (.bool false)))] 1 [4])
 .ret)
 .skip)))))
 (.region [RM 0 12 5,
 rq 1 13 (.bin .add (.tm 12) (ki 1)),
 RM 2 5 13] 3 [0,1,5]))))))
 (.seq (.region [rq 0 4 (.move (.kv (.bool true)))] 1 [4])
 .ret)))
def QP:List Cert:=[⟨[],[0,1]⟩,⟨[],[0,1,5]⟩,⟨[],[0,1,5,11]⟩,⟨[],[0,1,5,6]⟩,⟨[],[0,1,5,6,7]⟩,⟨[],[0,1,5,6,7,17]⟩,⟨[cz 0,cz 1,cz 2,cz 3,cz 4,cz 5,cz 6,cz 7,cz 8,cz 9,cz 10,cz 11,cz 12,cz 13,cz 14],[0,1,5,6,7]⟩,⟨[],[0,1,5,6,7]⟩,⟨[],[0,1,5,35]⟩,⟨[],[4]⟩,⟨[],[0,1,5]⟩,⟨[],[4]⟩]
def F4:List aW:=[.tm 4]
theorem RB:aO Tryz.prog Tryz.f20 QP=some (yA,F4):=by kernel_rfl
theorem QE:aN Tryz.prog AW Tryz.f20 yA F4:=
 aN.mk Tryz.func20 (by kernel_rfl) RB
end Go.Proofs.YtegiblhkjfiooaaGreat
end
section
namespace Go.Proofs.YtegiblhkjfiooaaGreat
open Go Go.AM
set_option maxRecDepth 100000
def zY:AC:=
 (.seq (.region [rq 0 2 (.box true (.tm 0)),
 rq 1 3 (.box true (.tm 1)),
 rq 2 4 (.move (.kv (.bool false)))] 3 [2,3])
 (.seq (.region [RF 0 5 0 2,
 RF 1 6 0 5,
 RL 2 7 6,
 RF 3 8 0 3,
 RF 4 9 0 8,
 RL 5 10 9,
 rq 6 11 (.call jM [(.tm 7),(.tm 10)]),
 RM 7 12 11,
 GQ 8 13 (.fld 1 (.tm 2)) 12 true,
 GQ 9 14 (.load 1 false (.tm 13)) 12 true,
 GQ 10 15 (.fld 1 (.tm 3)) 12 true,
 GQ 11 16 (.load 1 false (.tm 15)) 12 true,
 GQ 12 17 (.call jM [(.tm 14),(.tm 16)]) 12 true,
 rq 13 18 (.pick (.tm 12) (.tm 17) (.kv (.bool false))),
 RM 14 4 18] 15 [4])
 .ret))
def UG:List Cert:=[⟨[],[2,3]⟩,⟨[],[4]⟩]
def I2:List aW:=[.tm 4]
theorem UP:aO Tryz.prog Tryz.f41 UG=some (zY,I2):=by kernel_rfl
theorem UZ:aN Tryz.prog wK Tryz.f41 zY I2:=
 aN.mk Tryz.func41 (by kernel_rfl) UP
end Go.Proofs.YtegiblhkjfiooaaGreat
end
section
namespace Go.Proofs.YtegiblhkjfiooaaGreat
open Go Go.AM
set_option maxRecDepth 100000
set_option maxHeartbeats 8000000
section
variable {H : aA} {nx : Nat} {K : D → aA → Nat → Prop}
theorem yO {α:Type} [Inhabited α] {a b:List α} (hl:a.length=b.length) (h: ∀i,i<a.length→a.getD i default=b.getD i default):a=b:=by
 refine List.ext_getElem hl fun i h1 h2=> ?_
 have:=h i h1
 simpa [List.getD,h1,h2] using this
theorem VC (a b:List Int) (ha:a.length<2^40) (hb:b.length<2^40):aB Tryz.prog jM [dS (a.map aJ),dS (b.map aJ)] .nil 0 fun rr _ _=>rr.plain=true∧rr=dB (decide (a=b)):=by
 refine SU rfl fun Q hQ=> ?_
 unfold xO
 by_cases hl:a.length=b.length
 ·repeat' (first| (with_reducible first| (refine hK _ _ _ ?_;clear hK K)| (refine hB ?_;clear hA hB A B)|refine Z1 ?_|refine Z2 ?_|refine Z3 fun KB hKB=> ?_|refine Z5 (by omega) ?_)| (with_reducible first|refine Y2 fun K hK=> ?_|refine Y3 fun A B hA hB=> ?_)<;>(simp only[go_sem])|fail)
  (have hKX:=hKB;clear hKB);(refine aM.loop (α:={k:Nat//k≤a.length∧(∀i,i<k→a.getD i default=b.getD i default)}) (fun u=>en [(5,dI u.1),(1,dS (b.map aJ)),(0,dS (a.map aJ))]) (fun _=>.nil) _ (fun u=>a.length-u.1) ⟨0,by omega,(by intros;first|trivial|omega)⟩ (bU (Nat.le_refl _) (by repeat' (first| (with_reducible first|exact C1|refine C2 ?_ ?_)| ((with_reducible refine D0 ?_);exact CA rfl)|fail))) ?_);(rintro⟨k,hk,hinv⟩ KL hKL)
  by_cases hlt:k<a.length
  ·repeat' (first| (with_reducible first| (refine hK _ _ _ ?_;clear hK K)| (refine hA ?_;clear hA hB A B)| (refine hB ?_;clear hA hB A B)|refine Z1 ?_|refine Z2 ?_|refine Z3 fun KB hKB=> ?_|refine Z4 (by omega) ?_|refine Z6 (fun h=> ?_) fun h=> ?_)| (with_reducible first|refine Y2 fun K hK=> ?_|refine Y3 fun A B hA hB=> ?_)<;>(simp only[go_sem];try simp (disch:=omega) only[Iw])| ((with_reducible refine Y8 ?_);try simp only[AQ.then,AQ.blk,reduceIte,Nat.reduceEqDiff])| ((with_reducible refine Y0 ?_);simp only[AQ.then,AQ.blk])|refine⟨by omega,?_⟩| (with_reducible refine hKB _ _ _ ?_)|fail)
   ·refine aZ hQ _ rfl rfl (j7 ?_)
    intro he;subst he;simp_all
   · (refine hKL _ _ _ ⟨k+1,by omega,iS hinv (by omega)⟩ (by omega) (by(try dsimp only);omega) (bU (Nat.le_refl _) (by repeat' (first| (with_reducible first|exact C1|refine C2 ?_ ?_)| ((with_reducible refine D0 ?_);exact CA rfl)|fail))))
  ·repeat' (first| (with_reducible first| (refine hK _ _ _ ?_;clear hK K)| (refine hB ?_;clear hA hB A B)|refine Z1 ?_|refine Z5 (by omega) ?_|refine hKX _ _ _ ?_)| (with_reducible first|refine Y2 fun K hK=> ?_|refine Y3 fun A B hA hB=> ?_)<;>(simp only[go_sem])| ((with_reducible first|refine Y8 ?_|refine Y9 ?_);try simp only[AQ.then,AQ.blk,reduceIte,Nat.reduceEqDiff])|fail)
   refine aZ hQ _ rfl rfl (q9 (yO hl fun i hi=>hinv i (by omega)))
 ·repeat' (first| (with_reducible first| (refine hK _ _ _ ?_;clear hK K)| (refine hA ?_;clear hA hB A B)|refine Z1 ?_|refine Z4 (by omega) ?_)| (with_reducible first|refine Y2 fun K hK=> ?_|refine Y3 fun A B hA hB=> ?_)<;>(simp only[go_sem])| ((with_reducible refine Y8 ?_);try simp only[AQ.then,AQ.blk,reduceIte,Nat.reduceEqDiff])|fail)
  refine aZ hQ _ rfl rfl (j7 fun he=>hl (by rw[he]))
theorem tP {a:List Int} {b:List Int} (ha:a.length<2^40) (hb:b.length<2^40) (h:K (dB (decide (a=b))) H nx):aB Tryz.prog jM [dS (a.map aJ),dS (b.map aJ)] H nx K:=
 (VC a b ha hb).pure rfl (aI ⟨aE rfl,aE rfl,trivial⟩) (fun r hr=>hr▸h)
theorem YL (a b:Rsp) (ha:a.data.length<2^40) (hb:b.data.length<2^40):aB Tryz.prog qO [dA (tG a),dA (tG b)] .nil 0 fun rr _ _=>rr.plain=true∧rr=dB (decide (a=b)):=by
 refine UL rfl fun Q hQ=> ?_
 unfold AT
 repeat' (first| (with_reducible first| (refine hK _ _ _ ?_;clear hK K)|refine Z1 ?_)| (first| (with_reducible first|refine Y2 fun K hK=> ?_|refine Y6 (fun h=> ?_) fun h=> ?_)| (with_reducible refine tP ha hb ?_))<;>(simp only[go_sem])| ((with_reducible refine Y8 ?_);try simp only[AQ.then,AQ.blk,reduceIte,Nat.reduceEqDiff])|fail)
 all_goals first|with_reducible refine aZ hQ _ rfl rfl ?_|skip
 all_goals (obtain⟨az9,az2,aAD⟩:=a;obtain⟨b1,b2,b3⟩:=b;dsimp only at*;first|exact q9 (by simp_all)|exact j7 (by simp_all)|exact pD (by simp_all))
theorem W9 {a:Rsp} {b:Rsp} (ha:a.data.length<2^40) (hb:b.data.length<2^40) (h:K (dB (decide (a=b))) H nx):aB Tryz.prog qO [dA (tG a),dA (tG b)] H nx K:=
 (YL a b ha hb).pure rfl (aI ⟨aE rfl,aE rfl,trivial⟩) (fun r hr=>hr▸h)
theorem ajT {l:List Job} {k:Nat} (h:k<l.length):(l.drop k).take (((k:Int)+1).toNat-k)=[l.getD k default]:=by
 rw[show ((k:Int)+1).toNat-k=1 by omega,List.drop_eq_getElem_cons h,List.take_succ_cons,List.take_zero]
 simp[List.getD,h]
theorem VN {a b:Rsp} (ha:a.data.length<2^40) (hb:b.data.length<2^40) (h:K (dB (decide (a=b))) H nx):aB Tryz.prog qO [.one (.agg [cI a.id,cI a.code,.isl (a.data.map aJ)]),.one (.agg [cI b.id,cI b.code,.isl (b.data.map aJ)])] H nx K:=W9 ha hb h
theorem TJ (a b:List Job) (ha:a.length<2^40) (hb:b.length<2^40) (hda: ∀j∈a,j.rsp.data.length<2^40) (hdb: ∀j∈b,j.rsp.data.length<2^40):aB Tryz.prog jN [dS (a.map aS),dS (b.map aS)] .nil 0 fun rr _ _=>rr.plain=true∧rr=dB (decide (a=b)):=by
 refine RW rfl fun Q hQ=> ?_
 unfold xT
 by_cases hl:a.length=b.length
 ·repeat' (first| (with_reducible first| (refine hK _ _ _ ?_;clear hK K)| (refine hB ?_;clear hA hB A B)|refine Z1 ?_|refine Z2 ?_|refine Z3 fun KB hKB=> ?_|refine Z5 (by omega) ?_)| (with_reducible first|refine Y2 fun K hK=> ?_|refine Y3 fun A B hA hB=> ?_)<;>(simp only[go_sem])|fail)
  (have hKX:=hKB;clear hKB);(refine aM.loop (α:={k:Nat//k≤a.length∧(∀i,i<k→a.getD i default=b.getD i default)}) (fun u=>en [(5,dI u.1),(1,dS (b.map aS)),(0,dS (a.map aS))]) (fun _=>.nil) _ (fun u=>a.length-u.1) ⟨0,by omega,(by intros;first|trivial|omega)⟩ (bU (Nat.le_refl _) (by repeat' (first| (with_reducible first|exact C1|refine C2 ?_ ?_)| ((with_reducible refine D0 ?_);exact CA rfl)|fail))) ?_);(rintro⟨k,hk,hinv⟩ KL hKL)
  by_cases hlt:k<a.length
  ·have d1:=hda _ (cC (l:=a) (k:=k) hlt)
   have d2:=hdb _ (cC (l:=b) (k:=k) (by omega))
   have hne: ¬a.getD k default=b.getD k default→¬a=b:=fun h1 h2=>h1 (by rw[h2])
   have heq:(a.getD k default).who=(b.getD k default).who→(a.getD k default).n=(b.getD k default).n→(a.getD k default).rsp=(b.getD k default).rsp→a.getD k default=b.getD k default:=by
    generalize a.getD k default=x
    generalize b.getD k default=y
    obtain⟨x1,x2,x3⟩:=x;obtain⟨y1,y2,y3⟩:=y
    dsimp only;intro h1 h2 h3;subst h1;subst h2;subst h3;rfl
   repeat' (first| (with_reducible first| (refine hK _ _ _ ?_;clear hK K)| (refine hA ?_;clear hA hB A B)| (refine hB ?_;clear hA hB A B)|refine Z1 ?_|refine Z2 ?_|refine Z3 fun KB hKB=> ?_|refine Z4 (by omega) ?_|refine Z6 (fun h=> ?_) fun h=> ?_)| (first| (with_reducible first|refine Y2 fun K hK=> ?_|refine Y3 fun A B hA hB=> ?_|refine Y6 (fun h=> ?_) fun h=> ?_)| (with_reducible refine VN (a:=(a.getD k default).rsp) (b:=(b.getD k default).rsp) d1 d2 ?_))<;>(simp only[go_sem];try simp (disch:=omega) only[Iw])| ((with_reducible refine Y8 ?_);try simp only[AQ.then,AQ.blk,reduceIte,Nat.reduceEqDiff])| ((with_reducible refine Y0 ?_);simp only[AQ.then,AQ.blk])|refine⟨by omega,?_⟩| (with_reducible refine hKB _ _ _ ?_)|fail)
   ·refine aZ hQ _ rfl rfl (j7 (hne fun he=>absurd (congrArg Job.who he) (by assumption)))
   ·refine aZ hQ _ rfl rfl (j7 (hne fun he=>absurd (congrArg Job.n he) (by assumption)))
   ·refine aZ hQ _ rfl rfl (j7 (hne fun he=>absurd (congrArg Job.rsp he) (by assumption)))
   · (refine hKL _ _ _ ⟨k+1,by omega,iS hinv (heq (by omega) (by omega) (Classical.not_not.1 (by assumption)))⟩ (by omega) (by(try dsimp only);omega) (bU (Nat.le_refl _) (by repeat' (first| (with_reducible first|exact C1|refine C2 ?_ ?_)| ((with_reducible refine D0 ?_);exact CA rfl)|fail))))
  ·repeat' (first| (with_reducible first| (refine hK _ _ _ ?_;clear hK K)| (refine hB ?_;clear hA hB A B)|refine Z1 ?_|refine Z5 (by omega) ?_|refine hKX _ _ _ ?_)| (with_reducible first|refine Y2 fun K hK=> ?_|refine Y3 fun A B hA hB=> ?_)<;>(simp only[go_sem])| ((with_reducible first|refine Y8 ?_|refine Y9 ?_);try simp only[AQ.then,AQ.blk,reduceIte,Nat.reduceEqDiff])|fail)
   refine aZ hQ _ rfl rfl (q9 (yO hl fun i hi=>hinv i (by omega)))
 ·repeat' (first| (with_reducible first| (refine hK _ _ _ ?_;clear hK K)| (refine hA ?_;clear hA hB A B)|refine Z1 ?_|refine Z4 (by omega) ?_)| (with_reducible first|refine Y2 fun K hK=> ?_|refine Y3 fun A B hA hB=> ?_)<;>(simp only[go_sem])| ((with_reducible refine Y8 ?_);try simp only[AQ.then,AQ.blk,reduceIte,Nat.reduceEqDiff])|fail)
  refine aZ hQ _ rfl rfl (j7 fun he=>hl (by rw[he]))
theorem AL {a:List Job} {b:List Job} (ha:a.length<2^40) (hb:b.length<2^40) (hda: ∀j∈a,j.rsp.data.length<2^40) (hdb: ∀j∈b,j.rsp.data.length<2^40) (h:K (dB (decide (a=b))) H nx):aB Tryz.prog jN [dS (a.map aS),dS (b.map aS)] H nx K:=
 (TJ a b ha hb hda hdb).pure rfl (aI ⟨aE rfl,aE rfl,trivial⟩) (fun r hr=>hr▸h)
theorem T5 (a b:List Job) (ha:a.length<2^40) (hb:b.length<2^40) (hda: ∀j∈a,j.rsp.data.length<2^40) (hsub: ∀j∈b,j∈a):aB Tryz.prog AW [dS (a.map aS),dS (b.map aS)] .nil 0 fun rr _ _=>rr.plain=true∧rr=dB true:=by
 refine QE rfl fun Q hQ=> ?_
 unfold yA
 repeat' (first| (with_reducible first| (refine hK _ _ _ ?_;clear hK K)|refine Z1 ?_|refine Z3 fun KB hKB=> ?_)| (with_reducible refine Y2 fun K hK=> ?_)<;>(simp only[go_sem])|fail)
 (have hKX:=hKB;clear hKB);(refine aM.loop (α:={k:Nat//k≤b.length∧(True)}) (fun u=>en [(5,dI u.1),(1,dS (b.map aS)),(0,dS (a.map aS))]) (fun _=>.nil) _ (fun u=>b.length-u.1) ⟨0,by omega,(by intros;first|trivial|omega)⟩ (bU (Nat.le_refl _) (by repeat' (first| (with_reducible first|exact C1|refine C2 ?_ ?_)| ((with_reducible refine D0 ?_);exact CA rfl)|fail))) ?_);(rintro⟨k,hk,hinv⟩ KL hKL)
 by_cases hlt:k<b.length
 ·have hm:=hsub _ (cC (l:=b) (k:=k) hlt)
  have d2:=hda _ hm
  have o2:=ajT hlt
  obtain⟨i,hi,hia⟩: ∃i,i<a.length∧a.getD i default=b.getD k default:=by
   obtain⟨i,hi,h⟩:=List.getElem_of_mem hm
   exact⟨i,hi,by simpa [List.getD,hi] using h⟩
  generalize b.getD k default=x at*
  have cj: ∀{H:aA} {nx:Nat} {K:D→aA→Nat→Prop} {j:Nat},j<a.length→K (dB (decide (a.getD j default=x))) H nx→aB Tryz.prog jN [dS (((a.drop j).take (((j:Int)+1).toNat-j)).map aS),dS (((b.drop k).take (((k:Int)+1).toNat-k)).map aS)] H nx K:=fun {H nx K j} hj h=>by
   rw[ajT hj,o2]
   have d1:=hda _ (cC (l:=a) (k:=j) hj)
   refine AL (a:=[a.getD j default]) (b:=[x]) (by simp) (by simp) (by simpa using d1) (by simpa using d2) ?_
   simpa using h
  repeat' (first| (with_reducible first| (refine hK _ _ _ ?_;clear hK K)| (refine hA ?_;clear hA hB A B)|refine Z1 ?_|refine Z2 ?_|refine Z3 fun KB hKB=> ?_|refine Z4 (by omega) ?_)| (with_reducible first|refine Y2 fun K hK=> ?_|refine Y3 fun A B hA hB=> ?_)<;>(simp only[go_sem])|fail)
  (have hKY:=hKB;clear hKB)
  refine aM.sG 0 (β:=Nat×Bool) (fun _ u=>en [(7,dI u.1),(6,dB u.2),(5,dI k),(1,dS (b.map aS)),(0,dS (a.map aS))]) (fun _ _=>.nil) (fun u=>u.1≤a.length∧(i<u.1→u.2=true)) (fun u=>a.length-u.1) (0,false) (bU (Nat.le_refl _) (by repeat' (first| (with_reducible first|exact C1|refine C2 ?_ ?_)| ((with_reducible refine D0 ?_);exact CA rfl)|fail))) ⟨by omega,by intro h;dsimp only at h;omega⟩ ?_
  rintro⟨j,f⟩ ⟨hj,hf⟩ KJ hKJ
  dsimp only at hj hf
  by_cases hlj:j<a.length
  ·cases f
   ·repeat' (first| (with_reducible first| (refine hK _ _ _ ?_;clear hK K)| (refine hA ?_;clear hA hB A B)|refine Z1 ?_|refine Z2 ?_|refine Z3 fun KB hKB=> ?_|refine Z4 (by omega) ?_)| (first| (with_reducible first|refine Y2 fun K hK=> ?_|refine Y3 fun A B hA hB=> ?_)| (refine cj hlj ?_))<;>(simp only[go_sem];try simp (disch:=omega) only[Iw])| ((with_reducible refine Y0 ?_);simp only[AQ.then,AQ.blk])|refine⟨by omega,?_⟩| (with_reducible refine hKB _ _ _ ?_)|fail)
    refine hKJ _ _ _ (j+1,decide (a.getD j default=x)) (by omega) (bU (by omega) (by repeat' (first| (with_reducible first|exact C1|refine C2 ?_ ?_)| ((with_reducible refine D0 ?_);exact CA rfl)|fail))) ⟨by dsimp only;omega,fun h=> ?_⟩ (by dsimp only;omega)
    dsimp only at h ⊢
    have:i=j:=by by_cases h2:i<j;exact absurd (hf h2) (by decide);omega
    subst this;simpa using hia
   ·repeat' (first| (with_reducible first| (refine hK _ _ _ ?_;clear hK K)| (refine hA ?_;clear hA hB A B)|refine Z1 ?_|refine Z2 ?_|refine Z3 fun KB hKB=> ?_|refine Z4 (by omega) ?_)| (with_reducible first|refine Y2 fun K hK=> ?_|refine Y3 fun A B hA hB=> ?_)<;>(simp only[go_sem];try simp (disch:=omega) only[Iw])| ((with_reducible refine Y0 ?_);simp only[AQ.then,AQ.blk])| (with_reducible refine hKB _ _ _ ?_)|fail)
    exact hKJ _ _ _ (j+1,true) (by omega) (bU (by omega) (by repeat' (first| (with_reducible first|exact C1|refine C2 ?_ ?_)| ((with_reducible refine D0 ?_);exact CA rfl)|fail))) ⟨by dsimp only;omega,fun _=>rfl⟩ (by dsimp only;omega)
  ·have:=hf (by omega)
   subst this
   repeat' (first| (with_reducible first| (refine hK _ _ _ ?_;clear hK K)| (refine hB ?_;clear hA hB A B)|refine Z1 ?_|refine Z2 ?_|refine Z5 (by omega) ?_|refine hKY _ _ _ ?_)| (with_reducible first|refine Y2 fun K hK=> ?_|refine Y3 fun A B hA hB=> ?_)<;>(simp only[go_sem];try simp (disch:=omega) only[Iw])| ((with_reducible refine Y9 ?_);try simp only[AQ.then,AQ.blk,reduceIte,Nat.reduceEqDiff])| ((with_reducible refine Y0 ?_);simp only[AQ.then,AQ.blk])| (with_reducible refine hKB _ _ _ ?_)|fail)
   (refine hKL _ _ _ ⟨k+1,by omega,trivial⟩ (by omega) (by(try dsimp only);omega) (bU (Nat.le_refl _) (by repeat' (first| (with_reducible first|exact C1|refine C2 ?_ ?_)| ((with_reducible refine D0 ?_);exact CA rfl)|fail))))
 ·repeat' (first| (with_reducible first| (refine hK _ _ _ ?_;clear hK K)| (refine hB ?_;clear hA hB A B)|refine Z1 ?_|refine Z5 (by omega) ?_|refine hKX _ _ _ ?_)| (with_reducible first|refine Y2 fun K hK=> ?_|refine Y3 fun A B hA hB=> ?_)<;>(simp only[go_sem])| ((with_reducible first|refine Y8 ?_|refine Y9 ?_);try simp only[AQ.then,AQ.blk,reduceIte,Nat.reduceEqDiff])|fail)
  exact aZ hQ _ rfl rfl rfl
theorem anG {a:List Job} {b:List Job} (ha:a.length<2^40) (hb:b.length<2^40) (hda: ∀j∈a,j.rsp.data.length<2^40) (hsub: ∀j∈b,j∈a) (h:K (dB true) H nx):aB Tryz.prog AW [dS (a.map aS),dS (b.map aS)] H nx K:=
 (T5 a b ha hb hda hsub).pure rfl (aI ⟨aE rfl,aE rfl,trivial⟩) (fun r hr=>hr▸h)
theorem XD (a b u v:List Int) (ha:a.length<2^40) (hb:b.length<2^40) (hu:u.length<2^40) (hv:v.length<2^40):aB Tryz.prog wK [.one (.agg [.isl (a.map aJ),.isl (b.map aJ)]),.one (.agg [.isl (u.map aJ),.isl (v.map aJ)])] .nil 0 fun rr _ _=>rr.plain=true∧rr=dB (decide (a=u∧b=v)):=by
 refine UZ rfl fun Q hQ=> ?_
 unfold zY
 repeat' (first| (with_reducible first| (refine hK _ _ _ ?_;clear hK K)|refine Z1 ?_)| (first| (with_reducible first|refine Y2 fun K hK=> ?_|refine Y6 (fun h=> ?_) fun h=> ?_)| (with_reducible refine tP ha hu ?_)| (with_reducible refine tP hb hv ?_))<;>(simp only[go_sem])| ((with_reducible refine Y8 ?_);try simp only[AQ.then,AQ.blk,reduceIte,Nat.reduceEqDiff])|fail)
 all_goals first|with_reducible refine aZ hQ _ rfl rfl ?_|skip
 all_goals first|exact q9 (by simp_all)|exact j7 (by simp_all)|exact pD (by simp_all)
theorem YN {a:List Int} {b:List Int} {u:List Int} {v:List Int} (ha:a.length<2^40) (hb:b.length<2^40) (hu:u.length<2^40) (hv:v.length<2^40) (h:K (dB (decide (a=u∧b=v))) H nx):aB Tryz.prog wK [.one (.agg [.isl (a.map aJ),.isl (b.map aJ)]),.one (.agg [.isl (u.map aJ),.isl (v.map aJ)])] H nx K:=
 (XD a b u v ha hb hu hv).pure rfl (aI ⟨aE rfl,aE rfl,trivial⟩) (fun r hr=>hr▸h)
end
end Go.Proofs.YtegiblhkjfiooaaGreat
end
section
namespace Go.Proofs.YtegiblhkjfiooaaGreat
open Go Go.AM
set_option maxRecDepth 100000
def u0:AC:=
 (.seq (.region [rq 0 3 (.box true (.tm 0)),
 rq 1 4 (.box true (.tm 1)),
 rq 2 6 (.alloc [OZ,OZ,OZ,OZ,OZ])] 3 [2,3,4,6])
 (.seq (.seq (.region [RM 0 7 2,
 rq 1 8 (.bin .gtr (.tm 7) (ki 300))] 2 [2,3,4,6,8])
 (.cond (.tm 8)
 (.seq (.region [rq 0 9 (.build [OZ,OZ,OZ,OZ,OZ] []),
 rn 1 (.store 5 true (.tm 6) (.tm 9))] 2 [6])
 .ret)
 .skip))
 (.seq (.region [⟨0,(some 10),.load 3 true (.tm 3),none,[3],[],true⟩,
 ⟨1,(some 11),.load 5 true (.tm 4),none,[3],[],true⟩,
 RM 4 14 2,
 rq 5 15 (.mmx false (ki 0) (.tm 14)),
 ⟨2,(some 12),.call DB [],none,[],[0,1],false⟩,
 rq 3 13 (.bC 3 1 [OZ,OZ,OZ] [(0,3,(.tm 12))]),
 ⟨6,(some 16),.call eT [(.tm 13),(.tm 15)],none,[],[0,1],false⟩,
 rq 7 17 (.call tV [(.tm 10),(.tm 11),(.tm 16)]),
 rn 8 (.store 5 true (.tm 6) (.tm 17))] 9 [6])
 .ret)))
def OG:List Cert:=[⟨[],[2,3,4,6]⟩,⟨[],[2,3,4,6,8]⟩,⟨[],[6]⟩,⟨[(0,[3],[],true),(1,[3],[],true),cz 4,cz 5,(2,[],[0,1],false),cz 3,(6,[],[0,1],false),cz 7,cz 8],[6]⟩]
def DP:List aW:=[.cell 6 5 true]
theorem N3:aO Tryz.prog Tryz.f16 OG=some (u0,DP):=by kernel_rfl
def w7:AC:=
 (.seq (.region [rq 0 0 (.alloc [OZ,OZ,OZ,OZ,OZ])] 1 [0])
 (.seq (.region [rq 0 2 (.call n8 []),
 rq 1 3 (.build [OZ,OZ,OZ,OZ,OZ] [(0,2,(.tm 2))]),
 rq 2 1 (.alloc [OZ,OZ,OZ,OZ,OZ]),
 rn 3 (.store 5 true (.tm 1) (.tm 3))] 4 [0,1])
 (.seq (.seq (.region [rq 0 4 (.move (ki 0))] 1 [0,1,4])
 (.block 0
 (.loop
 (.seq (.region [rq 0 5 (.bin .lss (.tm 4) (ki 3))] 1 [0,1,4,5])
 (.seq (.cond (.tm 5)
 .skip
 (.exit 0))
 (.seq (.block 1
 (.region [RF 0 6 2 1,
 RL 1 7 6,
 rq 2 8 (.build [VZ,OZ,OZ,VZ] [(3,1,(ki 3))]),
 rq 3 9 (.bC 4 1 [VZ,OZ,OZ,VZ] [(0,4,(.tm 8))]),
 rq 4 10 (.append 4 (.tm 7) (.tm 9)),
 RF 5 11 2 1,
 rn 6 (.store 1 false (.tm 11) (.tm 10))] 7 [0,1,4]))
 (.region [rq 0 12 (.bin .add (.tm 4) (ki 1)),
 RM 1 4 12] 2 [0,1,4])))))))
 (.seq (.seq (.region [rq 0 13 (.move (ki 0))] 1 [0,1,13])
 (.block 2
 (.loop
 (.seq (.region [rq 0 14 (.bin .lss (.tm 13) (ki 4))] 1 [0,1,13,14])
 (.seq (.cond (.tm 14)
 .skip
 (.exit 2))
 (.seq (.block 3
 (.region [RF 0 15 3 1,
 RL 1 16 15,
 rq 2 17 (.build [OZ,OZ,VZ] [(2,1,(ki 2))]),
 rq 3 18 (.bC 3 1 [OZ,OZ,VZ] [(0,3,(.tm 17))]),
 rq 4 19 (.append 3 (.tm 16) (.tm 18)),
 RF 5 20 3 1,
 rn 6 (.store 1 false (.tm 20) (.tm 19))] 7 [0,1,13]))
 (.region [rq 0 21 (.bin .add (.tm 13) (ki 1)),
 RM 1 13 21] 2 [0,1,13])))))))
 (.seq (.region [rq 0 22 (.load 5 true (.tm 1)),
 rq 1 23 (.call cV [(.tm 22)]),
 rn 2 (.store 5 true (.tm 0) (.tm 23))] 3 [0])
 .ret)))))
def P8:List Cert:=[⟨[],[0]⟩,⟨[],[0,1]⟩,⟨[],[0,1,4]⟩,⟨[],[0,1,4,5]⟩,⟨[],[0,1,4]⟩,⟨[],[0,1,4]⟩,⟨[],[0,1,13]⟩,⟨[],[0,1,13,14]⟩,⟨[],[0,1,13]⟩,⟨[],[0,1,13]⟩,⟨[],[0]⟩]
def E6:List aW:=[.cell 0 5 true]
theorem R7:aO Tryz.prog Tryz.f17 P8=some (w7,E6):=by kernel_rfl
def uZ:AC:=
 (.seq (.region [rq 0 2 (.box true (.tm 0)),
 rq 1 3 (.box true (.tm 1)),
 rq 2 4 (.move (.kv (.bool false)))] 3 [2,3])
 (.seq (.seq (.region [rq 0 8 (.load 3 true (.tm 2)),
 rq 1 9 (.load 5 true (.tm 3)),
 rq 2 10 (.call mW [(.tm 8),(.tm 9)]),
 rq 3 11 (.un .not (.tm 10))] 4 [2,3,11])
 (.cond (.tm 11)
 (.seq (.region [rq 0 4 (.move (.kv (.bool false)))] 1 [4])
 .ret)
 .skip))
 (.seq (.region [rq 0 5 (.move (ki 0))] 1 [2,3,5])
 (.seq (.seq (.region [RF 0 12 2 2,
 RL 1 13 12,
 rq 2 14 (.len false (.tm 13)),
 rq 3 15 (.move (ki 0))] 4 [3,5,13,14,15])
 (.block 0
 (.loop
 (.seq (.region [rq 0 16 (.bin .lss (.tm 15) (.tm 14))] 1 [3,5,13,14,15,16])
 (.seq (.cond (.tm 16)
 .skip
 (.exit 0))
 (.seq (.block 1
 (.seq (.region [rq 0 17 (.idx 1 (.tm 13) (.tm 15)),
 RL 1 18 17,
 RM 2 7 18] 3 [3,5,7,13,14,15])
 (.region [RM 0 19 5,
 RM 1 20 7,
 rq 2 21 (.len false (.tm 20)),
 rq 3 22 (.bin .add (.tm 19) (.tm 21)),
 RM 4 5 22] 5 [3,5,13,14,15])))
 (.region [rq 0 23 (.bin .add (.tm 15) (ki 1)),
 RM 1 15 23] 2 [3,5,13,14,15])))))))
 (.seq (.region [RF 0 24 4 3,
 RL 1 25 24,
 rq 2 26 (.len false (.tm 25)),
 RM 3 27 5,
 rq 4 28 (.bin .eql (.tm 26) (.tm 27)),
 RM 5 4 28] 6 [4])
 .ret)))))
def OB:List Cert:=[⟨[],[2,3]⟩,⟨[],[2,3,11]⟩,⟨[],[4]⟩,⟨[],[2,3,5]⟩,⟨[],[3,5,13,14,15]⟩,⟨[],[3,5,13,14,15,16]⟩,⟨[],[3,5,7,13,14,15]⟩,⟨[],[3,5,13,14,15]⟩,⟨[],[3,5,13,14,15]⟩,⟨[],[4]⟩]
def D2:List aW:=[.tm 4]
theorem O6:aO Tryz.prog Tryz.f18 OB=some (uZ,D2):=by kernel_rfl
def vJ:AC:=
 (.seq (.region [rq 0 3 (.box true (.tm 0)),
 rq 1 4 (.box true (.tm 1)),
 rq 2 5 (.box true (.tm 2)),
 rq 3 6 (.alloc [OZ,OZ,OZ,OZ,OZ])] 4 [3,4,5,6])
 (.seq (.seq (.region [rq 0 8 (.load 3 true (.tm 3)),
 rq 1 9 (.load 5 true (.tm 4)),
 rq 2 10 (.call mW [(.tm 8),(.tm 9)]),
 rq 3 11 (.un .not (.tm 10)),
 RM 4 12 11,
 GQ 5 13 (.load 3 true (.tm 5)) 12 false,
 GQ 6 14 (.call uJ [(.tm 13)]) 12 false,
 GQ 7 15 (.un .not (.tm 14)) 12 false,
 rq 8 16 (.pick (.tm 12) (.kv (.bool true)) (.tm 15))] 9 [3,4,5,6,16])
 (.cond (.tm 16)
 (.seq (.region [rq 0 17 (.build [OZ,OZ,OZ,OZ,OZ] []),
 rn 1 (.store 5 true (.tm 6) (.tm 17))] 2 [6])
 .ret)
 .skip))
 (.seq (.region [rq 0 18 (.load 5 true (.tm 4)),
 rq 1 19 (.call cV [(.tm 18)]),
 rq 2 7 (.alloc [OZ,OZ,OZ,OZ,OZ]),
 rn 3 (.store 5 true (.tm 7) (.tm 19))] 4 [3,5,6,7])
 (.seq (.region [rq 0 20 (.load 3 true (.tm 3)),
 rq 1 21 (.load 3 true (.tm 5)),
 rq 2 22 (.call jF [(.tm 7),(.tm 20),(.tm 21)])] 3 [6,7])
 (.seq (.region [rq 0 23 (.load 5 true (.tm 7)),
 rq 1 24 (.call cV [(.tm 23)]),
 rn 2 (.store 5 true (.tm 6) (.tm 24))] 3 [6])
 .ret)))))
def O2:List Cert:=[⟨[],[3,4,5,6]⟩,⟨[],[3,4,5,6,16]⟩,⟨[],[6]⟩,⟨[],[3,5,6,7]⟩,⟨[],[6,7]⟩,⟨[],[6]⟩]
def DL:List aW:=[.cell 6 5 true]
theorem O7:aO Tryz.prog Tryz.f23 O2=some (vJ,DL):=by kernel_rfl
def AV:AC:=
 (.seq (.region [rq 0 0 (.alloc [OZ,OZ,OZ])] 1 [0])
 (.seq (.region [rq 0 1 (.bC 1 1 [(.v (.bool false))] [(0,1,(.kv (.bool true)))]),
 rq 2 3 (.kY 1 [(.v (.bool false))] (ki 4) (ki 4)),
 rq 3 4 (.bC 1 1 [(.v (.bool false))] [(0,1,(.kv (.bool true)))]),
 ⟨1,(some 2),.call dN [(.tm 1),(ki 3)],none,[2,3],[],false⟩,
 ⟨4,(some 5),.call dN [(.tm 4),(ki 3)],none,[2],[],false⟩,
 rq 5 6 (.build [OZ,OZ,OZ] [(0,1,(.tm 2)),(1,1,(.tm 3)),(2,1,(.tm 5))]),
 rn 6 (.store 3 true (.tm 0) (.tm 6))] 7 [0])
 .ret))
def VA:List Cert:=[⟨[],[0]⟩,⟨[cz 0,cz 2,cz 3,(1,[2,3],[],false),(4,[2],[],false),cz 5,cz 6],[0]⟩]
def IY:List aW:=[.cell 0 3 true]
theorem UH:aO Tryz.prog Tryz.f24 VA=some (AV,IY):=by kernel_rfl
def xR:AC:=
 (.seq (.region [rq 0 3 (.box true (.tm 0)),
 rq 1 4 (.box true (.tm 1)),
 rq 2 6 (.alloc [OZ,OZ,OZ,OZ,OZ])] 3 [2,3,4,6])
 (.seq (.seq (.region [rq 0 10 (.load 3 true (.tm 3)),
 rq 1 11 (.load 5 true (.tm 4)),
 RM 2 12 2,
 rq 3 13 (.call zH [(.tm 10),(.tm 11),(.tm 12)]),
 rq 4 14 (.un .not (.tm 13))] 5 [2,3,4,6,14])
 (.cond (.tm 14)
 (.seq (.region [rq 0 15 (.build [OZ,OZ,OZ,OZ,OZ] []),
 rn 1 (.store 5 true (.tm 6) (.tm 15))] 2 [6])
 .ret)
 .skip))
 (.seq (.region [rq 0 16 (.load 5 true (.tm 4)),
 rq 1 17 (.call cV [(.tm 16)]),
 rq 2 7 (.alloc [OZ,OZ,OZ,OZ,OZ]),
 rn 3 (.store 5 true (.tm 7) (.tm 17))] 4 [2,3,6,7])
 (.seq (.seq (.region [RM 0 18 2,
 rq 1 19 (.len false (.tm 18)),
 rq 2 20 (.move (ki 0))] 3 [3,6,7,18,19,20])
 (.block 0
 (.loop
 (.seq (.region [rq 0 21 (.bin .lss (.tm 20) (.tm 19))] 1 [3,6,7,18,19,20,21])
 (.seq (.cond (.tm 21)
 .skip
 (.exit 0))
 (.seq (.block 1
 (.seq (.region [rq 0 22 (.idx 3 (.tm 18) (.tm 20)),
 rq 1 23 (.load 3 true (.tm 22)),
 rq 2 9 (.alloc [OZ,OZ,OZ]),
 rn 3 (.store 3 true (.tm 9) (.tm 23))] 4 [3,6,7,9,18,19,20])
 (.region [rq 0 24 (.load 3 true (.tm 3)),
 rq 1 25 (.load 3 true (.tm 9)),
 rq 2 26 (.call jF [(.tm 7),(.tm 24),(.tm 25)])] 3 [3,6,7,18,19,20])))
 (.region [rq 0 27 (.bin .add (.tm 20) (ki 1)),
 RM 1 20 27] 2 [3,6,7,18,19,20])))))))
 (.seq (.region [rq 0 28 (.load 5 true (.tm 7)),
 rq 1 29 (.call cV [(.tm 28)]),
 rn 2 (.store 5 true (.tm 6) (.tm 29))] 3 [6])
 .ret)))))
def SI:List Cert:=[⟨[],[2,3,4,6]⟩,⟨[],[2,3,4,6,14]⟩,⟨[],[6]⟩,⟨[],[2,3,6,7]⟩,⟨[],[3,6,7,18,19,20]⟩,⟨[],[3,6,7,18,19,20,21]⟩,⟨[],[3,6,7,9,18,19,20]⟩,⟨[],[3,6,7,18,19,20]⟩,⟨[],[3,6,7,18,19,20]⟩,⟨[],[6]⟩]
def F5:List aW:=[.cell 6 5 true]
theorem PZ:aO Tryz.prog Tryz.f30 SI=some (xR,F5):=by kernel_rfl
def gJ:AC:=
 (.seq (.region [rq 0 4 (.move (.kv (.slice none 0 0)))] 1 [0,1])
 (.seq (.seq (.region [RM 0 9 1,
 rq 1 10 (.bin .lss (.tm 9) (ki 0))] 2 [0,1,10])
 (.cond (.tm 10)
 (.region [rq 0 11 (.xop .bad []),
 rn 1 (.xop .bad [])] 2 [0,1])
 .skip))
 (.seq (.region [RM 0 13 0,
 rq 1 14 (.len false (.tm 13)),
 rq 2 15 (.conv .u64 (.tm 14)),
 RM 3 16 1,
 rq 4 17 (.conv .u64 (.tm 16)),
 rq 5 18 (.call cE [(.tm 15),(.tm 17)]),
 RM 6 12 18,
 rq 7 19 (.ext (.tm 12) 0),
 rq 8 20 (.ext (.tm 12) 1),
 RM 9 5 19,
 RM 10 6 20] 11 [0,5,6])
 (.seq (.seq (.region [RM 0 21 5,
 rq 1 22 (.bin .gtr (.tm 21) (.kv (.int .u64 0))),
 RM 2 23 22,
 GQ 3 24 (.move (.tm 6)) 23 false,
 GQ 4 25 (.bin .gtr (.tm 24) (.kv (.int .u64 9223372036854775807))) 23 false,
 rq 5 26 (.pick (.tm 23) (.kv (.bool true)) (.tm 25))] 6 [0,6,26])
 (.cond (.tm 26)
 (.region [rq 0 27 (.xop .bad []),
 rn 1 (.xop .bad [])] 2 [0,6])
 .skip))
 (.seq (.region [RM 0 28 6,
 rq 1 29 (.conv .i64 (.tm 28)),
 rq 2 30 (.kY 3 [OZ,OZ,OZ] (.tm 29) (.tm 29)),
 RM 3 7 30] 4 [0,7])
 (.seq (.region [RM 0 31 7,
 RM 1 32 0,
 rq 2 33 (.xop (.copy 3) [(.tm 31),(.tm 32)]),
 RM 3 8 33] 4 [7,8])
 (.seq (.block 0
 (.loop
 (.seq (.seq (.region [RM 0 34 8,
 RM 1 35 7,
 rq 2 36 (.len false (.tm 35)),
 rq 3 37 (.bin .lss (.tm 34) (.tm 36))] 4 [7,8,37])
 (.cond (.tm 37)
 .skip
 (.exit 0)))
 (.block 1
 (.region [RM 0 38 8,
 RM 1 39 7,
 RM 2 40 8,
 rq 3 41 (.slc 3 (.tm 39) (some (.tm 40)) none none),
 RM 4 42 7,
 RM 5 43 8,
 rq 6 44 (.slc 3 (.tm 42) none (some (.tm 43)) none),
 rq 7 45 (.xop (.copy 3) [(.tm 41),(.tm 44)]),
 rq 8 46 (.bin .add (.tm 38) (.tm 45)),
 RM 9 8 46] 10 [7,8])))))
 (.seq (.region [RM 0 47 7,
 RM 1 4 47] 2 [4])
 .ret))))))))
def uH:List Cert:=[⟨[],[0,1]⟩,⟨[],[0,1,10]⟩,⟨[],[0,1]⟩,⟨[],[0,5,6]⟩,⟨[],[0,6,26]⟩,⟨[],[0,6]⟩,⟨[],[0,7]⟩,⟨[],[7,8]⟩,⟨[],[7,8,37]⟩,⟨[cz 0,cz 1,cz 2,cz 3,cz 4,cz 5,cz 6,cz 7,cz 8,cz 9],[7,8]⟩,⟨[],[4]⟩]
def kR:List aW:=[.tm 4]
theorem uN:aO Tryz.prog Tryz.f61 uH=some (gJ,kR):=by kernel_rfl
theorem uM:aN Tryz.prog eT Tryz.f61 gJ kR:=
 aN.mk Tryz.func61 (by kernel_rfl) uN
def iE:AC:=
 (.seq (.region [rq 0 4 (.move (.kv (.slice none 0 0)))] 1 [0,1])
 (.seq (.seq (.region [RM 0 9 1,
 rq 1 10 (.bin .lss (.tm 9) (ki 0))] 2 [0,1,10])
 (.cond (.tm 10)
 (.region [rq 0 11 (.xop .bad []),
 rn 1 (.xop .bad [])] 2 [0,1])
 .skip))
 (.seq (.region [RM 0 13 0,
 rq 1 14 (.len false (.tm 13)),
 rq 2 15 (.conv .u64 (.tm 14)),
 RM 3 16 1,
 rq 4 17 (.conv .u64 (.tm 16)),
 rq 5 18 (.call cE [(.tm 15),(.tm 17)]),
 RM 6 12 18,
 rq 7 19 (.ext (.tm 12) 0),
 rq 8 20 (.ext (.tm 12) 1),
 RM 9 5 19,
 RM 10 6 20] 11 [0,5,6])
 (.seq (.seq (.region [RM 0 21 5,
 rq 1 22 (.bin .gtr (.tm 21) (.kv (.int .u64 0))),
 RM 2 23 22,
 GQ 3 24 (.move (.tm 6)) 23 false,
 GQ 4 25 (.bin .gtr (.tm 24) (.kv (.int .u64 9223372036854775807))) 23 false,
 rq 5 26 (.pick (.tm 23) (.kv (.bool true)) (.tm 25))] 6 [0,6,26])
 (.cond (.tm 26)
 (.region [rq 0 27 (.xop .bad []),
 rn 1 (.xop .bad [])] 2 [0,6])
 .skip))
 (.seq (.region [RM 0 28 6,
 rq 1 29 (.conv .i64 (.tm 28)),
 rq 2 30 (.kY 1 [(.v (.bool false))] (.tm 29) (.tm 29)),
 RM 3 7 30] 4 [0,7])
 (.seq (.region [RM 0 31 7,
 RM 1 32 0,
 rq 2 33 (.xop (.copy 1) [(.tm 31),(.tm 32)]),
 RM 3 8 33] 4 [7,8])
 (.seq (.block 0
 (.loop
 (.seq (.seq (.region [RM 0 34 8,
 RM 1 35 7,
 rq 2 36 (.len false (.tm 35)),
 rq 3 37 (.bin .lss (.tm 34) (.tm 36))] 4 [7,8,37])
 (.cond (.tm 37)
 .skip
 (.exit 0)))
 (.block 1
 (.region [RM 0 38 8,
 RM 1 39 7,
 RM 2 40 8,
 rq 3 41 (.slc 1 (.tm 39) (some (.tm 40)) none none),
 RM 4 42 7,
 RM 5 43 8,
 rq 6 44 (.slc 1 (.tm 42) none (some (.tm 43)) none),
 rq 7 45 (.xop (.copy 1) [(.tm 41),(.tm 44)]),
 rq 8 46 (.bin .add (.tm 38) (.tm 45)),
 RM 9 8 46] 10 [7,8])))))
 (.seq (.region [RM 0 47 7,
 RM 1 4 47] 2 [4])
 .ret))))))))
def wM:List Cert:=[⟨[],[0,1]⟩,⟨[],[0,1,10]⟩,⟨[],[0,1]⟩,⟨[],[0,5,6]⟩,⟨[],[0,6,26]⟩,⟨[],[0,6]⟩,⟨[],[0,7]⟩,⟨[],[7,8]⟩,⟨[],[7,8,37]⟩,⟨[cz 0,cz 1,cz 2,cz 3,cz 4,cz 5,cz 6,cz 7,cz 8,cz 9],[7,8]⟩,⟨[],[4]⟩]
def lW:List aW:=[.tm 4]
theorem wQ:aO Tryz.prog Tryz.f70 wM=some (iE,lW):=by kernel_rfl
theorem wL:aN Tryz.prog dN Tryz.f70 iE lW:=
 aN.mk Tryz.func70 (by kernel_rfl) wQ
end Go.Proofs.YtegiblhkjfiooaaGreat
end
