/- Texts laid together by a program: rules, contracts and the walk that leads to the law. -/
import Derived.Test.YtegiblhkjfiooaaGreatPp3
set_option linter.unusedVariables false
set_option linter.unusedSimpArgs false
set_option linter.unusedSectionVars false
section
namespace Go.Proofs.YtegiblhkjfiooaaGreat
open Go Go.AM
set_option maxRecDepth 100000
def AN:AC:=
 (.seq (.region [rq 0 2 (.box true (.tm 0)),
 rq 1 3 (.box true (.tm 1)),
 rq 2 4 (.move (.kv (.bool false)))] 3 [2,3])
 (.seq (.seq (.region [rq 0 11 (.load 3 true (.tm 2)),
 rq 1 12 (.call wF [(.tm 11)]),
 rq 2 13 (.un .not (.tm 12)),
 RM 3 14 13,
 GQ 4 15 (.fld 0 (.tm 3)) 14 false,
 GQ 5 16 (.load 2 true (.tm 15)) 14 false,
 GQ 6 17 (.call rG [(.tm 16)]) 14 false,
 GQ 7 18 (.un .not (.tm 17)) 14 false,
 rq 8 19 (.pick (.tm 14) (.kv (.bool true)) (.tm 18)),
 RM 9 20 19,
 GQ 10 21 (.fld 2 (.tm 3)) 20 false,
 GQ 11 22 (.load 1 false (.tm 21)) 20 false,
 GQ 12 23 (.len false (.tm 22)) 20 false,
 GQ 13 24 (.bin .neq (.tm 23) (ki 3)) 20 false,
 rq 14 25 (.pick (.tm 20) (.kv (.bool true)) (.tm 24)),
 RM 15 26 25,
 GQ 16 27 (.fld 3 (.tm 3)) 26 false,
 GQ 17 28 (.load 1 false (.tm 27)) 26 false,
 GQ 18 29 (.len false (.tm 28)) 26 false,
 GQ 19 30 (.bin .neq (.tm 29) (ki 4)) 26 false,
 rq 20 31 (.pick (.tm 26) (.kv (.bool true)) (.tm 30))] 21 [2,3,31])
 (.cond (.tm 31)
 (.seq (.region [rq 0 4 (.move (.kv (.bool false)))] 1 [4])
 .ret)
 .skip))
 (.seq (.region [rq 0 5 (.move (ki 0)),
 rq 1 6 (.move (ki 0))] 2 [2,3,5,6])
 (.seq (.seq (.region [RF 0 32 2 3,
 RL 1 33 32,
 rq 2 34 (.len false (.tm 33)),
 rq 3 35 (.move (ki 0))] 4 [2,3,5,6,33,34,35])
 (.block 0
 (.loop
 (.seq (.region [rq 0 36 (.bin .lss (.tm 35) (.tm 34))] 1 [2,3,5,6,33,34,35,36])
 (.seq (.cond (.tm 36)
 .skip
 (.exit 0))
 (.seq (.block 1
 (.seq (.region [RM 0 37 35,
 rq 1 38 (.idx 4 (.tm 33) (.tm 35)),
 rq 2 39 (.load 4 true (.tm 38)),
 rq 3 8 (.alloc [VZ,OZ,OZ,VZ]),
 RM 4 7 37,
 rn 5 (.store 4 true (.tm 8) (.tm 39))] 6 [2,3,5,6,7,8,33,34,35])
 (.seq (.seq (.region [rq 0 40 (.load 3 true (.tm 2)),
 RM 1 41 7,
 rq 2 42 (.load 4 true (.tm 8)),
 rq 3 43 (.call jK [(.tm 40),(.tm 41),(.tm 42)]),
 rq 4 44 (.un .not (.tm 43))] 5 [2,3,5,6,8,33,34,35,44])
 (.cond (.tm 44)
 (.seq (.region [rq 0 4 (.move (.kv (.bool false)))] 1 [4])
 .ret)
 .skip))
 (.region [RM 0 45 5,
 RF 1 46 2 8,
 RL 2 47 46,
 rq 3 48 (.len false (.tm 47)),
 rq 4 49 (.bin .add (.tm 45) (.tm 48)),
 RM 5 5 49] 6 [2,3,5,6,33,34,35]))))
 (.region [rq 0 50 (.bin .add (.tm 35) (ki 1)),
 RM 1 35 50] 2 [2,3,5,6,33,34,35])))))))
 (.seq (.seq (.region [RF 0 51 3 3,
 RL 1 52 51,
 rq 2 53 (.len false (.tm 52)),
 rq 3 54 (.move (ki 0))] 4 [2,3,5,6,52,53,54])
 (.block 2
 (.loop
 (.seq (.region [rq 0 55 (.bin .lss (.tm 54) (.tm 53))] 1 [2,3,5,6,52,53,54,55])
 (.seq (.cond (.tm 55)
 .skip
 (.exit 2))
 (.seq (.block 3
 (.seq (.region [RM 0 56 54,
 rq 1 57 (.idx 3 (.tm 52) (.tm 54)),
 rq 2 58 (.load 3 true (.tm 57)),
 rq 3 10 (.alloc [OZ,OZ,VZ]),
 RM 4 9 56,
 rn 5 (.store 3 true (.tm 10) (.tm 58))] 6 [2,3,5,6,9,10,52,53,54])
 (.seq (.seq (.region [rq 0 59 (.load 3 true (.tm 2)),
 rq 1 60 (.load 5 true (.tm 3)),
 RM 2 61 9,
 rq 3 62 (.call iX [(.tm 59),(.tm 60),(.tm 61)]),
 rq 4 63 (.un .not (.tm 62))] 5 [2,3,5,6,10,52,53,54,63])
 (.cond (.tm 63)
 (.seq (.region [rq 0 4 (.move (.kv (.bool false)))] 1 [4])
 .ret)
 .skip))
 (.region [RM 0 64 6,
 RF 1 65 0 10,
 RL 2 66 65,
 rq 3 67 (.len false (.tm 66)),
 RF 4 68 1 10,
 RL 5 69 68,
 rq 6 70 (.len false (.tm 69)),
 rq 7 71 (.bin .add (.tm 67) (.tm 70)),
 rq 8 72 (.bin .add (.tm 64) (.tm 71)),
 RM 9 6 72] 10 [2,3,5,6,52,53,54]))))
 (.region [rq 0 73 (.bin .add (.tm 54) (ki 1)),
 RM 1 54 73] 2 [2,3,5,6,52,53,54])))))))
 (.seq (.region [RM 0 74 5,
 RM 1 75 6,
 rq 2 76 (.bin .eql (.tm 74) (.tm 75)),
 RM 3 77 76,
 ⟨4,(some 78),.load 3 true (.tm 2),(some (77,true)),[],[],true⟩,
 GQ 5 79 (.load 5 true (.tm 3)) 77 true,
 ⟨6,(some 80),.call zX [(.tm 79)],(some (77,true)),[],[4],false⟩,
 GQ 7 81 (.call j9 [(.tm 78),(.tm 80)]) 77 true,
 rq 8 82 (.pick (.tm 77) (.tm 81) (.kv (.bool false))),
 RM 9 4 82] 10 [4])
 .ret))))))
def UJ:List Cert:=[⟨[],[2,3]⟩,⟨[],[2,3,31]⟩,⟨[],[4]⟩,⟨[],[2,3,5,6]⟩,⟨[],[2,3,5,6,33,34,35]⟩,⟨[],[2,3,5,6,33,34,35,36]⟩,⟨[],[2,3,5,6,7,8,33,34,35]⟩,⟨[],[2,3,5,6,8,33,34,35,44]⟩,⟨[],[4]⟩,⟨[],[2,3,5,6,33,34,35]⟩,⟨[],[2,3,5,6,33,34,35]⟩,⟨[],[2,3,5,6,52,53,54]⟩,⟨[],[2,3,5,6,52,53,54,55]⟩,⟨[],[2,3,5,6,9,10,52,53,54]⟩,⟨[],[2,3,5,6,10,52,53,54,63]⟩,⟨[],[4]⟩,⟨[],[2,3,5,6,52,53,54]⟩,⟨[],[2,3,5,6,52,53,54]⟩,⟨[cz 0,cz 1,cz 2,cz 3,(4,[],[],true),cz 5,(6,[],[4],false),cz 7,cz 8,cz 9],[4]⟩]
def IC:List aW:=[.tm 4]
theorem UM:aO Tryz.prog Tryz.f22 UJ=some (AN,IC):=by kernel_rfl
def yF:AC:=
 (.seq (.region [rq 0 1 (.box true (.tm 0)),
 rq 1 2 (.alloc [OZ,OZ,OZ,OZ,OZ,OZ])] 2 [1,2])
 (.seq (.region [RF 0 12 0 1,
 rq 1 13 (.load 2 true (.tm 12)),
 RF 2 14 4 1,
 RL 3 15 14,
 rq 4 16 (.build [OZ,OZ,OZ,OZ,OZ,OZ] [(0,2,(.tm 13)),(5,1,(.tm 15))]),
 rq 5 3 (.alloc [OZ,OZ,OZ,OZ,OZ,OZ]),
 rn 6 (.store 6 true (.tm 3) (.tm 16))] 7 [1,2,3])
 (.seq (.seq (.region [RF 0 17 2 1,
 RL 1 18 17,
 rq 2 19 (.len false (.tm 18)),
 rq 3 20 (.move (ki 0))] 4 [1,2,3,18,19,20])
 (.block 0
 (.loop
 (.seq (.region [rq 0 21 (.bin .lss (.tm 20) (.tm 19))] 1 [1,2,3,18,19,20,21])
 (.seq (.cond (.tm 21)
 .skip
 (.exit 0))
 (.seq (.block 1
 (.seq (.region [RM 0 22 20,
 rq 1 23 (.idx 4 (.tm 18) (.tm 20)),
 rq 2 24 (.load 4 true (.tm 23)),
 rq 3 5 (.alloc [VZ,OZ,OZ,VZ]),
 RM 4 4 22,
 rn 5 (.store 4 true (.tm 5) (.tm 24))] 6 [1,2,3,4,5,18,19,20])
 (.seq (.region [RF 0 25 2 3,
 RL 1 26 25,
 RF 2 27 0 5,
 RL 3 28 27,
 rq 4 29 (.bC 1 1 [VZ] [(0,1,(.tm 28))]),
 rq 5 30 (.append 1 (.tm 26) (.tm 29)),
 RF 6 31 2 3,
 rn 7 (.store 1 false (.tm 31) (.tm 30))] 8 [1,2,3,4,5,18,19,20])
 (.seq (.region [RF 0 32 1 5,
 RL 1 33 32,
 rq 2 34 (.len false (.tm 33)),
 rq 3 35 (.move (ki 0))] 4 [1,2,3,4,18,19,20,33,34,35])
 (.block 2
 (.loop
 (.seq (.region [rq 0 36 (.bin .lss (.tm 35) (.tm 34))] 1 [1,2,3,4,18,19,20,33,34,35,36])
 (.seq (.cond (.tm 36)
 .skip
 (.exit 2))
 (.seq (.block 3
 (.seq (.region [rq 0 37 (.idx 1 (.tm 33) (.tm 35)),
 RL 1 38 37,
 RM 2 7 38] 3 [1,2,3,4,7,18,19,20,33,34,35])
 (.region [RF 0 39 3 3,
 RL 1 40 39,
 RM 2 41 4,
 RM 3 42 7,
 rq 4 43 (.build [VZ,VZ,VZ,VZ,OZ] [(0,1,(.tm 41)),(1,1,(.tm 42))]),
 rq 5 44 (.bC 5 1 [VZ,VZ,VZ,VZ,OZ] [(0,5,(.tm 43))]),
 rq 6 45 (.append 5 (.tm 40) (.tm 44)),
 RF 7 46 3 3,
 rn 8 (.store 1 false (.tm 46) (.tm 45))] 9 [1,2,3,4,18,19,20,33,34,35])))
 (.region [rq 0 47 (.bin .add (.tm 35) (ki 1)),
 RM 1 35 47] 2 [1,2,3,4,18,19,20,33,34,35]))))))))))
 (.region [rq 0 48 (.bin .add (.tm 20) (ki 1)),
 RM 1 20 48] 2 [1,2,3,18,19,20])))))))
 (.seq (.seq (.region [RF 0 49 3 1,
 RL 1 50 49,
 rq 2 51 (.len false (.tm 50)),
 rq 3 52 (.move (ki 0))] 4 [2,3,50,51,52])
 (.block 4
 (.loop
 (.seq (.region [rq 0 53 (.bin .lss (.tm 52) (.tm 51))] 1 [2,3,50,51,52,53])
 (.seq (.cond (.tm 53)
 .skip
 (.exit 4))
 (.seq (.block 5
 (.seq (.region [rq 0 54 (.idx 3 (.tm 50) (.tm 52)),
 rq 1 55 (.load 3 true (.tm 54)),
 rq 2 9 (.alloc [OZ,OZ,VZ]),
 rn 3 (.store 3 true (.tm 9) (.tm 55))] 4 [2,3,9,50,51,52])
 (.seq (.seq (.region [RF 0 56 0 9,
 RL 1 57 56,
 rq 2 58 (.len false (.tm 57)),
 rq 3 59 (.move (ki 0))] 4 [2,3,9,50,51,52,57,58,59])
 (.block 6
 (.loop
 (.seq (.region [rq 0 60 (.bin .lss (.tm 59) (.tm 58))] 1 [2,3,9,50,51,52,57,58,59,60])
 (.seq (.cond (.tm 60)
 .skip
 (.exit 6))
 (.seq (.block 7
 (.seq (.region [rq 0 61 (.idx 3 (.tm 57) (.tm 59)),
 rq 1 62 (.load 3 true (.tm 61)),
 rq 2 11 (.alloc [VZ,VZ,VZ]),
 rn 3 (.store 3 true (.tm 11) (.tm 62))] 4 [2,3,9,11,50,51,52,57,58,59])
 (.region [RF 0 63 3 3,
 RL 1 64 63,
 RF 2 65 0 11,
 RL 3 66 65,
 RF 4 67 1 11,
 RL 5 68 67,
 rq 6 69 (.build [VZ,VZ,VZ,VZ,OZ] [(0,1,(.tm 66)),(1,1,(.tm 68))]),
 rq 7 70 (.bC 5 1 [VZ,VZ,VZ,VZ,OZ] [(0,5,(.tm 69))]),
 rq 8 71 (.append 5 (.tm 64) (.tm 70)),
 RF 9 72 3 3,
 rn 10 (.store 1 false (.tm 72) (.tm 71))] 11 [2,3,9,50,51,52,57,58,59])))
 (.region [rq 0 73 (.bin .add (.tm 59) (ki 1)),
 RM 1 59 73] 2 [2,3,9,50,51,52,57,58,59])))))))
 (.region [RF 0 74 4 3,
 RL 1 75 74,
 RF 2 76 1 9,
 RL 3 77 76,
 rq 4 78 (.append 5 (.tm 75) (.tm 77)),
 RF 5 79 4 3,
 rn 6 (.store 1 false (.tm 79) (.tm 78))] 7 [2,3,50,51,52]))))
 (.region [rq 0 80 (.bin .add (.tm 52) (ki 1)),
 RM 1 52 80] 2 [2,3,50,51,52])))))))
 (.seq (.region [RF 0 81 3 3,
 RL 1 82 81,
 rq 2 83 (.call cG [(.tm 82),(.fn bJ)])] 3 [2,3])
 (.seq (.region [RF 0 84 4 3,
 RL 1 85 84,
 rq 2 86 (.call cG [(.tm 85),(.fn bJ)])] 3 [2,3])
 (.seq (.region [rq 0 87 (.load 6 true (.tm 3)),
 rq 1 88 (.call iG [(.tm 87)]),
 rn 2 (.store 6 true (.tm 2) (.tm 88))] 3 [2])
 .ret)))))))
def SH:List Cert:=[⟨[],[1,2]⟩,⟨[],[1,2,3]⟩,⟨[],[1,2,3,18,19,20]⟩,⟨[],[1,2,3,18,19,20,21]⟩,⟨[],[1,2,3,4,5,18,19,20]⟩,⟨[],[1,2,3,4,5,18,19,20]⟩,⟨[],[1,2,3,4,18,19,20,33,34,35]⟩,⟨[],[1,2,3,4,18,19,20,33,34,35,36]⟩,⟨[],[1,2,3,4,7,18,19,20,33,34,35]⟩,⟨[],[1,2,3,4,18,19,20,33,34,35]⟩,⟨[],[1,2,3,4,18,19,20,33,34,35]⟩,⟨[],[1,2,3,18,19,20]⟩,⟨[],[2,3,50,51,52]⟩,⟨[],[2,3,50,51,52,53]⟩,⟨[],[2,3,9,50,51,52]⟩,⟨[],[2,3,9,50,51,52,57,58,59]⟩,⟨[],[2,3,9,50,51,52,57,58,59,60]⟩,⟨[],[2,3,9,11,50,51,52,57,58,59]⟩,⟨[],[2,3,9,50,51,52,57,58,59]⟩,⟨[],[2,3,9,50,51,52,57,58,59]⟩,⟨[],[2,3,50,51,52]⟩,⟨[],[2,3,50,51,52]⟩,⟨[],[2,3]⟩,⟨[],[2,3]⟩,⟨[],[2]⟩]
def GJ:List aW:=[.cell 2 6 true]
theorem RY:aO Tryz.prog Tryz.f39 SH=some (yF,GJ):=by kernel_rfl
def lL:AC:=
 (.seq (.region [rq 0 3 (.box true (.tm 0)),
 rq 1 5 (.box true (.tm 2)),
 rq 2 6 (.move (.kv (.bool false)))] 3 [1,3,5])
 (.seq (.seq (.region [RF 0 17 0 5,
 RL 1 18 17,
 RF 2 19 2 3,
 RL 3 20 19,
 RM 4 21 1,
 rq 5 22 (.idx 1 (.tm 20) (.tm 21)),
 RL 6 23 22,
 rq 7 24 (.len false (.tm 23)),
 rq 8 25 (.call cQ [(.tm 18),(ki 0),(.tm 24)]),
 rq 9 26 (.un .not (.tm 25)),
 RM 10 27 26,
 GQ 11 28 (.fld 1 (.tm 5)) 27 false,
 GQ 12 29 (.load 1 false (.tm 28)) 27 false,
 GQ 13 30 (.len false (.tm 29)) 27 false,
 GQ 14 31 (.fld 0 (.tm 5)) 27 false,
 GQ 15 32 (.load 1 false (.tm 31)) 27 false,
 GQ 16 33 (.mmx true (ki 2) (.tm 32)) 27 false,
 GQ 17 34 (.bin .gtr (.tm 30) (.tm 33)) 27 false,
 rq 18 35 (.pick (.tm 27) (.kv (.bool true)) (.tm 34)),
 RM 19 36 35,
 GQ 20 37 (.fld 2 (.tm 5)) 36 false,
 GQ 21 38 (.load 1 false (.tm 37)) 36 false,
 GQ 22 39 (.len false (.tm 38)) 36 false,
 GQ 23 40 (.bin .gtr (.tm 39) (ki 4)) 36 false,
 rq 24 41 (.pick (.tm 36) (.kv (.bool true)) (.tm 40)),
 RM 25 42 41,
 GQ 26 43 (.fld 3 (.tm 5)) 42 false,
 GQ 27 44 (.load 1 false (.tm 43)) 42 false,
 GQ 28 45 (.call cQ [(.tm 44),(ki 0),(ki 3)]) 42 false,
 GQ 29 46 (.un .not (.tm 45)) 42 false,
 rq 30 47 (.pick (.tm 42) (.kv (.bool true)) (.tm 46))] 31 [1,3,5,47])
 (.cond (.tm 47)
 (.seq (.region [rq 0 6 (.move (.kv (.bool false)))] 1 [6])
 .ret)
 .skip))
 (.seq (.region [RF 0 48 0 5,
 RL 1 49 48,
 RF 2 50 1 5,
 RL 3 51 50,
 rq 4 52 (.len false (.tm 51)),
 rq 5 53 (.bin .sub (.tm 49) (.tm 52)),
 RM 6 7 53] 7 [1,3,5,7])
 (.seq (.seq (.region [RF 0 54 1 5,
 RL 1 55 54,
 rq 2 56 (.len false (.tm 55)),
 rq 3 57 (.move (ki 0))] 4 [1,3,5,7,55,56,57])
 (.block 0
 (.loop
 (.seq (.region [rq 0 58 (.bin .lss (.tm 57) (.tm 56))] 1 [1,3,5,7,55,56,57,58])
 (.seq (.cond (.tm 58)
 .skip
 (.exit 0))
 (.seq (.block 1
 (.seq (.region [RM 0 59 57,
 rq 1 60 (.idx 1 (.tm 55) (.tm 57)),
 RL 2 61 60,
 RM 3 8 59,
 RM 4 9 61] 5 [1,3,5,7,8,9,55,56,57])
 (.seq (.region [RM 0 62 9,
 RM 1 63 7,
 RM 2 64 8,
 rq 3 65 (.bin .add (.tm 63) (.tm 64)),
 rq 4 66 (.bin .neq (.tm 62) (.tm 65))] 5 [1,3,5,7,55,56,57,66])
 (.cond (.tm 66)
 (.seq (.region [rq 0 6 (.move (.kv (.bool false)))] 1 [6])
 .ret)
 .skip))))
 (.region [rq 0 67 (.bin .add (.tm 57) (ki 1)),
 RM 1 57 67] 2 [1,3,5,7,55,56,57])))))))
 (.seq (.region [rq 0 10 (.move (.kv (.int .i64 (-1))))] 1 [1,3,5,7,10])
 (.seq (.region [rq 0 68 (.xop (.DS 0 false) []),
 RM 1 11 68] 2 [1,3,5,7,10,11])
 (.seq (.seq (.region [RF 0 69 2 5,
 RL 1 70 69,
 rq 2 71 (.len false (.tm 70)),
 rq 3 72 (.move (ki 0))] 4 [1,3,7,10,11,70,71,72])
 (.block 2
 (.loop
 (.seq (.region [rq 0 73 (.bin .lss (.tm 72) (.tm 71))] 1 [1,3,7,10,11,70,71,72,73])
 (.seq (.cond (.tm 73)
 .skip
 (.exit 2))
 (.seq (.block 3
 (.seq (.region [rq 0 74 (.idx 3 (.tm 70) (.tm 72)),
 rq 1 75 (.load 3 true (.tm 74)),
 rq 2 13 (.alloc [VZ,VZ,VZ]),
 rn 3 (.store 3 true (.tm 13) (.tm 75))] 4 [1,3,7,10,11,13,70,71,72])
 (.seq (.seq (.region [RF 0 76 0 13,
 RL 1 77 76,
 RM 2 78 1,
 rq 3 79 (.bin .neq (.tm 77) (.tm 78)),
 RM 4 80 79,
 GQ 5 81 (.fld 1 (.tm 13)) 80 false,
 GQ 6 82 (.load 1 false (.tm 81)) 80 false,
 GQ 7 83 (.move (.tm 10)) 80 false,
 GQ 8 84 (.bin .add (.tm 83) (ki 1)) 80 false,
 GQ 9 85 (.move (.tm 7)) 80 false,
 GQ 10 86 (.bin .sub (.tm 85) (ki 1)) 80 false,
 GQ 11 87 (.call cQ [(.tm 82),(.tm 84),(.tm 86)]) 80 false,
 GQ 12 88 (.un .not (.tm 87)) 80 false,
 rq 13 89 (.pick (.tm 80) (.kv (.bool true)) (.tm 88)),
 RM 14 90 89,
 GQ 15 91 (.fld 2 (.tm 13)) 90 false,
 ⟨16,(some 92),.load 1 false (.tm 91),(some (90,false)),[],[],true⟩,
 GQ 17 93 (.fld 0 (.tm 3)) 90 false,
 GQ 18 94 (.load 1 false (.tm 93)) 90 false,
 GQ 19 95 (.fld 2 (.tm 3)) 90 false,
 GQ 20 96 (.load 1 false (.tm 95)) 90 false,
 GQ 21 97 (.move (.tm 1)) 90 false,
 GQ 22 98 (.idx 1 (.tm 96) (.tm 97)) 90 false,
 GQ 23 99 (.load 1 false (.tm 98)) 90 false,
 GQ 24 100 (.fld 1 (.tm 13)) 90 false,
 GQ 25 101 (.load 1 false (.tm 100)) 90 false,
 GQ 26 102 (.idx 7 (.tm 99) (.tm 101)) 90 false,
 GQ 27 103 (.load 7 true (.tm 102)) 90 false,
 ⟨28,(some 104),.call rN [(.tm 94),(.tm 103)],(some (90,false)),[],[16],false⟩,
 GQ 29 105 (.bin .neq (.tm 92) (.tm 104)) 90 false,
 rq 30 106 (.pick (.tm 90) (.kv (.bool true)) (.tm 105))] 31 [1,3,7,11,13,70,71,72,106])
 (.cond (.tm 106)
 (.seq (.region [rq 0 6 (.move (.kv (.bool false)))] 1 [6])
 .ret)
 .skip))
 (.seq (.region [RF 0 107 1 13,
 RL 1 108 107,
 RM 2 10 108] 3 [1,3,7,10,11,13,70,71,72])
 (.seq (.region [rq 0 109 (.load 3 true (.tm 3)),
 RM 1 110 1,
 RF 2 111 1 13,
 RL 3 112 111,
 rq 4 113 (.call fB [(.tm 109),(.tm 110),(.tm 112)]),
 RM 5 14 113] 6 [1,3,7,10,11,13,14,70,71,72])
 (.seq (.seq (.region [RM 0 115 11,
 RM 1 116 14,
 rq 2 117 (.xop (.rA 0 false true) [(.tm 115),(.tm 116)]),
 RM 3 114 117,
 rq 4 118 (.ext (.tm 114) 0),
 rq 5 119 (.ext (.tm 114) 1),
 RM 6 15 118,
 RM 7 16 119] 8 [1,3,7,10,11,13,14,15,16,70,71,72])
 (.seq (.region [RM 0 120 16,
 RM 1 121 120,
 GQ 2 122 (.move (.tm 15)) 121 true,
 GQ 3 123 (.fld 2 (.tm 13)) 121 true,
 GQ 4 124 (.load 1 false (.tm 123)) 121 true,
 GQ 5 125 (.bin .neq (.tm 122) (.tm 124)) 121 true,
 rq 6 126 (.pick (.tm 121) (.tm 125) (.kv (.bool false)))] 7 [1,3,7,10,11,13,14,70,71,72,126])
 (.cond (.tm 126)
 (.seq (.region [rq 0 6 (.move (.kv (.bool false)))] 1 [6])
 .ret)
 .skip)))
 (.region [RM 0 127 11,
 RM 1 128 14,
 RF 2 129 2 13,
 RL 3 130 129,
 rn 4 (.xop (.vM 0 false) [(.tm 127),(.tm 128),(.tm 130)])] 5 [1,3,7,10,11,70,71,72])))))))
 (.region [rq 0 131 (.bin .add (.tm 72) (ki 1)),
 RM 1 72 131] 2 [1,3,7,10,11,70,71,72])))))))
 (.seq (.region [rq 0 6 (.move (.kv (.bool true)))] 1 [6])
 .ret))))))))
def EK:List Cert:=[⟨[],[1,3,5]⟩,⟨[cz 0,cz 1,cz 2,cz 3,cz 4,cz 5,cz 6,cz 7,cz 8,cz 9,cz 10,cz 11,cz 12,cz 13,cz 14,cz 15,cz 16,cz 17,cz 18,cz 19,cz 20,cz 21,cz 22,cz 23,cz 24,cz 25,cz 26,cz 27,cz 28,cz 29,cz 30],[1,3,5,47]⟩,⟨[],[6]⟩,⟨[],[1,3,5,7]⟩,⟨[],[1,3,5,7,55,56,57]⟩,⟨[],[1,3,5,7,55,56,57,58]⟩,⟨[],[1,3,5,7,8,9,55,56,57]⟩,⟨[],[1,3,5,7,55,56,57,66]⟩,⟨[],[6]⟩,⟨[],[1,3,5,7,55,56,57]⟩,⟨[],[1,3,5,7,10]⟩,⟨[],[1,3,5,7,10,11]⟩,⟨[],[1,3,7,10,11,70,71,72]⟩,⟨[],[1,3,7,10,11,70,71,72,73]⟩,⟨[],[1,3,7,10,11,13,70,71,72]⟩,⟨[cz 0,cz 1,cz 2,cz 3,cz 4,cz 5,cz 6,cz 7,cz 8,cz 9,cz 10,cz 11,cz 12,cz 13,cz 14,cz 15,(16,[],[],true),cz 17,cz 18,cz 19,cz 20,cz 21,cz 22,cz 23,cz 24,cz 25,cz 26,cz 27,(28,[],[16],false),cz 29,cz 30],[1,3,7,11,13,70,71,72,106]⟩,⟨[],[6]⟩,⟨[],[1,3,7,10,11,13,70,71,72]⟩,⟨[],[1,3,7,10,11,13,14,70,71,72]⟩,⟨[],[1,3,7,10,11,13,14,15,16,70,71,72]⟩,⟨[],[1,3,7,10,11,13,14,70,71,72,126]⟩,⟨[],[6]⟩,⟨[],[1,3,7,10,11,70,71,72]⟩,⟨[],[1,3,7,10,11,70,71,72]⟩,⟨[],[6]⟩]
def sF:List aW:=[.tm 6]
theorem EM:aO Tryz.prog Tryz.f65 EK=some (lL,sF):=by kernel_rfl
def lB:AC:=
 (.seq (.region [rq 0 3 (.box true (.tm 0)),
 rq 1 4 (.box true (.tm 1)),
 rq 2 5 (.box false (.tm 2)),
 rq 3 6 (.move (.kv (.bool false)))] 4 [3,4,5])
 (.seq (.region [RF 0 14 3 4,
 RL 1 15 14,
 RL 2 16 5,
 rq 3 17 (.idx 3 (.tm 15) (.tm 16)),
 rq 4 18 (.load 3 true (.tm 17)),
 rq 5 7 (.alloc [OZ,OZ,VZ]),
 rn 6 (.store 3 true (.tm 7) (.tm 18))] 7 [3,4,5,7])
 (.seq (.seq (.region [RF 0 19 0 7,
 RL 1 20 19,
 rq 2 21 (.len false (.tm 20)),
 rq 3 22 (.bin .gtr (.tm 21) (ki 2)),
 RM 4 23 22,
 GQ 5 24 (.fld 1 (.tm 7)) 23 false,
 GQ 6 25 (.load 1 false (.tm 24)) 23 false,
 GQ 7 26 (.len false (.tm 25)) 23 false,
 GQ 8 27 (.bin .gtr (.tm 26) (ki 2)) 23 false,
 rq 9 28 (.pick (.tm 23) (.kv (.bool true)) (.tm 27)),
 RM 10 29 28,
 GQ 11 30 (.fld 2 (.tm 7)) 29 false,
 GQ 12 31 (.load 1 false (.tm 30)) 29 false,
 GQ 13 32 (.call jA [(.tm 31)]) 29 false,
 GQ 14 33 (.un .not (.tm 32)) 29 false,
 rq 15 34 (.pick (.tm 29) (.kv (.bool true)) (.tm 33))] 16 [3,4,5,7,34])
 (.cond (.tm 34)
 (.seq (.region [rq 0 6 (.move (.kv (.bool false)))] 1 [6])
 .ret)
 .skip))
 (.seq (.region [rq 0 35 (.build [VZ,VZ,VZ] [(0,1,(.kv (.int .i64 (-1)))),(1,1,(.kv (.int .i64 (-1)))),(2,1,(.kv (.int .i64 (-1))))]),
 rq 1 8 (.alloc [VZ,VZ,VZ]),
 rn 2 (.store 3 true (.tm 8) (.tm 35))] 3 [3,4,5,7,8])
 (.seq (.region [rq 0 36 (.xop (.zI cO) [(.tm 8),(.tm 4),(.tm 5)]),
 RM 1 9 36] 2 [3,5,7,9])
 (.seq (.seq (.region [RF 0 37 1 7,
 RL 1 38 37,
 rq 2 39 (.len false (.tm 38)),
 rq 3 40 (.move (ki 0))] 4 [3,5,7,9,38,39,40])
 (.block 0
 (.loop
 (.seq (.region [rq 0 41 (.bin .lss (.tm 40) (.tm 39))] 1 [3,5,7,9,38,39,40,41])
 (.seq (.cond (.tm 41)
 .skip
 (.exit 0))
 (.seq (.block 1
 (.seq (.region [rq 0 42 (.idx 5 (.tm 38) (.tm 40)),
 rq 1 43 (.load 5 true (.tm 42)),
 rq 2 11 (.alloc [VZ,VZ,VZ,VZ,OZ]),
 rn 3 (.store 5 true (.tm 11) (.tm 43))] 4 [3,5,7,9,11,38,39,40])
 (.seq (.region [RM 0 44 9,
 RF 1 45 0 11,
 RL 2 46 45,
 RF 3 47 1 11,
 RL 4 48 47,
 rq 5 49 (.t5 (.tm 44) [(.tm 46),(.tm 48)]),
 rq 6 50 (.un .not (.tm 49)),
 RM 7 51 50,
 GQ 8 52 (.fld 2 (.tm 11)) 51 false,
 GQ 9 53 (.load 3 true (.tm 52)) 51 false,
 GQ 10 54 (.call m6 [(.tm 53)]) 51 false,
 GQ 11 55 (.un .not (.tm 54)) 51 false,
 rq 12 56 (.pick (.tm 51) (.kv (.bool true)) (.tm 55)),
 RM 13 57 56,
 GQ 14 58 (.fld 2 (.tm 11)) 57 false,
 GQ 15 59 (.fld 0 (.tm 58)) 57 false,
 ⟨16,(some 60),.load 1 false (.tm 59),(some (57,false)),[],[],true⟩,
 GQ 17 61 (.load 3 true (.tm 3)) 57 false,
 GQ 18 62 (.fld 0 (.tm 11)) 57 false,
 GQ 19 63 (.load 1 false (.tm 62)) 57 false,
 GQ 20 64 (.fld 1 (.tm 11)) 57 false,
 GQ 21 65 (.load 1 false (.tm 64)) 57 false,
 ⟨22,(some 66),.call fB [(.tm 61),(.tm 63),(.tm 65)],(some (57,false)),[],[16],false⟩,
 GQ 23 67 (.bin .neq (.tm 60) (.tm 66)) 57 false,
 rq 24 68 (.pick (.tm 57) (.kv (.bool true)) (.tm 67))] 25 [3,5,7,9,38,39,40,68])
 (.cond (.tm 68)
 (.seq (.region [rq 0 6 (.move (.kv (.bool false)))] 1 [6])
 .ret)
 .skip))))
 (.region [rq 0 69 (.bin .add (.tm 40) (ki 1)),
 RM 1 40 69] 2 [3,5,7,9,38,39,40])))))))
 (.seq (.seq (.region [RF 0 70 0 7,
 RL 1 71 70,
 rq 2 72 (.len false (.tm 71)),
 rq 3 73 (.move (ki 0))] 4 [3,5,9,71,72,73])
 (.block 2
 (.loop
 (.seq (.region [rq 0 74 (.bin .lss (.tm 73) (.tm 72))] 1 [3,5,9,71,72,73,74])
 (.seq (.cond (.tm 74)
 .skip
 (.exit 2))
 (.seq (.block 3
 (.seq (.region [RM 0 75 73,
 rq 1 76 (.idx 3 (.tm 71) (.tm 73)),
 rq 2 77 (.load 3 true (.tm 76)),
 rq 3 13 (.alloc [VZ,VZ,VZ]),
 RM 4 12 75,
 rn 5 (.store 3 true (.tm 13) (.tm 77))] 6 [3,5,9,12,13,71,72,73])
 (.seq (.region [RM 0 78 9,
 RF 1 79 0 13,
 RL 2 80 79,
 RF 3 81 1 13,
 RL 4 82 81,
 rq 5 83 (.t5 (.tm 78) [(.tm 80),(.tm 82)]),
 rq 6 84 (.un .not (.tm 83)),
 RM 7 85 84,
 GQ 8 86 (.move (.tm 12)) 85 false,
 GQ 9 87 (.bin .eql (.tm 86) (ki 0)) 85 false,
 GQ 10 88 (.move (.tm 87)) 85 false,
 GQ 11 89 (.fld 2 (.tm 13)) 88 true,
 GQ 12 90 (.load 1 false (.tm 89)) 88 true,
 GQ 13 91 (.fld 1 (.tm 3)) 88 true,
 GQ 14 92 (.load 1 false (.tm 91)) 88 true,
 GQ 15 93 (.load 1 false (.tm 5)) 88 true,
 GQ 16 94 (.idx 1 (.tm 92) (.tm 93)) 88 true,
 GQ 17 95 (.load 1 false (.tm 94)) 88 true,
 GQ 18 96 (.call cQ [(.tm 90),(ki 0),(.tm 95)]) 88 true,
 GQ 19 97 (.un .not (.tm 96)) 88 true,
 GQ 20 98 (.pick (.tm 88) (.tm 97) (.kv (.bool false))) 85 false,
 rq 21 99 (.pick (.tm 85) (.kv (.bool true)) (.tm 98)),
 RM 22 100 99,
 GQ 23 101 (.move (.tm 12)) 100 false,
 GQ 24 102 (.bin .gtr (.tm 101) (ki 0)) 100 false,
 GQ 25 103 (.move (.tm 102)) 100 false,
 GQ 26 104 (.fld 2 (.tm 13)) 103 true,
 GQ 27 105 (.load 1 false (.tm 104)) 103 true,
 GQ 28 106 (.fld 1 (.tm 3)) 103 true,
 GQ 29 107 (.load 1 false (.tm 106)) 103 true,
 GQ 30 108 (.load 1 false (.tm 5)) 103 true,
 GQ 31 109 (.idx 1 (.tm 107) (.tm 108)) 103 true,
 GQ 32 110 (.load 1 false (.tm 109)) 103 true,
 GQ 33 111 (.bin .neq (.tm 105) (.tm 110)) 103 true,
 GQ 34 112 (.pick (.tm 103) (.tm 111) (.kv (.bool false))) 100 false,
 rq 35 113 (.pick (.tm 100) (.kv (.bool true)) (.tm 112))] 36 [3,5,9,71,72,73,113])
 (.cond (.tm 113)
 (.seq (.region [rq 0 6 (.move (.kv (.bool false)))] 1 [6])
 .ret)
 .skip))))
 (.region [rq 0 114 (.bin .add (.tm 73) (ki 1)),
 RM 1 73 114] 2 [3,5,9,71,72,73])))))))
 (.seq (.region [rq 0 6 (.move (.kv (.bool true)))] 1 [6])
 .ret))))))))
def B4:List Cert:=[⟨[],[3,4,5]⟩,⟨[],[3,4,5,7]⟩,⟨[],[3,4,5,7,34]⟩,⟨[],[6]⟩,⟨[],[3,4,5,7,8]⟩,⟨[],[3,5,7,9]⟩,⟨[],[3,5,7,9,38,39,40]⟩,⟨[],[3,5,7,9,38,39,40,41]⟩,⟨[],[3,5,7,9,11,38,39,40]⟩,⟨[cz 0,cz 1,cz 2,cz 3,cz 4,cz 5,cz 6,cz 7,cz 8,cz 9,cz 10,cz 11,cz 12,cz 13,cz 14,cz 15,(16,[],[],true),cz 17,cz 18,cz 19,cz 20,cz 21,(22,[],[16],false),cz 23,cz 24],[3,5,7,9,38,39,40,68]⟩,⟨[],[6]⟩,⟨[],[3,5,7,9,38,39,40]⟩,⟨[],[3,5,9,71,72,73]⟩,⟨[],[3,5,9,71,72,73,74]⟩,⟨[],[3,5,9,12,13,71,72,73]⟩,⟨[cz 0,cz 1,cz 2,cz 3,cz 4,cz 5,cz 6,cz 7,cz 8,cz 9,cz 10,cz 11,cz 12,cz 13,cz 14,cz 15,cz 16,cz 17,cz 18,cz 19,cz 20,cz 21,cz 22,cz 23,cz 24,cz 25,cz 26,cz 27,cz 28,cz 29,cz 30,cz 31,cz 32,cz 33,cz 34,cz 35],[3,5,9,71,72,73,113]⟩,⟨[],[6]⟩,⟨[],[3,5,9,71,72,73]⟩,⟨[],[6]⟩]
def qR:List aW:=[.tm 6]
theorem B8:aO Tryz.prog Tryz.f66 B4=some (lB,qR):=by kernel_rfl
def CT:AC:=
 (.seq (.region [rq 0 1 (.box true (.tm 0)),
 rq 1 2 (.move (.kv (.bool false)))] 2 [1])
 (.seq (.region [RF 0 3 0 1,
 RL 1 4 3,
 rq 2 5 (.len false (.tm 4)),
 rq 3 6 (.bin .eql (.tm 5) (ki 3)),
 RM 4 7 6,
 GQ 5 8 (.fld 1 (.tm 1)) 7 true,
 GQ 6 9 (.load 1 false (.tm 8)) 7 true,
 GQ 7 10 (.len false (.tm 9)) 7 true,
 GQ 8 11 (.bin .eql (.tm 10) (ki 4)) 7 true,
 rq 9 12 (.pick (.tm 7) (.tm 11) (.kv (.bool false))),
 RM 10 13 12,
 GQ 11 14 (.fld 2 (.tm 1)) 13 true,
 GQ 12 15 (.load 1 false (.tm 14)) 13 true,
 GQ 13 16 (.len false (.tm 15)) 13 true,
 GQ 14 17 (.bin .eql (.tm 16) (ki 3)) 13 true,
 rq 15 18 (.pick (.tm 13) (.tm 17) (.kv (.bool false))),
 RM 16 2 18] 17 [2])
 .ret))
def W7:List Cert:=[⟨[],[1]⟩,⟨[],[2]⟩]
def LU:List aW:=[.tm 2]
theorem XQ:aO Tryz.prog Tryz.f68 W7=some (CT,LU):=by kernel_rfl
theorem XL:aN Tryz.prog uJ Tryz.f68 CT LU:=
 aN.mk Tryz.func68 (by kernel_rfl) XQ
def dF:AC:=
 (.region [RM 0 4 0,
 RM 1 5 0,
 rq 2 6 (.len false (.tm 5)),
 RM 3 7 1,
 rq 4 8 (.call gL [(.tm 4),(.tm 6),(.tm 7)])] 5 [])
def l4:List Cert:=[⟨[],[]⟩]
def gD:List aW:=[]
theorem mB:aO Tryz.prog Tryz.f86 l4=some (dF,gD):=by kernel_rfl
def jP:AC:=
 (.seq (.region [rq 0 7 (.move (.kv (.bool false)))] 1 [0,1,2,3,4])
 (.seq (.seq (.region [RM 0 9 0,
 rq 1 10 (.call jA [(.tm 9)]),
 rq 2 11 (.un .not (.tm 10)),
 RM 3 12 11,
 GQ 4 13 (.move (.tm 1)) 12 false,
 GQ 5 14 (.move (.tm 0)) 12 false,
 GQ 6 15 (.TL 1 3 (.tm 2) (.tm 14)) 12 false,
 GQ 7 16 (.load 1 false (.tm 15)) 12 false,
 GQ 8 17 (.bin .leq (.tm 13) (.tm 16)) 12 false,
 rq 9 18 (.pick (.tm 12) (.kv (.bool true)) (.tm 17))] 10 [0,1,2,3,4,18])
 (.cond (.tm 18)
 (.seq (.region [rq 0 7 (.move (.kv (.bool false)))] 1 [7])
 .ret)
 .skip))
 (.seq (.region [RM 0 19 0,
 RM 1 20 1,
 rq 2 21 (.TL 1 3 (.tm 2) (.tm 19)),
 rn 3 (.store 1 false (.tm 21) (.tm 20))] 4 [0,1,3,4])
 (.seq (.region [RF 0 22 2 3,
 RL 1 23 22,
 RM 2 24 0,
 rq 3 25 (.idx 4 (.tm 23) (.tm 24)),
 rq 4 26 (.load 4 true (.tm 25)),
 RM 5 27 1,
 rq 6 28 (.call kV [(.tm 26),(.tm 27)]),
 RM 7 8 28] 8 [0,3,4,8])
 (.seq (.region [RM 0 29 8,
 rq 1 30 (.bin .geq (.tm 29) (ki 0)),
 RM 2 31 30,
 GQ 3 32 (.fld 2 (.tm 3)) 31 true,
 GQ 4 33 (.load 1 false (.tm 32)) 31 true,
 GQ 5 34 (.move (.tm 0)) 31 true,
 GQ 6 35 (.idx 4 (.tm 33) (.tm 34)) 31 true,
 GQ 7 36 (.fld 2 (.tm 35)) 31 true,
 GQ 8 37 (.load 1 false (.tm 36)) 31 true,
 GQ 9 38 (.move (.tm 8)) 31 true,
 GQ 10 39 (.idx 3 (.tm 37) (.tm 38)) 31 true,
 GQ 11 40 (.fld 2 (.tm 39)) 31 true,
 GQ 12 41 (.load 1 false (.tm 40)) 31 true,
 GQ 13 42 (.load 1 false (.tm 4)) 31 true,
 GQ 14 43 (.bin .eql (.tm 41) (.tm 42)) 31 true,
 rq 15 44 (.pick (.tm 31) (.tm 43) (.kv (.bool false))),
 RM 16 7 44] 17 [7])
 .ret)))))
def AU:List Cert:=[⟨[],[0,1,2,3,4]⟩,⟨[],[0,1,2,3,4,18]⟩,⟨[],[7]⟩,⟨[],[0,1,3,4]⟩,⟨[],[0,3,4,8]⟩,⟨[cz 0,cz 1,cz 2,cz 3,cz 4,cz 5,cz 6,cz 7,cz 8,cz 9,cz 10,cz 11,cz 12,cz 13,cz 14,cz 15,cz 16],[7]⟩]
def oE:List aW:=[.tm 7]
theorem AH:aO Tryz.prog Tryz.f132 AU=some (jP,oE):=by kernel_rfl
def gA:AC:=
 (.seq (.region [rq 0 6 (.move (ki 20))] 1 [0,1,2,6])
 (.seq (.region [RM 0 10 6,
 rq 1 7 (.move (ki 0)),
 RM 2 8 10] 3 [0,1,2,6,7,8])
 (.seq (.block 0
 (.loop
 (.seq (.seq (.region [RM 0 11 8,
 RM 1 12 1,
 rq 2 13 (.bin .leq (.tm 11) (.tm 12))] 3 [0,1,2,6,7,8,13])
 (.cond (.tm 13)
 .skip
 (.exit 0)))
 (.block 1
 (.seq (.region [RM 0 14 0,
 RM 1 15 7,
 RM 2 16 8,
 RM 3 17 2,
 rq 4 18 (.call cL [(.tm 14),(.tm 15),(.tm 16),(.tm 17)])] 5 [0,1,2,6,8])
 (.seq (.region [RM 0 19 8,
 RM 1 7 19] 2 [0,1,2,6,7,8])
 (.region [RM 0 20 8,
 RM 1 21 6,
 rq 2 22 (.bin .add (.tm 20) (.tm 21)),
 RM 3 8 22] 4 [0,1,2,6,7,8])))))))
 (.seq (.region [RM 0 23 0,
 RM 1 24 7,
 RM 2 25 1,
 RM 3 26 2,
 rq 4 27 (.call cL [(.tm 23),(.tm 24),(.tm 25),(.tm 26)])] 5 [0,1,2,6])
 (.block 2
 (.loop
 (.seq (.seq (.region [RM 0 28 6,
 RM 1 29 1,
 rq 2 30 (.bin .lss (.tm 28) (.tm 29))] 3 [0,1,2,6,30])
 (.cond (.tm 30)
 .skip
 (.exit 2)))
 (.block 3
 (.seq (.region [RM 0 31 6,
 rq 1 32 (.bin .mul (ki 2) (.tm 31)),
 rq 2 7 (.move (ki 0)),
 RM 3 8 32] 4 [0,1,2,6,7,8])
 (.seq (.block 4
 (.loop
 (.seq (.seq (.region [RM 0 33 8,
 RM 1 34 1,
 rq 2 35 (.bin .leq (.tm 33) (.tm 34))] 3 [0,1,2,6,7,8,35])
 (.cond (.tm 35)
 .skip
 (.exit 4)))
 (.block 5
 (.seq (.region [RM 0 36 0,
 RM 1 37 7,
 RM 2 38 7,
 RM 3 39 6,
 rq 4 40 (.bin .add (.tm 38) (.tm 39)),
 RM 5 41 8,
 RM 6 42 2,
 rq 7 43 (.call jW [(.tm 36),(.tm 37),(.tm 40),(.tm 41),(.tm 42)])] 8 [0,1,2,6,8])
 (.seq (.region [RM 0 44 8,
 RM 1 7 44] 2 [0,1,2,6,7,8])
 (.region [RM 0 45 8,
 RM 1 46 6,
 rq 2 47 (.bin .mul (ki 2) (.tm 46)),
 rq 3 48 (.bin .add (.tm 45) (.tm 47)),
 RM 4 8 48] 5 [0,1,2,6,7,8])))))))
 (.seq (.seq (.region [RM 0 49 7,
 RM 1 50 6,
 rq 2 51 (.bin .add (.tm 49) (.tm 50)),
 RM 3 9 51] 4 [0,1,2,6,7,9])
 (.seq (.region [RM 0 52 9,
 RM 1 53 1,
 rq 2 54 (.bin .lss (.tm 52) (.tm 53))] 3 [0,1,2,6,7,9,54])
 (.cond (.tm 54)
 (.region [RM 0 55 0,
 RM 1 56 7,
 RM 2 57 9,
 RM 3 58 1,
 RM 4 59 2,
 rq 5 60 (.call jW [(.tm 55),(.tm 56),(.tm 57),(.tm 58),(.tm 59)])] 6 [0,1,2,6])
 .skip)))
 (.region [RM 0 61 6,
 rq 1 62 (.bin .mul (.tm 61) (ki 2)),
 RM 2 6 62] 3 [0,1,2,6]))))))))))))
def tH:List Cert:=[⟨[],[0,1,2,6]⟩,⟨[],[0,1,2,6,7,8]⟩,⟨[],[0,1,2,6,7,8,13]⟩,⟨[],[0,1,2,6,8]⟩,⟨[],[0,1,2,6,7,8]⟩,⟨[],[0,1,2,6,7,8]⟩,⟨[],[0,1,2,6]⟩,⟨[],[0,1,2,6,30]⟩,⟨[],[0,1,2,6,7,8]⟩,⟨[],[0,1,2,6,7,8,35]⟩,⟨[],[0,1,2,6,8]⟩,⟨[],[0,1,2,6,7,8]⟩,⟨[],[0,1,2,6,7,8]⟩,⟨[],[0,1,2,6,7,9]⟩,⟨[],[0,1,2,6,7,9,54]⟩,⟨[],[0,1,2,6]⟩,⟨[],[0,1,2,6]⟩]
def kJ:List aW:=[]
theorem sX:aO Tryz.prog Tryz.f156 tH=some (gA,kJ):=by kernel_rfl
def dU:AC:=
 (.seq (.region [RM 0 10 1,
 rq 1 11 (.bin .add (.tm 10) (ki 1)),
 RM 2 8 11] 3 [0,1,2,3,8])
 (.block 0
 (.loop
 (.seq (.seq (.region [RM 0 12 8,
 RM 1 13 2,
 rq 2 14 (.bin .lss (.tm 12) (.tm 13))] 3 [0,1,2,3,8,14])
 (.cond (.tm 14)
 .skip
 (.exit 0)))
 (.seq (.block 1
 (.seq (.region [RM 0 17 8,
 RM 1 9 17] 2 [0,1,2,3,8,9])
 (.block 2
 (.loop
 (.seq (.seq (.region [RM 0 18 9,
 RM 1 19 1,
 rq 2 20 (.bin .gtr (.tm 18) (.tm 19)),
 RM 3 21 20,
 GQ 4 22 (.move (.tm 3)) 21 true,
 GQ 5 23 (.move (.tm 0)) 21 true,
 GQ 6 24 (.move (.tm 9)) 21 true,
 GQ 7 25 (.idx 5 (.tm 23) (.tm 24)) 21 true,
 GQ 8 26 (.load 5 true (.tm 25)) 21 true,
 GQ 9 27 (.move (.tm 0)) 21 true,
 GQ 10 28 (.move (.tm 9)) 21 true,
 GQ 11 29 (.bin .sub (.tm 28) (ki 1)) 21 true,
 GQ 12 30 (.idx 5 (.tm 27) (.tm 29)) 21 true,
 GQ 13 31 (.load 5 true (.tm 30)) 21 true,
 GQ 14 32 (.t5 (.tm 22) [(.tm 26),(.tm 31)]) 21 true,
 GQ 15 33 (.bin .lss (.tm 32) (ki 0)) 21 true,
 rq 16 34 (.pick (.tm 21) (.tm 33) (.kv (.bool false)))] 17 [0,1,2,3,8,9,34])
 (.cond (.tm 34)
 .skip
 (.exit 2)))
 (.seq (.block 3
 (.region [RM 0 37 0,
 RM 1 38 9,
 RM 2 39 0,
 RM 3 40 9,
 rq 4 41 (.bin .sub (.tm 40) (ki 1)),
 RM 5 42 0,
 RM 6 43 9,
 rq 7 44 (.bin .sub (.tm 43) (ki 1)),
 rq 8 45 (.idx 5 (.tm 42) (.tm 44)),
 rq 9 46 (.load 5 true (.tm 45)),
 RM 10 47 0,
 RM 11 48 9,
 rq 12 49 (.idx 5 (.tm 47) (.tm 48)),
 rq 13 50 (.load 5 true (.tm 49)),
 rq 14 51 (.idx 5 (.tm 37) (.tm 38)),
 rn 15 (.store 5 true (.tm 51) (.tm 46)),
 rq 16 52 (.idx 5 (.tm 39) (.tm 41)),
 rn 17 (.store 5 true (.tm 52) (.tm 50))] 18 [0,1,2,3,8,9]))
 (.region [RM 0 35 9,
 rq 1 36 (.bin .sub (.tm 35) (ki 1)),
 RM 2 9 36] 3 [0,1,2,3,8,9])))))))
 (.region [RM 0 15 8,
 rq 1 16 (.bin .add (.tm 15) (ki 1)),
 RM 2 8 16] 3 [0,1,2,3,8]))))))
def nG:List Cert:=[⟨[],[0,1,2,3,8]⟩,⟨[],[0,1,2,3,8,14]⟩,⟨[],[0,1,2,3,8,9]⟩,⟨[cz 0,cz 1,cz 2,cz 3,cz 4,cz 5,cz 6,cz 7,cz 8,cz 9,cz 10,cz 11,cz 12,cz 13,cz 14,cz 15,cz 16],[0,1,2,3,8,9,34]⟩,⟨[cz 0,cz 1,cz 2,cz 3,cz 4,cz 5,cz 6,cz 7,cz 8,cz 9,cz 10,cz 11,cz 12,cz 13,cz 14,cz 15,cz 16,cz 17],[0,1,2,3,8,9]⟩,⟨[],[0,1,2,3,8,9]⟩,⟨[],[0,1,2,3,8]⟩]
def gU:List aW:=[]
theorem m9:aO Tryz.prog Tryz.f216 nG=some (dU,gU):=by kernel_rfl
end Go.Proofs.YtegiblhkjfiooaaGreat
end
section
namespace Go.Proofs.YtegiblhkjfiooaaGreat
open Go Go.AM
set_option maxRecDepth 100000
def lK:AC:=
 (.seq (.region [rq 0 4 (.box true (.tm 1)),
 rq 1 5 (.box true (.tm 2)),
 rq 2 6 (.alloc [OZ,VZ,VZ,VZ,VZ])] 3 [0,4,5,6])
 (.seq (.region [rq 0 7 (.alloc [OZ,VZ,VZ,VZ,VZ])] 1 [0,4,5,6,7])
 (.seq (.region [RM 0 8 0,
 rq 1 9 (.load 3 true (.tm 5)),
 rq 2 10 (.call mG [(.tm 8),(.tm 9),(.tm 7)])] 3 [0,4,5,6,7])
 (.seq (.region [RM 0 11 0,
 rq 1 12 (.load 3 true (.tm 4)),
 rq 2 13 (.load 3 true (.tm 5)),
 rq 3 14 (.call mM [(.tm 11),(.tm 12),(.tm 13),(.tm 7)])] 4 [0,4,5,6,7])
 (.seq (.region [RM 0 15 0,
 rq 1 16 (.load 3 true (.tm 4)),
 rq 2 17 (.call n6 [(.tm 15),(.tm 16),(.tm 7)])] 3 [0,4,5,6,7])
 (.seq (.region [RM 0 18 0,
 rq 1 19 (.load 3 true (.tm 4)),
 rq 2 20 (.load 3 true (.tm 5)),
 rq 3 21 (.call nX [(.tm 18),(.tm 19),(.tm 20),(.tm 7)])] 4 [6,7])
 (.seq (.region [rq 0 22 (.load 5 true (.tm 7)),
 rn 1 (.store 5 true (.tm 6) (.tm 22))] 2 [6])
 .ret)))))))
def EI:List Cert:=[⟨[],[0,4,5,6]⟩,⟨[],[0,4,5,6,7]⟩,⟨[],[0,4,5,6,7]⟩,⟨[],[0,4,5,6,7]⟩,⟨[],[0,4,5,6,7]⟩,⟨[],[6,7]⟩,⟨[],[6]⟩]
def sL:List aW:=[.cell 6 5 true]
theorem D7:aO Tryz.prog Tryz.f69 EI=some (lK,sL):=by kernel_rfl
def z2:AC:=
 (.seq (.region [rq 0 3 (.box true (.tm 1)),
 rq 1 4 (.move (ki 0))] 2 [0,3])
 (.seq (.region [RM 0 6 0,
 rq 1 7 (.load 7 true (.tm 3)),
 rq 2 8 (.call mZ [(.tm 6),(.tm 7)]),
 RM 3 5 8] 4 [0,5])
 (.seq (.seq (.region [RM 0 9 5,
 rq 1 10 (.bin .lss (.tm 9) (ki 0))] 2 [0,5,10])
 (.cond (.tm 10)
 (.seq (.region [rq 0 4 (.move (ki 3))] 1 [4])
 .ret)
 .skip))
 (.seq (.region [RM 0 11 0,
 RM 1 12 5,
 rq 2 13 (.idx 4 (.tm 11) (.tm 12)),
 RF 3 14 2 13,
 RL 4 15 14,
 RM 5 4 15] 6 [4])
 .ret))))
def VL:List Cert:=[⟨[],[0,3]⟩,⟨[],[0,5]⟩,⟨[],[0,5,10]⟩,⟨[],[4]⟩,⟨[],[4]⟩]
def I3:List aW:=[.tm 4]
theorem US:aO Tryz.prog Tryz.f73 VL=some (z2,I3):=by kernel_rfl
theorem UU:aN Tryz.prog rN Tryz.f73 z2 I3:=
 aN.mk Tryz.func73 (by kernel_rfl) US
def AR:AC:=
 (.seq (.region [rq 0 2 (.box true (.tm 0)),
 rq 1 3 (.box false (.tm 1)),
 rq 2 4 (.move (ki 0))] 3 [2,3])
 (.seq (.region [RF 0 5 2 2,
 RL 1 6 5,
 rq 2 7 (.xop (.zI rQ) [(.tm 3)]),
 rq 3 8 (.call bZ [(.tm 6),(.tm 7)]),
 RM 4 4 8] 5 [4])
 .ret))
def TQ:List Cert:=[⟨[],[2,3]⟩,⟨[],[4]⟩]
def IJ:List aW:=[.tm 4]
theorem TP:aO Tryz.prog Tryz.f133 TQ=some (AR,IJ):=by kernel_rfl
theorem UN:aN Tryz.prog kV Tryz.f133 AR IJ:=
 aN.mk Tryz.func133 (by kernel_rfl) TP
def lR:AC:=
 (.seq (.region [rq 0 4 (.box true (.tm 1))] 1 [0,2,4])
 (.seq (.region [RM 0 13 0,
 RK 1 14 13,
 RF 2 15 2 14,
 RL 3 16 15,
 rq 4 17 (.len false (.tm 16)),
 rq 5 18 (.move (ki 0))] 6 [0,2,4,17,18])
 (.block 0
 (.loop
 (.seq (.region [rq 0 19 (.bin .lss (.tm 18) (.tm 17))] 1 [0,2,4,17,18,19])
 (.seq (.cond (.tm 19)
 .skip
 (.exit 0))
 (.seq (.block 1
 (.seq (.region [RM 0 20 18,
 RM 1 6 20] 2 [0,2,4,6,17,18])
 (.seq (.region [RM 0 21 0,
 RK 1 22 21,
 RF 2 23 2 22,
 RL 3 24 23,
 RM 4 25 6,
 rq 5 26 (.idx 4 (.tm 24) (.tm 25)),
 RM 6 7 26] 7 [0,2,4,6,7,17,18])
 (.seq (.region [rq 0 8 (.move (ki 1))] 1 [0,2,4,6,7,8,17,18])
 (.block 2
 (.loop
 (.seq (.seq (.region [RM 0 27 8,
 rq 1 28 (.bin .leq (.tm 27) (ki 4)),
 RM 2 29 28,
 GQ 3 30 (.fld 0 (.tm 4)) 29 true,
 GQ 4 31 (.load 1 false (.tm 30)) 29 true,
 GQ 5 32 (.move (.tm 6)) 29 true,
 GQ 6 33 (.idx 1 (.tm 31) (.tm 32)) 29 true,
 GQ 7 34 (.load 1 false (.tm 33)) 29 true,
 rq 8 35 (.pick (.tm 29) (.tm 34) (.kv (.bool false)))] 9 [0,2,4,6,7,8,17,18,35])
 (.cond (.tm 35)
 .skip
 (.exit 2)))
 (.seq (.block 3
 (.seq (.region [RM 0 38 7,
 RK 1 39 38,
 RF 2 40 3 39,
 RL 3 41 40,
 RM 4 42 8,
 rq 5 43 (.bin .add (.tm 41) (.tm 42)),
 rq 6 44 (.bin .rem (.tm 43) (ki 4)),
 RM 7 9 44] 8 [0,2,4,6,7,8,9,17,18])
 (.seq (.region [RM 0 45 0,
 RK 1 46 45,
 RF 2 47 3 46,
 RL 3 48 47,
 RM 4 49 9,
 rq 5 50 (.idx 3 (.tm 48) (.tm 49)),
 RM 6 10 50] 7 [0,2,4,6,7,8,9,10,17,18])
 (.seq (.seq (.region [RM 0 51 10,
 RK 1 52 51,
 RF 2 53 1 52,
 RL 3 54 53,
 rq 4 55 (.len false (.tm 54)),
 rq 5 56 (.bin .eql (.tm 55) (ki 0)),
 RM 6 57 56,
 GQ 7 58 (.move (.tm 10)) 57 false,
 GQ 8 59 (.tF (.tm 58)) 57 false,
 GQ 9 60 (.fld 1 (.tm 59)) 57 false,
 GQ 10 61 (.load 1 false (.tm 60)) 57 false,
 GQ 11 62 (.idx 5 (.tm 61) (ki 0)) 57 false,
 GQ 12 63 (.fld 0 (.tm 62)) 57 false,
 GQ 13 64 (.load 1 false (.tm 63)) 57 false,
 GQ 14 65 (.move (.tm 6)) 57 false,
 GQ 15 66 (.bin .neq (.tm 64) (.tm 65)) 57 false,
 rq 16 67 (.pick (.tm 57) (.kv (.bool true)) (.tm 66))] 17 [0,2,4,6,7,8,9,10,17,18,67])
 (.cond (.tm 67)
 (.exit 3)
 .skip))
 (.seq (.region [RM 0 68 10,
 RK 1 69 68,
 RF 2 70 1 69,
 RL 3 71 70,
 rq 4 72 (.idx 5 (.tm 71) (ki 0)),
 rq 5 73 (.load 5 true (.tm 72)),
 rq 6 11 (.alloc [VZ,VZ,VZ,VZ,OZ]),
 rn 7 (.store 5 true (.tm 11) (.tm 73))] 8 [0,2,4,6,7,9,10,11,17,18])
 (.seq (.region [RM 0 74 0,
 RM 1 75 0,
 RK 2 76 75,
 RF 3 77 4 76,
 ⟨4,(some 78),.load 1 false (.tm 77),none,[6],[],false⟩,
 rq 5 79 (.load 5 true (.tm 11)),
 rq 6 80 (.bC 5 1 [VZ,VZ,VZ,VZ,OZ] [(0,5,(.tm 79))]),
 rq 7 81 (.append 5 (.tm 78) (.tm 80)),
 RK 8 82 74,
 RF 9 83 4 82,
 rn 10 (.store 1 false (.tm 83) (.tm 81))] 11 [0,2,4,6,7,9,10,11,17,18])
 (.seq (.region [RM 0 84 10,
 RM 1 85 10,
 RK 2 86 85,
 RF 3 87 1 86,
 RL 4 88 87,
 rq 5 89 (.slc 5 (.tm 88) (some (ki 1)) none none),
 RK 6 90 84,
 RF 7 91 1 90,
 rn 8 (.store 1 false (.tm 91) (.tm 89))] 9 [0,2,4,6,7,9,11,17,18])
 (.seq (.region [RM 0 92 7,
 RK 1 93 92,
 rq 2 94 (.load 4 true (.tm 93)),
 RF 3 95 1 11,
 RL 4 96 95,
 rq 5 97 (.call kV [(.tm 94),(.tm 96)]),
 RM 6 12 97] 7 [0,2,4,6,7,9,11,12,17,18])
 (.seq (.region [RM 0 98 7,
 RM 1 99 7,
 RK 2 100 99,
 RF 3 101 2 100,
 RL 4 102 101,
 RM 5 103 12,
 RM 6 104 12,
 rq 7 105 (.bin .add (.tm 104) (ki 1)),
 rq 8 106 (.call eA [(.tm 102),(.tm 103),(.tm 105)]),
 RK 9 107 98,
 RF 10 108 2 107,
 rn 11 (.store 1 false (.tm 108) (.tm 106))] 12 [0,2,4,6,7,9,11,17,18])
 (.seq (.region [RM 0 109 7,
 RM 1 110 9,
 RK 2 111 109,
 RF 3 112 3 111,
 rn 4 (.store 1 false (.tm 112) (.tm 110))] 5 [0,2,4,6,11,17,18])
 (.seq (.region [RM 0 113 2,
 RM 1 114 6,
 RF 2 115 1 11,
 RL 3 116 115,
 rq 4 117 (.call eC [(.tm 113),(ki 3),(.tm 114),(.tm 116)])] 5 [0,2,4,17,18])
 (.exit 2))))))))))))
 (.region [RM 0 36 8,
 rq 1 37 (.bin .add (.tm 36) (ki 1)),
 RM 2 8 37] 3 [0,2,4,6,7,8,17,18])))))))))
 (.region [rq 0 118 (.bin .add (.tm 18) (ki 1)),
 RM 1 18 118] 2 [0,2,4,17,18]))))))))
def D9:List Cert:=[⟨[],[0,2,4]⟩,⟨[],[0,2,4,17,18]⟩,⟨[],[0,2,4,17,18,19]⟩,⟨[],[0,2,4,6,17,18]⟩,⟨[],[0,2,4,6,7,17,18]⟩,⟨[],[0,2,4,6,7,8,17,18]⟩,⟨[],[0,2,4,6,7,8,17,18,35]⟩,⟨[],[0,2,4,6,7,8,9,17,18]⟩,⟨[],[0,2,4,6,7,8,9,10,17,18]⟩,⟨[],[0,2,4,6,7,8,9,10,17,18,67]⟩,⟨[],[0,2,4,6,7,9,10,11,17,18]⟩,⟨[cz 0,cz 1,cz 2,cz 3,(4,[6],[],false),cz 5,cz 6,cz 7,cz 8,cz 9,cz 10],[0,2,4,6,7,9,10,11,17,18]⟩,⟨[],[0,2,4,6,7,9,11,17,18]⟩,⟨[cz 0,cz 1,cz 2,cz 3,cz 4,cz 5,cz 6],[0,2,4,6,7,9,11,12,17,18]⟩,⟨[],[0,2,4,6,7,9,11,17,18]⟩,⟨[],[0,2,4,6,11,17,18]⟩,⟨[],[0,2,4,17,18]⟩,⟨[],[0,2,4,6,7,8,17,18]⟩,⟨[],[0,2,4,17,18]⟩]
def sK:List aW:=[]
theorem D6:aO Tryz.prog Tryz.f137 D9=some (lR,sK):=by kernel_rfl
def lQ:AC:=
 (.seq (.region [rq 0 5 (.box true (.tm 1)),
 rq 1 6 (.box true (.tm 2))] 2 [0,3,5,6])
 (.seq (.region [RM 0 11 0,
 RK 1 12 11,
 RF 2 13 3 12,
 RL 3 14 13,
 rq 4 15 (.len false (.tm 14)),
 rq 5 16 (.move (ki 0))] 6 [0,3,5,6,15,16])
 (.block 0
 (.loop
 (.seq (.region [rq 0 17 (.bin .lss (.tm 16) (.tm 15))] 1 [0,3,5,6,15,16,17])
 (.seq (.cond (.tm 17)
 .skip
 (.exit 0))
 (.seq (.block 1
 (.seq (.region [RM 0 18 16,
 RM 1 8 18] 2 [0,3,5,6,8,15,16])
 (.seq (.region [RM 0 19 0,
 RK 1 20 19,
 RF 2 21 3 20,
 RL 3 22 21,
 RM 4 23 8,
 rq 5 24 (.idx 3 (.tm 22) (.tm 23)),
 RM 6 9 24] 7 [0,3,5,6,8,9,15,16])
 (.seq (.seq (.region [RF 0 25 1 6,
 RL 1 26 25,
 RM 2 27 8,
 rq 3 28 (.idx 1 (.tm 26) (.tm 27)),
 RL 4 29 28,
 RM 5 30 29,
 GQ 6 31 (.move (.tm 9)) 30 false,
 GQ 7 32 (.tF (.tm 31)) 30 false,
 GQ 8 33 (.fld 0 (.tm 32)) 30 false,
 GQ 9 34 (.load 1 false (.tm 33)) 30 false,
 GQ 10 35 (.len false (.tm 34)) 30 false,
 GQ 11 36 (.bin .eql (.tm 35) (ki 0)) 30 false,
 rq 12 37 (.pick (.tm 30) (.kv (.bool true)) (.tm 36))] 13 [0,3,5,6,9,15,16,37])
 (.cond (.tm 37)
 (.exit 1)
 .skip))
 (.seq (.region [RM 0 38 9,
 RK 1 39 38,
 RF 2 40 0 39,
 RL 3 41 40,
 rq 4 42 (.idx 3 (.tm 41) (ki 0)),
 rq 5 43 (.load 3 true (.tm 42)),
 rq 6 10 (.alloc [VZ,VZ,VZ]),
 rn 7 (.store 3 true (.tm 10) (.tm 43))] 8 [0,3,5,6,9,10,15,16])
 (.block 2
 (.seq (.region [RF 0 45 2 10,
 RL 1 46 45,
 rq 2 47 (.bin .gtr (.tm 46) (ki 0)),
 RM 3 44 47] 4 [0,3,5,6,9,10,15,16,44])
 (.cond (.tm 44)
 (.region [RM 0 48 9,
 RK 1 49 48,
 RF 2 50 0 49,
 RL 3 51 50,
 rq 4 52 (.idx 3 (.tm 51) (ki 0)),
 RF 5 53 2 52,
 RL 6 54 53,
 rq 7 55 (.bin .sub (.tm 54) (ki 1)),
 rq 8 56 (.idx 3 (.tm 51) (ki 0)),
 RF 9 57 2 56,
 rn 10 (.store 1 false (.tm 57) (.tm 55))] 11 [0,3,5,6,15,16])
 (.seq (.region [RM 0 59 9,
 RK 1 60 59,
 RF 2 61 1 60,
 RL 3 62 61,
 rq 4 63 (.len false (.tm 62)),
 rq 5 64 (.bin .lss (.tm 63) (ki 2)),
 RM 6 58 64] 7 [0,3,5,6,9,10,15,16,58])
 (.cond (.tm 58)
 (.seq (.region [RM 0 65 9,
 RM 1 66 9,
 RK 2 67 66,
 RF 3 68 0 67,
 RL 4 69 68,
 rq 5 70 (.slc 3 (.tm 69) (some (ki 1)) none none),
 RK 6 71 65,
 RF 7 72 0 71,
 rn 8 (.store 1 false (.tm 72) (.tm 70))] 9 [0,3,5,6,9,10,15,16])
 (.seq (.region [RM 0 73 9,
 RM 1 74 9,
 RK 2 75 74,
 RF 3 76 1 75,
 ⟨4,(some 77),.load 1 false (.tm 76),none,[28],[],true⟩,
 RF 5 78 0 10,
 ⟨6,(some 79),.load 1 false (.tm 78),none,[28],[],true⟩,
 RF 7 80 1 10,
 ⟨8,(some 81),.load 1 false (.tm 80),none,[28],[],true⟩,
 RM 9 82 0,
 RK 10 83 82,
 RF 11 84 0 83,
 RF 12 85 0 5,
 RL 13 86 85,
 RF 14 87 0 10,
 RL 15 88 87,
 RF 16 89 2 5,
 RL 17 90 89,
 RF 18 91 0 10,
 RL 19 92 91,
 rq 20 93 (.idx 1 (.tm 90) (.tm 92)),
 RL 21 94 93,
 RF 22 95 1 10,
 RL 23 96 95,
 rq 24 97 (.idx 7 (.tm 94) (.tm 96)),
 rq 25 98 (.load 7 true (.tm 97)),
 ⟨26,(some 99),.call pL [(.tm 84),(.tm 86),(.tm 88),(.tm 98)],none,[],[4,6,8],false⟩,
 rq 27 100 (.build [VZ,VZ,VZ,VZ,OZ] [(0,1,(.tm 79)),(1,1,(.tm 81)),(2,3,(.tm 99))]),
 rq 28 101 (.bC 5 1 [VZ,VZ,VZ,VZ,OZ] [(0,5,(.tm 100))]),
 rq 29 102 (.append 5 (.tm 77) (.tm 101)),
 RK 30 103 73,
 RF 31 104 1 103,
 rn 32 (.store 1 false (.tm 104) (.tm 102))] 33 [0,3,5,6,10,15,16])
 (.region [RM 0 105 3,
 RF 1 106 0 10,
 RL 2 107 106,
 RF 3 108 1 10,
 RL 4 109 108,
 rq 5 110 (.call eC [(.tm 105),(ki 2),(.tm 107),(.tm 109)])] 6 [0,3,5,6,15,16])))
 .skip))))))))))
 (.region [rq 0 111 (.bin .add (.tm 16) (ki 1)),
 RM 1 16 111] 2 [0,3,5,6,15,16]))))))))
def D5:List Cert:=[⟨[],[0,3,5,6]⟩,⟨[],[0,3,5,6,15,16]⟩,⟨[],[0,3,5,6,15,16,17]⟩,⟨[],[0,3,5,6,8,15,16]⟩,⟨[],[0,3,5,6,8,9,15,16]⟩,⟨[],[0,3,5,6,9,15,16,37]⟩,⟨[],[0,3,5,6,9,10,15,16]⟩,⟨[],[0,3,5,6,9,10,15,16,44]⟩,⟨[],[0,3,5,6,15,16]⟩,⟨[],[0,3,5,6,9,10,15,16,58]⟩,⟨[],[0,3,5,6,9,10,15,16]⟩,⟨[cz 0,cz 1,cz 2,cz 3,(4,[28],[],true),cz 5,(6,[28],[],true),cz 7,(8,[28],[],true),cz 9,cz 10,cz 11,cz 12,cz 13,cz 14,cz 15,cz 16,cz 17,cz 18,cz 19,cz 20,cz 21,cz 22,cz 23,cz 24,cz 25,(26,[],[4,6,8],false),cz 27,cz 28,cz 29,cz 30,cz 31,cz 32],[0,3,5,6,10,15,16]⟩,⟨[],[0,3,5,6,15,16]⟩,⟨[],[0,3,5,6,15,16]⟩]
def sI:List aW:=[]
theorem EC:aO Tryz.prog Tryz.f138 D5=some (lQ,sI):=by kernel_rfl
def mL:AC:=
 (.seq (.region [rq 0 4 (.box true (.tm 1))] 1 [0,2,4])
 (.seq (.region [rq 0 6 (.alloc [(.v (.bool false)),(.v (.bool false)),(.v (.bool false))])] 1 [0,2,4,6])
 (.seq (.region [RM 0 13 0,
 RK 1 14 13,
 RF 2 15 3 14,
 RL 3 16 15,
 rq 4 17 (.len false (.tm 16)),
 rq 5 18 (.move (ki 0))] 6 [0,2,4,6,17,18])
 (.block 0
 (.loop
 (.seq (.region [rq 0 19 (.bin .lss (.tm 18) (.tm 17))] 1 [0,2,4,6,17,18,19])
 (.seq (.cond (.tm 19)
 .skip
 (.exit 0))
 (.seq (.block 1
 (.seq (.region [RM 0 20 18,
 RM 1 7 20] 2 [0,2,4,6,7,17,18])
 (.seq (.region [RM 0 21 0,
 RK 1 22 21,
 RF 2 23 3 22,
 RL 3 24 23,
 RM 4 25 7,
 rq 5 26 (.idx 3 (.tm 24) (.tm 25)),
 RM 6 8 26] 7 [0,2,4,6,7,8,17,18])
 (.seq (.region [rq 0 9 (.move (ki 1))] 1 [0,2,4,6,7,8,9,17,18])
 (.block 2
 (.loop
 (.seq (.seq (.region [RM 0 27 9,
 rq 1 28 (.bin .leq (.tm 27) (ki 3)),
 RM 2 29 28,
 GQ 3 30 (.move (.tm 8)) 29 true,
 GQ 4 31 (.tF (.tm 30)) 29 true,
 GQ 5 32 (.fld 0 (.tm 31)) 29 true,
 GQ 6 33 (.load 1 false (.tm 32)) 29 true,
 GQ 7 34 (.len false (.tm 33)) 29 true,
 GQ 8 35 (.bin .lss (.tm 34) (ki 2)) 29 true,
 rq 9 36 (.pick (.tm 29) (.tm 35) (.kv (.bool false)))] 10 [0,2,4,6,7,8,9,17,18,36])
 (.cond (.tm 36)
 .skip
 (.exit 2)))
 (.seq (.block 3
 (.seq (.region [RM 0 39 8,
 RK 1 40 39,
 RF 2 41 2 40,
 RL 3 42 41,
 RM 4 43 9,
 rq 5 44 (.bin .add (.tm 42) (.tm 43)),
 rq 6 45 (.bin .rem (.tm 44) (ki 3)),
 RM 7 10 45] 8 [0,2,4,6,7,8,9,10,17,18])
 (.seq (.seq (.region [RM 0 46 10,
 rq 1 47 (.TL 1 3 (.tm 6) (.tm 46)),
 RL 2 48 47,
 RM 3 49 48,
 GQ 4 50 (.move (.tm 0)) 49 false,
 GQ 5 51 (.load 3 true (.tm 4)) 49 false,
 GQ 6 52 (.move (.tm 10)) 49 false,
 GQ 7 53 (.move (.tm 7)) 49 false,
 GQ 8 54 (.call j8 [(.tm 50),(.tm 51),(.tm 52),(.tm 53)]) 49 false,
 GQ 9 55 (.un .not (.tm 54)) 49 false,
 rq 10 56 (.pick (.tm 49) (.kv (.bool true)) (.tm 55))] 11 [0,2,4,6,7,8,9,10,17,18,56])
 (.cond (.tm 56)
 (.exit 3)
 .skip))
 (.seq (.region [RM 0 57 0,
 RK 1 58 57,
 RF 2 59 2 58,
 RL 3 60 59,
 RM 4 61 10,
 rq 5 62 (.idx 4 (.tm 60) (.tm 61)),
 RM 6 11 62] 7 [0,2,4,6,7,8,10,11,17,18])
 (.seq (.region [RM 0 63 11,
 RK 1 64 63,
 RF 2 65 1 64,
 RL 3 66 65,
 rq 4 67 (.idx 1 (.tm 66) (ki 0)),
 RL 5 68 67,
 RM 6 12 68] 7 [0,2,4,6,7,8,10,11,12,17,18])
 (.seq (.region [RM 0 69 11,
 RM 1 70 11,
 RK 2 71 70,
 RF 3 72 1 71,
 RL 4 73 72,
 rq 5 74 (.slc 1 (.tm 73) (some (ki 1)) none none),
 RK 6 75 69,
 RF 7 76 1 75,
 rn 8 (.store 1 false (.tm 76) (.tm 74))] 9 [0,2,4,6,7,8,10,11,12,17,18])
 (.seq (.region [RM 0 77 11,
 RM 1 78 11,
 RK 2 79 78,
 RF 3 80 2 79,
 RL 4 81 80,
 RM 5 82 10,
 RM 6 83 12,
 RM 7 84 7,
 rq 8 85 (.build [VZ,VZ,VZ] [(0,1,(.tm 82)),(1,1,(.tm 83)),(2,1,(.tm 84))]),
 rq 9 86 (.bC 3 1 [VZ,VZ,VZ] [(0,3,(.tm 85))]),
 rq 10 87 (.append 3 (.tm 81) (.tm 86)),
 RK 11 88 77,
 RF 12 89 2 88,
 rn 13 (.store 1 false (.tm 89) (.tm 87))] 14 [0,2,4,6,7,8,10,12,17,18])
 (.seq (.region [RM 0 90 8,
 RM 1 91 8,
 RK 2 92 91,
 RF 3 93 0 92,
 ⟨4,(some 94),.load 1 false (.tm 93),none,[13],[],false⟩,
 RM 5 95 10,
 RM 6 96 12,
 RF 7 97 1 4,
 RL 8 98 97,
 RM 9 99 7,
 rq 10 100 (.idx 1 (.tm 98) (.tm 99)),
 RL 11 101 100,
 rq 12 102 (.build [VZ,VZ,VZ] [(0,1,(.tm 95)),(1,1,(.tm 96)),(2,1,(.tm 101))]),
 rq 13 103 (.bC 3 1 [VZ,VZ,VZ] [(0,3,(.tm 102))]),
 rq 14 104 (.append 3 (.tm 94) (.tm 103)),
 RK 15 105 90,
 RF 16 106 0 105,
 rn 17 (.store 1 false (.tm 106) (.tm 104))] 18 [0,2,4,6,7,8,10,17,18])
 (.seq (.region [RM 0 107 8,
 RM 1 108 10,
 RK 2 109 107,
 RF 3 110 2 109,
 rn 4 (.store 1 false (.tm 110) (.tm 108))] 5 [0,2,4,6,7,10,17,18])
 (.seq (.region [RM 0 111 10,
 rq 1 112 (.TL 1 3 (.tm 6) (.tm 111)),
 rn 2 (.store 1 false (.tm 112) (.kv (.bool true)))] 3 [0,2,4,6,7,17,18])
 (.seq (.region [RM 0 113 2,
 RM 1 114 7,
 RK 2 115 113,
 RF 3 116 1 115,
 rq 4 117 (.TL 1 4 (.tm 116) (.tm 114)),
 rn 5 (.store 1 false (.tm 117) (ki 1))] 6 [0,2,4,6,17,18])
 (.exit 2))))))))))))
 (.region [RM 0 37 9,
 rq 1 38 (.bin .add (.tm 37) (ki 1)),
 RM 2 9 38] 3 [0,2,4,6,7,8,9,17,18])))))))))
 (.region [rq 0 118 (.bin .add (.tm 18) (ki 1)),
 RM 1 18 118] 2 [0,2,4,6,17,18])))))))))
def EV:List Cert:=[⟨[],[0,2,4]⟩,⟨[],[0,2,4,6]⟩,⟨[],[0,2,4,6,17,18]⟩,⟨[],[0,2,4,6,17,18,19]⟩,⟨[],[0,2,4,6,7,17,18]⟩,⟨[],[0,2,4,6,7,8,17,18]⟩,⟨[],[0,2,4,6,7,8,9,17,18]⟩,⟨[],[0,2,4,6,7,8,9,17,18,36]⟩,⟨[],[0,2,4,6,7,8,9,10,17,18]⟩,⟨[],[0,2,4,6,7,8,9,10,17,18,56]⟩,⟨[],[0,2,4,6,7,8,10,11,17,18]⟩,⟨[],[0,2,4,6,7,8,10,11,12,17,18]⟩,⟨[],[0,2,4,6,7,8,10,11,12,17,18]⟩,⟨[],[0,2,4,6,7,8,10,12,17,18]⟩,⟨[cz 0,cz 1,cz 2,cz 3,(4,[13],[],false),cz 5,cz 6,cz 7,cz 8,cz 9,cz 10,cz 11,cz 12,cz 13,cz 14,cz 15,cz 16,cz 17],[0,2,4,6,7,8,10,17,18]⟩,⟨[],[0,2,4,6,7,10,17,18]⟩,⟨[],[0,2,4,6,7,17,18]⟩,⟨[],[0,2,4,6,17,18]⟩,⟨[],[0,2,4,6,7,8,9,17,18]⟩,⟨[],[0,2,4,6,17,18]⟩]
def uR:List aW:=[]
theorem FB:aO Tryz.prog Tryz.f139 EV=some (mL,uR):=by kernel_rfl
def mI:AC:=
 (.seq (.region [rq 0 5 (.box true (.tm 1)),
 rq 1 6 (.box true (.tm 2))] 2 [0,3,5,6])
 (.seq (.region [RM 0 10 0,
 RK 1 11 10,
 RF 2 12 2 11,
 RL 3 13 12,
 rq 4 14 (.len false (.tm 13)),
 rq 5 15 (.move (ki 0))] 6 [0,3,5,6,14,15])
 (.block 0
 (.loop
 (.seq (.region [rq 0 16 (.bin .lss (.tm 15) (.tm 14))] 1 [0,3,5,6,14,15,16])
 (.seq (.cond (.tm 16)
 .skip
 (.exit 0))
 (.seq (.block 1
 (.seq (.region [RM 0 17 15,
 RM 1 8 17] 2 [0,3,5,6,8,14,15])
 (.seq (.region [RM 0 18 0,
 RK 1 19 18,
 RF 2 20 2 19,
 RL 3 21 20,
 RM 4 22 8,
 rq 5 23 (.idx 4 (.tm 21) (.tm 22)),
 RM 6 9 23] 7 [0,3,5,6,8,9,14,15])
 (.seq (.region [RF 0 24 2 6,
 RL 1 25 24,
 RM 2 26 8,
 rq 3 27 (.idx 1 (.tm 25) (.tm 26)),
 RL 4 28 27,
 RM 5 29 28,
 GQ 6 30 (.move (.tm 9)) 29 true,
 GQ 7 31 (.tF (.tm 30)) 29 true,
 GQ 8 32 (.fld 1 (.tm 31)) 29 true,
 GQ 9 33 (.load 1 false (.tm 32)) 29 true,
 GQ 10 34 (.len false (.tm 33)) 29 true,
 GQ 11 35 (.bin .lss (.tm 34) (ki 2)) 29 true,
 rq 12 36 (.pick (.tm 29) (.tm 35) (.kv (.bool false))),
 RM 13 37 36,
 GQ 14 38 (.move (.tm 9)) 37 true,
 GQ 15 39 (.tF (.tm 38)) 37 true,
 GQ 16 40 (.fld 0 (.tm 39)) 37 true,
 GQ 17 41 (.load 1 false (.tm 40)) 37 true,
 GQ 18 42 (.fld 2 (.tm 5)) 37 true,
 GQ 19 43 (.load 1 false (.tm 42)) 37 true,
 GQ 20 44 (.move (.tm 8)) 37 true,
 GQ 21 45 (.idx 1 (.tm 43) (.tm 44)) 37 true,
 GQ 22 46 (.load 1 false (.tm 45)) 37 true,
 GQ 23 47 (.len false (.tm 46)) 37 true,
 GQ 24 48 (.bin .lss (.tm 41) (.tm 47)) 37 true,
 rq 25 49 (.pick (.tm 37) (.tm 48) (.kv (.bool false)))] 26 [0,3,5,6,8,9,14,15,49])
 (.cond (.tm 49)
 (.seq (.region [RM 0 50 9,
 RM 1 51 9,
 RK 2 52 51,
 RF 3 53 1 52,
 ⟨4,(some 54),.load 1 false (.tm 53),none,[9],[],false⟩,
 RM 5 55 9,
 RK 6 56 55,
 RF 7 57 0 56,
 RL 8 58 57,
 rq 9 59 (.bC 1 1 [VZ] [(0,1,(.tm 58))]),
 rq 10 60 (.append 1 (.tm 54) (.tm 59)),
 RK 11 61 50,
 RF 12 62 1 61,
 rn 13 (.store 1 false (.tm 62) (.tm 60))] 14 [0,3,5,6,8,9,14,15])
 (.seq (.region [RM 0 63 3,
 RM 1 64 8,
 RM 2 65 9,
 RK 3 66 65,
 RF 4 67 0 66,
 RL 5 68 67,
 rq 6 69 (.call eC [(.tm 63),(ki 1),(.tm 64),(.tm 68)])] 7 [0,3,5,6,9,14,15])
 (.region [RM 0 70 9,
 RK 1 71 70,
 RF 2 72 0 71,
 RL 3 73 72,
 rq 4 74 (.bin .add (.tm 73) (ki 1)),
 RK 5 75 70,
 RF 6 76 0 75,
 rn 7 (.store 1 false (.tm 76) (.tm 74))] 8 [0,3,5,6,14,15])))
 .skip)))))
 (.region [rq 0 77 (.bin .add (.tm 15) (ki 1)),
 RM 1 15 77] 2 [0,3,5,6,14,15]))))))))
def GU:List Cert:=[⟨[],[0,3,5,6]⟩,⟨[],[0,3,5,6,14,15]⟩,⟨[],[0,3,5,6,14,15,16]⟩,⟨[],[0,3,5,6,8,14,15]⟩,⟨[],[0,3,5,6,8,9,14,15]⟩,⟨[cz 0,cz 1,cz 2,cz 3,cz 4,cz 5,cz 6,cz 7,cz 8,cz 9,cz 10,cz 11,cz 12,cz 13,cz 14,cz 15,cz 16,cz 17,cz 18,cz 19,cz 20,cz 21,cz 22,cz 23,cz 24,cz 25],[0,3,5,6,8,9,14,15,49]⟩,⟨[cz 0,cz 1,cz 2,cz 3,(4,[9],[],false),cz 5,cz 6,cz 7,cz 8,cz 9,cz 10,cz 11,cz 12,cz 13],[0,3,5,6,8,9,14,15]⟩,⟨[],[0,3,5,6,9,14,15]⟩,⟨[],[0,3,5,6,14,15]⟩,⟨[],[0,3,5,6,14,15]⟩]
def uE:List aW:=[]
theorem FG:aO Tryz.prog Tryz.f140 GU=some (mI,uE):=by kernel_rfl
def eU:AC:=
 (.seq (.region [rq 0 4 (.move (ki 0))] 1 [0,1])
 (.seq (.seq (.region [RM 0 6 0,
 rq 1 7 (.len false (.tm 6)),
 rq 2 8 (.move (ki 0))] 3 [0,1,7,8])
 (.block 0
 (.loop
 (.seq (.region [rq 0 9 (.bin .lss (.tm 8) (.tm 7))] 1 [0,1,7,8,9])
 (.seq (.cond (.tm 9)
 .skip
 (.exit 0))
 (.seq (.block 1
 (.seq (.region [RM 0 10 8,
 RM 1 5 10] 2 [0,1,5,7,8])
 (.seq (.region [RM 0 11 1,
 RM 1 12 0,
 RM 2 13 5,
 rq 3 14 (.idx 3 (.tm 12) (.tm 13)),
 rq 4 15 (.load 3 true (.tm 14)),
 rq 5 16 (.t5 (.tm 11) [(.tm 15)])] 6 [0,1,5,7,8,16])
 (.cond (.tm 16)
 (.seq (.region [RM 0 17 5,
 RM 1 4 17] 2 [4])
 .ret)
 .skip))))
 (.region [rq 0 18 (.bin .add (.tm 8) (ki 1)),
 RM 1 8 18] 2 [0,1,7,8])))))))
 (.seq (.region [rq 0 4 (.move (.kv (.int .i64 (-1))))] 1 [4])
 .ret)))
def pN:List Cert:=[⟨[],[0,1]⟩,⟨[],[0,1,7,8]⟩,⟨[],[0,1,7,8,9]⟩,⟨[],[0,1,5,7,8]⟩,⟨[],[0,1,5,7,8,16]⟩,⟨[],[4]⟩,⟨[],[0,1,7,8]⟩,⟨[],[4]⟩]
def iO:List aW:=[.tm 4]
theorem pK:aO Tryz.prog Tryz.f199 pN=some (eU,iO):=by kernel_rfl
theorem pH:aN Tryz.prog bZ Tryz.f199 eU iO:=
 aN.mk Tryz.func199 (by kernel_rfl) pK
def vD:AC:=
 (.seq (.region [rq 0 2 (.box true (.tm 0)),
 rq 1 3 (.move (.kv (.bool false)))] 2 [1,2])
 (.seq (.region [RF 0 4 1 2,
 RL 1 5 4,
 RL 2 6 1,
 rq 3 7 (.bin .eql (.tm 5) (.tm 6)),
 RM 4 3 7] 5 [3])
 .ret))
def OH:List Cert:=[⟨[],[1,2]⟩,⟨[],[3]⟩]
def DM:List aW:=[.tm 3]
theorem N9:aO Tryz.prog Tryz.f200 OH=some (vD,DM):=by kernel_rfl
theorem OM:aN Tryz.prog rQ Tryz.f200 vD DM:=
 aN.mk Tryz.func200 (by kernel_rfl) N9
def fW:AC:=
 (.seq (.region [rq 0 6 (.move (.kv (.slice none 0 0)))] 1 [0,1,2])
 (.seq (.region [RM 0 8 0,
 RM 1 9 1,
 RM 2 10 2,
 RM 3 11 0,
 rq 4 12 (.len false (.tm 11)),
 rq 5 13 (.slc 3 (.tm 8) (some (.tm 9)) (some (.tm 10)) (some (.tm 12)))] 6 [0,1,2])
 (.seq (.seq (.region [RM 0 14 1,
 RM 1 15 2,
 rq 2 16 (.bin .eql (.tm 14) (.tm 15))] 3 [0,1,2,16])
 (.cond (.tm 16)
 (.seq (.region [RM 0 17 0,
 RM 1 6 17] 2 [6])
 .ret)
 .skip))
 (.seq (.region [RM 0 18 0,
 rq 1 19 (.len false (.tm 18)),
 RM 2 7 19] 3 [0,1,2,7])
 (.seq (.region [RM 0 20 0,
 RM 1 21 1,
 rq 2 22 (.slc 3 (.tm 20) none (some (.tm 21)) none),
 RM 3 23 0,
 RM 4 24 2,
 rq 5 25 (.slc 3 (.tm 23) (some (.tm 24)) none none),
 rq 6 26 (.append 3 (.tm 22) (.tm 25)),
 RM 7 0 26] 8 [0,7])
 (.seq (.region [RM 0 27 0,
 RM 1 28 0,
 rq 2 29 (.len false (.tm 28)),
 RM 3 30 7,
 rq 4 31 (.slc 3 (.tm 27) (some (.tm 29)) (some (.tm 30)) none),
 rn 5 (.xop (.clear 3 [VZ,VZ,VZ]) [(.tm 31)])] 6 [0])
 (.seq (.region [RM 0 32 0,
 RM 1 6 32] 2 [6])
 .ret)))))))
def r6:List Cert:=[⟨[],[0,1,2]⟩,⟨[],[0,1,2]⟩,⟨[],[0,1,2,16]⟩,⟨[],[6]⟩,⟨[],[0,1,2,7]⟩,⟨[cz 0,cz 1,cz 2,cz 3,cz 4,cz 5,cz 6,cz 7],[0,7]⟩,⟨[],[0]⟩,⟨[],[6]⟩]
def jV:List aW:=[.tm 6]
theorem sA:aO Tryz.prog Tryz.f201 r6=some (fW,jV):=by kernel_rfl
theorem rZ:aN Tryz.prog eA Tryz.f201 fW jV:=
 aN.mk Tryz.func201 (by kernel_rfl) sA
def mR:AC:=
 (.region [RM 0 8 0,
 RM 1 9 0,
 RK 2 10 9,
 RF 3 11 0 10,
 RL 4 12 11,
 RM 5 13 1,
 RM 6 14 2,
 RM 7 15 3,
 rq 8 16 (.build [VZ,VZ,VZ] [(0,1,(.tm 13)),(1,1,(.tm 14)),(2,1,(.tm 15))]),
 rq 9 17 (.bC 3 1 [VZ,VZ,VZ] [(0,3,(.tm 16))]),
 rq 10 18 (.append 3 (.tm 12) (.tm 17)),
 RK 11 19 8,
 RF 12 20 0 19,
 rn 13 (.store 1 false (.tm 20) (.tm 18))] 14 [])
def EZ:List Cert:=[⟨[],[]⟩]
def uC:List aW:=[]
theorem FN:aO Tryz.prog Tryz.f202 EZ=some (mR,uC):=by kernel_rfl
def mN:AC:=
 (.seq (.region [rq 0 5 (.box true (.tm 1)),
 rq 1 6 (.box false (.tm 2)),
 rq 2 7 (.box false (.tm 3)),
 rq 3 8 (.move (.kv (.bool false)))] 4 [0,5,6,7])
 (.seq (.region [RM 0 11 0,
 RK 1 12 11,
 RF 2 13 2 12,
 ⟨3,(some 14),.load 1 false (.tm 13),none,[7],[],false⟩,
 ⟨4,(some 15),.load 1 false (.tm 6),none,[7],[],false⟩,
 rq 5 16 (.idx 4 (.tm 14) (.tm 15)),
 ⟨6,(some 17),.load 4 true (.tm 16),none,[7],[],false⟩,
 rq 7 9 (.alloc [VZ,OZ,OZ,VZ]),
 rn 8 (.store 4 true (.tm 9) (.tm 17))] 9 [5,6,7,9])
 (.seq (.seq (.region [RF 0 18 1 9,
 RL 1 19 18,
 rq 2 20 (.len false (.tm 19)),
 rq 3 21 (.bin .eql (.tm 20) (ki 0)),
 RM 4 22 21,
 GQ 5 23 (.fld 2 (.tm 9)) 22 false,
 GQ 6 24 (.load 1 false (.tm 23)) 22 false,
 GQ 7 25 (.len false (.tm 24)) 22 false,
 GQ 8 26 (.bin .geq (.tm 25) (ki 4)) 22 false,
 rq 9 27 (.pick (.tm 22) (.kv (.bool true)) (.tm 26)),
 RM 10 28 27,
 GQ 11 29 (.fld 0 (.tm 5)) 28 false,
 GQ 12 30 (.load 1 false (.tm 29)) 28 false,
 GQ 13 31 (.fld 2 (.tm 5)) 28 false,
 GQ 14 32 (.load 1 false (.tm 31)) 28 false,
 GQ 15 33 (.load 1 false (.tm 6)) 28 false,
 GQ 16 34 (.idx 1 (.tm 32) (.tm 33)) 28 false,
 GQ 17 35 (.load 1 false (.tm 34)) 28 false,
 GQ 18 36 (.fld 1 (.tm 9)) 28 false,
 GQ 19 37 (.load 1 false (.tm 36)) 28 false,
 GQ 20 38 (.idx 1 (.tm 37) (ki 0)) 28 false,
 GQ 21 39 (.load 1 false (.tm 38)) 28 false,
 GQ 22 40 (.idx 7 (.tm 35) (.tm 39)) 28 false,
 GQ 23 41 (.load 7 true (.tm 40)) 28 false,
 ⟨25,(some 43),.load 1 false (.tm 7),(some (28,false)),[],[],true⟩,
 ⟨24,(some 42),.call rN [(.tm 30),(.tm 41)],(some (28,false)),[],[25],false⟩,
 GQ 26 44 (.bin .neq (.tm 42) (.tm 43)) 28 false,
 rq 27 45 (.pick (.tm 28) (.kv (.bool true)) (.tm 44))] 28 [5,6,7,9,45])
 (.cond (.tm 45)
 (.seq (.region [rq 0 8 (.move (.kv (.bool false)))] 1 [8])
 .ret)
 .skip))
 (.seq (.region [⟨0,(some 46),.load 3 true (.tm 5),none,[7],[],false⟩,
 ⟨1,(some 47),.load 1 false (.tm 6),none,[7],[],false⟩,
 RF 2 48 1 9,
 ⟨3,(some 49),.load 1 false (.tm 48),none,[7],[],false⟩,
 rq 4 50 (.idx 1 (.tm 49) (ki 0)),
 ⟨5,(some 51),.load 1 false (.tm 50),none,[7],[],false⟩,
 rq 7 10 (.alloc [VZ]),
 ⟨6,(some 52),.call fB [(.tm 46),(.tm 47),(.tm 51)],none,[7],[],false⟩,
 rn 8 (.store 1 false (.tm 10) (.tm 52))] 9 [5,6,7,9,10])
 (.seq (.region [RF 0 53 2 9,
 RL 1 54 53,
 rq 2 55 (.xop (.zI iW) [(.tm 5),(.tm 6),(.tm 10),(.tm 7)]),
 rq 3 56 (.call cM [(.tm 54),(.tm 55)]),
 rq 4 57 (.un .not (.tm 56)),
 RM 5 8 57] 6 [8])
 .ret)))))
def E1:List Cert:=[⟨[],[0,5,6,7]⟩,⟨[cz 0,cz 1,cz 2,(3,[7],[],false),(4,[7],[],false),cz 5,(6,[7],[],false),cz 7,cz 8],[5,6,7,9]⟩,⟨[cz 0,cz 1,cz 2,cz 3,cz 4,cz 5,cz 6,cz 7,cz 8,cz 9,cz 10,cz 11,cz 12,cz 13,cz 14,cz 15,cz 16,cz 17,cz 18,cz 19,cz 20,cz 21,cz 22,cz 23,(25,[],[],true),(24,[],[25],false),cz 26,cz 27],[5,6,7,9,45]⟩,⟨[],[8]⟩,⟨[(0,[7],[],false),(1,[7],[],false),cz 2,(3,[7],[],false),cz 4,(5,[7],[],false),cz 7,(6,[7],[],false),cz 8],[5,6,7,9,10]⟩,⟨[],[8]⟩]
def uD:List aW:=[.tm 8]
theorem FP:aO Tryz.prog Tryz.f203 E1=some (mN,uD):=by kernel_rfl
theorem FT:aN Tryz.prog j8 Tryz.f203 mN uD:=
 aN.mk Tryz.func203 (by kernel_rfl) FP
def dY:AC:=
 (.seq (.region [rq 0 4 (.move (.kv (.bool false)))] 1 [0,1])
 (.seq (.region [RM 0 5 0,
 RM 1 6 1,
 rq 2 7 (.call bZ [(.tm 5),(.tm 6)]),
 rq 3 8 (.bin .geq (.tm 7) (ki 0)),
 RM 4 4 8] 5 [4])
 .ret))
def nF:List Cert:=[⟨[],[0,1]⟩,⟨[],[4]⟩]
def gV:List aW:=[.tm 4]
theorem nB:aO Tryz.prog Tryz.f232 nF=some (dY,gV):=by kernel_rfl
theorem nD:aN Tryz.prog cM Tryz.f232 dY gV:=
 aN.mk Tryz.func232 (by kernel_rfl) nB
def kX:AC:=
 (.seq (.region [rq 0 5 (.box true (.tm 0)),
 rq 1 6 (.move (.kv (.bool false)))] 2 [1,2,3,4,5])
 (.seq (.region [rq 0 7 (.load 3 true (.tm 1)),
 RL 1 8 2,
 RF 2 9 1 5,
 RL 3 10 9,
 ⟨5,(some 12),.load 1 false (.tm 3),none,[],[],true⟩,
 ⟨4,(some 11),.call fB [(.tm 7),(.tm 8),(.tm 10)],none,[],[5],false⟩,
 rq 6 13 (.bin .eql (.tm 11) (.tm 12)),
 RM 7 14 13,
 GQ 8 15 (.fld 2 (.tm 5)) 14 true,
 GQ 9 16 (.load 1 false (.tm 15)) 14 true,
 GQ 10 17 (.load 1 false (.tm 4)) 14 true,
 GQ 11 18 (.bin .neq (.tm 16) (.tm 17)) 14 true,
 rq 12 19 (.pick (.tm 14) (.tm 18) (.kv (.bool false))),
 RM 13 6 19] 14 [6])
 .ret))
def DD:List Cert:=[⟨[],[1,2,3,4,5]⟩,⟨[cz 0,cz 1,cz 2,cz 3,(5,[],[],true),(4,[],[5],false),cz 6,cz 7,cz 8,cz 9,cz 10,cz 11,cz 12,cz 13],[6]⟩]
def qT:List aW:=[.tm 6]
theorem CK:aO Tryz.prog Tryz.f233 DD=some (kX,qT):=by kernel_rfl
theorem CY:aN Tryz.prog iW Tryz.f233 kX qT:=
 aN.mk Tryz.func233 (by kernel_rfl) CK
end Go.Proofs.YtegiblhkjfiooaaGreat
end
