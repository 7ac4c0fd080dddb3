/- Texts laid together by a program: rules, contracts and the walk that leads to the law. -/
import Derived.Test.YtegiblhkjfiooaaGreatPu3
set_option linter.unusedVariables false
set_option linter.unusedSimpArgs false
set_option linter.unusedSectionVars false
namespace Go.Proofs.YtegiblhkjfiooaaGreat
open Go Go.AM
set_option maxRecDepth 100000
def aJR:AC:=
 (.seq (.region [rq 0 6 (.move (ki 0))] 1 [0,1,2])
 (.seq (.seq (.region [rq 0 7 (.move (ki 0))] 1 [0,1,2,7])
 (.block 0
 (.loop
 (.seq (.seq (.region [RM 0 8 7,
 RM 1 9 0,
 rq 2 10 (.len false (.tm 9)),
 rq 3 11 (.bin .lss (.tm 8) (.tm 10))] 4 [0,1,2,7,11])
 (.cond (.tm 11)
 .skip
 (.exit 0)))
 (.seq (.block 1
 (.seq (.region [RM 0 14 0,
 RM 1 15 7,
 rq 2 16 (.idx 5 (.tm 14) (.tm 15)),
 RF 3 17 0 16,
 RL 4 18 17,
 RM 5 19 1,
 rq 6 20 (.bin .eql (.tm 18) (.tm 19)),
 RM 7 21 20,
 GQ 8 22 (.move (.tm 0)) 21 true,
 GQ 9 23 (.move (.tm 7)) 21 true,
 GQ 10 24 (.idx 5 (.tm 22) (.tm 23)) 21 true,
 GQ 11 25 (.fld 1 (.tm 24)) 21 true,
 GQ 12 26 (.load 1 false (.tm 25)) 21 true,
 GQ 13 27 (.move (.tm 2)) 21 true,
 GQ 14 28 (.bin .eql (.tm 26) (.tm 27)) 21 true,
 rq 15 29 (.pick (.tm 21) (.tm 28) (.kv (.bool false)))] 16 [0,1,2,7,29])
 (.cond (.tm 29)
 (.seq (.region [RM 0 30 7,
 RM 1 6 30] 2 [6])
 .ret)
 .skip)))
 (.region [RM 0 12 7,
 rq 1 13 (.bin .add (.tm 12) (ki 1)),
 RM 2 7 13] 3 [0,1,2,7]))))))
 (.seq (.region [rq 0 6 (.move (.kv (.int .i64 (-1))))] 1 [6])
 .ret)))
def aMU:List Cert:=[⟨[],[0,1,2]⟩,⟨[],[0,1,2,7]⟩,⟨[],[0,1,2,7,11]⟩,⟨[],[0,1,2,7,29]⟩,⟨[],[6]⟩,⟨[],[0,1,2,7]⟩,⟨[],[6]⟩]
def aKI:List aW:=[.tm 6]
theorem aMV:aO Tryz.prog Tryz.f93 aMU=some (aJR,aKI):=by kernel_rfl
theorem aM1:aN Tryz.prog aIN Tryz.f93 aJR aKI:=
 aN.mk Tryz.func93 (by kernel_rfl) aMV
def aNK:AC:=
 (.seq (.region [rq 0 4 (.box true (.tm 0)),
 rq 1 8 (.move (.kv (.bool false)))] 2 [1,2,3,4])
 (.seq (.seq (.region [rq 0 9 (.move (ki 0))] 1 [1,2,3,4,9])
 (.block 0
 (.loop
 (.seq (.seq (.region [RM 0 11 9,
 RM 1 12 1,
 rq 2 13 (.len false (.tm 12)),
 rq 3 14 (.bin .lss (.tm 11) (.tm 13))] 4 [1,2,3,4,9,14])
 (.cond (.tm 14)
 .skip
 (.exit 0)))
 (.seq (.block 1
 (.seq (.region [RM 0 17 1,
 RM 1 18 9,
 rq 2 19 (.idx 5 (.tm 17) (.tm 18)),
 rq 3 20 (.load 5 true (.tm 19)),
 rq 4 10 (.alloc [VZ,VZ,VZ,VZ,OZ]),
 rn 5 (.store 5 true (.tm 10) (.tm 20))] 6 [1,2,3,4,9,10])
 (.seq (.region [RF 0 21 0 10,
 RL 1 22 21,
 RM 2 23 2,
 rq 3 24 (.bin .eql (.tm 22) (.tm 23)),
 RM 4 25 24,
 GQ 5 26 (.fld 1 (.tm 10)) 25 true,
 GQ 6 27 (.load 1 false (.tm 26)) 25 true,
 GQ 7 28 (.move (.tm 3)) 25 true,
 GQ 8 29 (.bin .lss (.tm 27) (.tm 28)) 25 true,
 rq 9 30 (.pick (.tm 25) (.tm 29) (.kv (.bool false))),
 RM 10 31 30,
 GQ 11 32 (.fld 2 (.tm 4)) 31 true,
 GQ 12 33 (.load 1 false (.tm 32)) 31 true,
 GQ 13 34 (.move (.tm 2)) 31 true,
 GQ 14 35 (.idx 1 (.tm 33) (.tm 34)) 31 true,
 GQ 15 36 (.load 1 false (.tm 35)) 31 true,
 GQ 16 37 (.fld 1 (.tm 10)) 31 true,
 GQ 17 38 (.load 1 false (.tm 37)) 31 true,
 GQ 18 39 (.idx 7 (.tm 36) (.tm 38)) 31 true,
 GQ 19 40 (.fld 0 (.tm 39)) 31 true,
 GQ 20 41 (.load 1 false (.tm 40)) 31 true,
 GQ 21 42 (.fld 2 (.tm 4)) 31 true,
 GQ 22 43 (.load 1 false (.tm 42)) 31 true,
 GQ 23 44 (.move (.tm 2)) 31 true,
 GQ 24 45 (.idx 1 (.tm 43) (.tm 44)) 31 true,
 GQ 25 46 (.load 1 false (.tm 45)) 31 true,
 GQ 26 47 (.move (.tm 3)) 31 true,
 GQ 27 48 (.idx 7 (.tm 46) (.tm 47)) 31 true,
 GQ 28 49 (.fld 0 (.tm 48)) 31 true,
 GQ 29 50 (.load 1 false (.tm 49)) 31 true,
 GQ 30 51 (.bin .eql (.tm 41) (.tm 50)) 31 true,
 rq 31 52 (.pick (.tm 31) (.tm 51) (.kv (.bool false)))] 32 [1,2,3,4,9,52])
 (.cond (.tm 52)
 (.seq (.region [rq 0 8 (.move (.kv (.bool false)))] 1 [8])
 .ret)
 .skip))))
 (.region [RM 0 15 9,
 rq 1 16 (.bin .add (.tm 15) (ki 1)),
 RM 2 9 16] 3 [1,2,3,4,9]))))))
 (.seq (.region [rq 0 8 (.move (.kv (.bool true)))] 1 [8])
 .ret)))
def aQB:List Cert:=[⟨[],[1,2,3,4]⟩,⟨[],[1,2,3,4,9]⟩,⟨[],[1,2,3,4,9,14]⟩,⟨[],[1,2,3,4,9,10]⟩,⟨[cz 0,cz 1,cz 2,cz 3,cz 4,cz 5,cz 6,cz 7,cz 8,cz 9,cz 10,cz 11,cz 12,cz 13,cz 14,cz 15,cz 16,cz 17,cz 18,cz 19,cz 20,cz 21,cz 22,cz 23,cz 24,cz 25,cz 26,cz 27,cz 28,cz 29,cz 30,cz 31],[1,2,3,4,9,52]⟩,⟨[],[8]⟩,⟨[],[1,2,3,4,9]⟩,⟨[],[8]⟩]
def aOG:List aW:=[.tm 8]
theorem aP7:aO Tryz.prog Tryz.f94 aQB=some (aNK,aOG):=by kernel_rfl
theorem aP9:aN Tryz.prog b8 Tryz.f94 aNK aOG:=
 aN.mk Tryz.func94 (by kernel_rfl) aP7
def aNR:AC:=
 (.seq (.region [rq 0 4 (.alloc [OZ,OZ,OZ]),
 rq 1 5 (.alloc [OZ,OZ,OZ,OZ,OZ,OZ]),
 rq 2 6 (.move (.kv (.slice none 0 0)))] 3 [0,1,4,5])
 (.seq (.region [RM 0 14 0,
 rq 1 15 (.call lJ [(.tm 14),(ki 6)]),
 rq 2 7 (.alloc [OZ,OZ,OZ]),
 rn 3 (.store 3 true (.tm 7) (.tm 15))] 4 [0,1,4,5,7])
 (.seq (.region [rq 0 16 (.call c7 []),
 rq 1 8 (.alloc [OZ,OZ,OZ,OZ,OZ,OZ]),
 rn 2 (.store 6 true (.tm 8) (.tm 16))] 3 [0,1,4,5,7,8])
 (.seq (.region [rq 0 17 (.bC 3 0 [VZ,VZ,VZ] []),
 RM 1 9 17] 2 [0,1,4,5,7,8,9])
 (.seq (.seq (.region [RM 0 18 0,
 RM 1 19 1,
 rq 2 20 (.call aD [(.tm 18),(.tm 19)]),
 RM 3 10 20] 4 [0,4,5,7,8,9,10])
 (.block 0
 (.loop
 (.seq (.seq (.region [RM 0 21 10,
 rq 1 22 (.bin .gtr (.tm 21) (ki 0))] 2 [0,4,5,7,8,9,10,22])
 (.cond (.tm 22)
 .skip
 (.exit 0)))
 (.seq (.block 1
 (.seq (.region [RM 0 25 0,
 rq 1 26 (.load 3 true (.tm 7)),
 rq 2 27 (.load 6 true (.tm 8)),
 rq 3 28 (.call b7 [(.tm 25),(.tm 26),(.tm 27)]),
 rq 4 11 (.alloc [VZ,VZ,VZ]),
 rn 5 (.store 3 true (.tm 11) (.tm 28))] 6 [0,4,5,7,8,9,10,11])
 (.seq (.region [rq 0 30 (.load 3 true (.tm 7)),
 rq 1 31 (.load 6 true (.tm 8)),
 rq 2 32 (.load 3 true (.tm 11)),
 rq 3 33 (.call v5 [(.tm 30),(.tm 31),(.tm 32)]),
 RM 4 29 33,
 rq 5 34 (.ext (.tm 29) 0),
 rq 6 35 (.ext (.tm 29) 1),
 rq 7 12 (.alloc [OZ,OZ,OZ,OZ,OZ,OZ]),
 rn 8 (.store 6 true (.tm 12) (.tm 34)),
 RM 9 13 35] 10 [0,4,5,7,8,9,10,11,12,13])
 (.seq (.region [RM 0 36 13] 1 [0,4,5,7,8,9,10,11,12,36])
 (.cond (.tm 36)
 (.seq (.region [RM 0 37 9,
 rq 1 38 (.load 3 true (.tm 11)),
 rq 2 39 (.bC 3 1 [VZ,VZ,VZ] [(0,3,(.tm 38))]),
 rq 3 40 (.append 3 (.tm 37) (.tm 39)),
 RM 4 9 40] 5 [0,4,5,7,8,9,10,12])
 (.region [rq 0 41 (.load 6 true (.tm 12)),
 rn 1 (.store 6 true (.tm 8) (.tm 41))] 2 [0,4,5,7,8,9,10]))
 .skip)))))
 (.region [RM 0 23 10,
 rq 1 24 (.bin .sub (.tm 23) (ki 1)),
 RM 2 10 24] 3 [0,4,5,7,8,9,10]))))))
 (.seq (.region [⟨0,(some 42),.load 3 true (.tm 7),none,[],[],true⟩,
 rq 1 43 (.load 6 true (.tm 8)),
 RM 3 45 9,
 ⟨2,(some 44),.call aI0 [(.tm 43)],none,[],[0],false⟩,
 rn 4 (.store 3 true (.tm 4) (.tm 42)),
 rn 5 (.store 6 true (.tm 5) (.tm 44)),
 RM 6 6 45] 7 [4,5,6])
 .ret))))))
def aQY:List Cert:=[⟨[],[0,1,4,5]⟩,⟨[],[0,1,4,5,7]⟩,⟨[],[0,1,4,5,7,8]⟩,⟨[],[0,1,4,5,7,8,9]⟩,⟨[],[0,4,5,7,8,9,10]⟩,⟨[],[0,4,5,7,8,9,10,22]⟩,⟨[],[0,4,5,7,8,9,10,11]⟩,⟨[],[0,4,5,7,8,9,10,11,12,13]⟩,⟨[],[0,4,5,7,8,9,10,11,12,36]⟩,⟨[],[0,4,5,7,8,9,10,12]⟩,⟨[],[0,4,5,7,8,9,10]⟩,⟨[],[0,4,5,7,8,9,10]⟩,⟨[(0,[],[],true),cz 1,cz 3,(2,[],[0],false),cz 4,cz 5,cz 6],[4,5,6]⟩]
def aOM:List aW:=[.cell 4 3 true,.cell 5 6 true,.tm 6]
theorem aQ9:aO Tryz.prog Tryz.f95 aQY=some (aNR,aOM):=by kernel_rfl
def c8:AC:=
 (.seq (.region [rq 0 4 (.box true (.tm 1)),
 rq 1 5 (.box true (.tm 2)),
 rq 2 6 (.alloc [VZ,VZ,VZ])] 3 [0,5,6])
 (.seq (.region [RM 0 10 0,
 rq 1 11 (.call aD [(.tm 10),(ki 3)]),
 RM 2 7 11] 3 [0,5,6,7])
 (.seq (.seq (.region [RM 0 12 0,
 rq 1 13 (.call aD [(.tm 12),(ki 4)])] 2 [0,5,6,7,13])
 (.block 0
 (.seq (.region [rq 0 15 (.bin .eql (.tm 13) (ki 0)),
 RM 1 14 15] 2 [0,5,6,7,13,14])
 (.cond (.tm 14)
 (.seq (.region [RM 0 16 7,
 RF 1 17 2 5,
 RL 2 18 17,
 RM 3 19 7,
 rq 4 20 (.idx 1 (.tm 18) (.tm 19)),
 RL 5 21 20,
 rq 6 22 (.build [VZ,VZ,VZ] [(0,1,(ki 1)),(1,1,(.tm 16)),(2,1,(.tm 21))]),
 rn 7 (.store 3 true (.tm 6) (.tm 22))] 8 [6])
 .ret)
 (.seq (.region [rq 0 24 (.bin .eql (.tm 13) (ki 1)),
 RM 1 23 24] 2 [0,5,6,13,23])
 (.cond (.tm 23)
 (.seq (.region [RF 0 25 3 5,
 RL 1 26 25,
 rq 2 27 (.len false (.tm 26)),
 rq 3 28 (.bin .gtr (.tm 27) (ki 0))] 4 [0,5,6,28])
 (.cond (.tm 28)
 (.seq (.region [RF 0 29 3 5,
 ⟨1,(some 30),.load 1 false (.tm 29),none,[9],[],true⟩,
 RM 2 31 0,
 RF 3 32 3 5,
 ⟨4,(some 33),.load 1 false (.tm 32),none,[9],[],false⟩,
 rq 5 34 (.len false (.tm 33)),
 rq 9 8 (.alloc [VZ,VZ,VZ,VZ,OZ]),
 ⟨6,(some 35),.call aD [(.tm 31),(.tm 34)],none,[9],[1],false⟩,
 rq 7 36 (.idx 5 (.tm 30) (.tm 35)),
 ⟨8,(some 37),.load 5 true (.tm 36),none,[9],[],false⟩,
 rn 10 (.store 5 true (.tm 8) (.tm 37))] 11 [6,8])
 (.seq (.region [RF 0 38 0 8,
 RL 1 39 38,
 RF 2 40 1 8,
 RL 3 41 40,
 rq 4 42 (.build [VZ,VZ,VZ] [(0,1,(ki 2)),(1,1,(.tm 39)),(2,1,(.tm 41))]),
 rn 5 (.store 3 true (.tm 6) (.tm 42))] 6 [6])
 .ret))
 .skip))
 (.seq (.region [rq 0 44 (.bin .eql (.tm 13) (ki 2)),
 RM 1 43 44] 2 [0,5,6,43])
 (.cond (.tm 43)
 (.seq (.region [RF 0 45 4 5,
 RL 1 46 45,
 rq 2 47 (.len false (.tm 46)),
 rq 3 48 (.bin .gtr (.tm 47) (ki 0))] 4 [0,5,6,48])
 (.cond (.tm 48)
 (.seq (.region [RF 0 49 4 5,
 ⟨1,(some 50),.load 1 false (.tm 49),none,[9],[],true⟩,
 RM 2 51 0,
 RF 3 52 4 5,
 ⟨4,(some 53),.load 1 false (.tm 52),none,[9],[],false⟩,
 rq 5 54 (.len false (.tm 53)),
 rq 9 9 (.alloc [VZ,VZ,VZ,VZ,OZ]),
 ⟨6,(some 55),.call aD [(.tm 51),(.tm 54)],none,[9],[1],false⟩,
 rq 7 56 (.idx 5 (.tm 50) (.tm 55)),
 ⟨8,(some 57),.load 5 true (.tm 56),none,[9],[],false⟩,
 rn 10 (.store 5 true (.tm 9) (.tm 57))] 11 [6,9])
 (.seq (.region [RF 0 58 0 9,
 RL 1 59 58,
 RF 2 60 1 9,
 RL 3 61 60,
 rq 4 62 (.build [VZ,VZ,VZ] [(0,1,(ki 3)),(1,1,(.tm 59)),(2,1,(.tm 61))]),
 rn 5 (.store 3 true (.tm 6) (.tm 62))] 6 [6])
 .ret))
 .skip))
 .skip))))))))
 (.seq (.region [RM 0 63 0,
 rq 1 64 (.call aD [(.tm 63),(ki 5)]),
 RM 2 65 0,
 rq 3 66 (.call aD [(.tm 65),(ki 5)]),
 rq 4 67 (.bin .sub (.tm 66) (ki 1)),
 RM 5 68 0,
 rq 6 69 (.call aD [(.tm 68),(ki 5)]),
 rq 7 70 (.bin .sub (.tm 69) (ki 1)),
 rq 8 71 (.build [VZ,VZ,VZ] [(0,1,(.tm 64)),(1,1,(.tm 67)),(2,1,(.tm 70))]),
 rn 9 (.store 3 true (.tm 6) (.tm 71))] 10 [6])
 .ret))))
def aOW:List Cert:=[⟨[],[0,5,6]⟩,⟨[],[0,5,6,7]⟩,⟨[],[0,5,6,7,13]⟩,⟨[],[0,5,6,7,13,14]⟩,⟨[],[6]⟩,⟨[],[0,5,6,13,23]⟩,⟨[],[0,5,6,28]⟩,⟨[cz 0,(1,[9],[],true),cz 2,cz 3,(4,[9],[],false),cz 5,cz 9,(6,[9],[1],false),cz 7,(8,[9],[],false),cz 10],[6,8]⟩,⟨[],[6]⟩,⟨[],[0,5,6,43]⟩,⟨[],[0,5,6,48]⟩,⟨[cz 0,(1,[9],[],true),cz 2,cz 3,(4,[9],[],false),cz 5,cz 9,(6,[9],[1],false),cz 7,(8,[9],[],false),cz 10],[6,9]⟩,⟨[],[6]⟩,⟨[],[6]⟩]
def aNL:List aW:=[.cell 6 3 true]
theorem aOY:aO Tryz.prog Tryz.f96 aOW=some (c8,aNL):=by kernel_rfl
theorem aNM:aN Tryz.prog b7 Tryz.f96 c8 aNL:=
 aN.mk Tryz.func96 (by kernel_rfl) aOY
def rH:AC:=
 (.seq (.region [rq 0 4 (.move (.kv (.bool false)))] 1 [0,1])
 (.seq (.region [RM 0 5 1,
 rq 1 6 (.bin .lss (.tm 5) (ki 9000)),
 RM 2 7 6,
 GQ 3 8 (.move (.tm 0)) 7 true,
 GQ 4 9 (.move (.tm 1)) 7 true,
 GQ 5 10 (.call aD [(.tm 8),(.tm 9)]) 7 true,
 GQ 6 11 (.move (.tm 1)) 7 true,
 GQ 7 12 (.bin .sub (.tm 11) (ki 1)) 7 true,
 GQ 8 13 (.bin .eql (.tm 10) (.tm 12)) 7 true,
 rq 9 14 (.pick (.tm 7) (.tm 13) (.kv (.bool false))),
 RM 10 4 14] 11 [4])
 .ret))
def LN:List Cert:=[⟨[],[0,1]⟩,⟨[],[4]⟩]
def zF:List aW:=[.tm 4]
theorem KV:aO Tryz.prog Tryz.f97 LN=some (rH,zF):=by kernel_rfl
theorem LF:aN Tryz.prog kE Tryz.f97 rH zF:=
 aN.mk Tryz.func97 (by kernel_rfl) KV
def aNV:AC:=
 (.seq (.region [rq 0 3 (.box true (.tm 0)),
 rq 1 4 (.box true (.tm 1)),
 rq 2 5 (.box true (.tm 2)),
 rq 3 6 (.alloc [OZ,OZ,OZ,OZ,OZ,OZ]),
 rq 4 7 (.move (.kv (.bool false)))] 5 [3,4,5,6])
 (.seq (.seq (.region [RF 0 12 1 5,
 RL 1 13 12,
 rq 2 14 (.call y2 [(.tm 13),(ki 0),(ki 2)]),
 rq 3 15 (.un .not (.tm 14)),
 RM 4 16 15,
 GQ 5 17 (.fld 2 (.tm 5)) 16 false,
 GQ 6 18 (.load 1 false (.tm 17)) 16 false,
 GQ 7 19 (.fld 2 (.tm 3)) 16 false,
 GQ 8 20 (.load 1 false (.tm 19)) 16 false,
 GQ 9 21 (.fld 1 (.tm 5)) 16 false,
 GQ 10 22 (.load 1 false (.tm 21)) 16 false,
 GQ 11 23 (.idx 1 (.tm 20) (.tm 22)) 16 false,
 GQ 12 24 (.load 1 false (.tm 23)) 16 false,
 GQ 13 25 (.len false (.tm 24)) 16 false,
 GQ 14 26 (.bin .sub (.tm 25) (ki 1)) 16 false,
 GQ 15 27 (.call y2 [(.tm 18),(ki 0),(.tm 26)]) 16 false,
 GQ 16 28 (.un .not (.tm 27)) 16 false,
 rq 17 29 (.pick (.tm 16) (.kv (.bool true)) (.tm 28))] 18 [3,4,5,6,29])
 (.cond (.tm 29)
 (.seq (.region [rq 0 30 (.load 6 true (.tm 4)),
 rn 1 (.store 6 true (.tm 6) (.tm 30)),
 rq 2 7 (.move (.kv (.bool false)))] 3 [6,7])
 .ret)
 .skip))
 (.seq (.seq (.region [RF 0 31 0 5,
 RL 1 32 31] 2 [3,4,5,6,32])
 (.block 0
 (.seq (.region [rq 0 34 (.bin .eql (.tm 32) (ki 1)),
 RM 1 33 34] 2 [3,4,5,6,32,33])
 (.cond (.tm 33)
 (.seq (.seq (.region [RF 0 35 2 5,
 RL 1 36 35,
 RF 2 37 2 4,
 RL 3 38 37,
 RF 4 39 1 5,
 RL 5 40 39,
 rq 6 41 (.idx 1 (.tm 38) (.tm 40)),
 RL 7 42 41,
 rq 8 43 (.bin .neq (.tm 36) (.tm 42))] 9 [4,5,6,43])
 (.cond (.tm 43)
 (.seq (.region [rq 0 44 (.load 6 true (.tm 4)),
 rn 1 (.store 6 true (.tm 6) (.tm 44)),
 rq 2 7 (.move (.kv (.bool false)))] 3 [6,7])
 .ret)
 .skip))
 (.seq (.region [RF 0 45 2 4,
 RL 1 46 45,
 RF 2 47 1 5,
 RL 3 48 47,
 RF 4 49 2 5,
 RL 5 50 49,
 rq 6 51 (.bin .add (.tm 50) (ki 1)),
 rq 7 52 (.idx 1 (.tm 46) (.tm 48)),
 rn 8 (.store 1 false (.tm 52) (.tm 51))] 9 [4,5,6])
 (.seq (.region [RF 0 53 3 4,
 RL 1 54 53,
 RF 2 55 1 5,
 RL 3 56 55,
 RF 4 57 2 5,
 RL 5 58 57,
 rq 6 59 (.build [VZ,VZ,VZ,VZ,OZ] [(0,1,(.tm 56)),(1,1,(.tm 58))]),
 rq 7 60 (.call aJS [(.tm 54),(.tm 59)]),
 RF 8 61 3 4,
 rn 9 (.store 1 false (.tm 61) (.tm 60))] 10 [4,6])
 (.seq (.region [rq 0 62 (.load 6 true (.tm 4)),
 rn 1 (.store 6 true (.tm 6) (.tm 62)),
 rq 2 7 (.move (.kv (.bool true)))] 3 [6,7])
 .ret))))
 (.seq (.region [rq 0 64 (.bin .eql (.tm 32) (ki 2)),
 RM 1 63 64] 2 [3,4,5,6,32,63])
 (.cond (.tm 63)
 (.seq (.region [RF 0 65 3 4,
 RL 1 66 65,
 RF 2 67 1 5,
 RL 3 68 67,
 RF 4 69 2 5,
 RL 5 70 69,
 rq 6 71 (.call aIN [(.tm 66),(.tm 68),(.tm 70)]),
 RM 7 8 71] 8 [3,4,5,6,8])
 (.seq (.seq (.region [RM 0 72 8,
 rq 1 73 (.bin .lss (.tm 72) (ki 0)),
 RM 2 74 73,
 GQ 3 75 (.load 3 true (.tm 3)) 74 false,
 GQ 4 76 (.fld 3 (.tm 4)) 74 false,
 GQ 5 77 (.load 1 false (.tm 76)) 74 false,
 GQ 6 78 (.fld 1 (.tm 5)) 74 false,
 GQ 7 79 (.load 1 false (.tm 78)) 74 false,
 GQ 8 80 (.fld 2 (.tm 5)) 74 false,
 GQ 9 81 (.load 1 false (.tm 80)) 74 false,
 GQ 10 82 (.call b8 [(.tm 75),(.tm 77),(.tm 79),(.tm 81)]) 74 false,
 GQ 11 83 (.un .not (.tm 82)) 74 false,
 rq 12 84 (.pick (.tm 74) (.kv (.bool true)) (.tm 83))] 13 [3,4,5,6,8,84])
 (.cond (.tm 84)
 (.seq (.region [rq 0 85 (.load 6 true (.tm 4)),
 rn 1 (.store 6 true (.tm 6) (.tm 85)),
 rq 2 7 (.move (.kv (.bool false)))] 3 [6,7])
 .ret)
 .skip))
 (.seq (.region [RF 0 87 0 3,
 ⟨1,(some 88),.load 1 false (.tm 87),none,[20,21],[],false⟩,
 RF 2 89 0 4,
 ⟨3,(some 90),.load 2 true (.tm 89),none,[20,21],[],false⟩,
 RF 4 91 1 5,
 ⟨5,(some 92),.load 1 false (.tm 91),none,[20,21],[],false⟩,
 RF 6 93 2 3,
 ⟨7,(some 94),.load 1 false (.tm 93),none,[20,21],[],false⟩,
 RF 8 95 1 5,
 ⟨9,(some 96),.load 1 false (.tm 95),none,[20,21],[],false⟩,
 rq 10 97 (.idx 1 (.tm 94) (.tm 96)),
 ⟨11,(some 98),.load 1 false (.tm 97),none,[20,21],[],false⟩,
 RF 12 99 2 5,
 ⟨13,(some 100),.load 1 false (.tm 99),none,[20,21],[],false⟩,
 rq 14 101 (.idx 7 (.tm 98) (.tm 100)),
 ⟨15,(some 102),.load 7 true (.tm 101),none,[20,21],[],false⟩,
 rq 20 9 (.alloc [OZ,OZ]),
 rq 21 10 (.alloc [VZ,VZ,OZ]),
 ⟨16,(some 103),.call aN2 [(.tm 88),(.tm 90),(.tm 92),(.tm 102)],none,[20,21],[],false⟩,
 RM 17 86 103,
 rq 18 104 (.ext (.tm 86) 0),
 rq 19 105 (.ext (.tm 86) 1),
 rn 22 (.store 2 true (.tm 9) (.tm 104)),
 rn 23 (.store 3 true (.tm 10) (.tm 105))] 24 [4,5,6,8,9,10])
 (.seq (.region [rq 0 106 (.load 2 true (.tm 9)),
 RF 1 107 0 4,
 rn 2 (.store 2 true (.tm 107) (.tm 106))] 3 [4,5,6,8,10])
 (.seq (.region [RF 0 108 3 4,
 RL 1 109 108,
 RM 2 110 8,
 rq 3 111 (.call gR [(.tm 109),(.tm 110)]),
 RF 4 112 3 4,
 rn 5 (.store 1 false (.tm 112) (.tm 111))] 6 [4,5,6,10])
 (.seq (.region [RF 0 113 4 4,
 RL 1 114 113,
 RF 2 115 1 5,
 RL 3 116 115,
 RF 4 117 2 5,
 RL 5 118 117,
 rq 6 119 (.load 3 true (.tm 10)),
 rq 7 120 (.build [VZ,VZ,VZ,VZ,OZ] [(0,1,(.tm 116)),(1,1,(.tm 118)),(2,3,(.tm 119))]),
 rq 8 121 (.call aJS [(.tm 114),(.tm 120)]),
 RF 9 122 4 4,
 rn 10 (.store 1 false (.tm 122) (.tm 121))] 11 [4,6])
 (.seq (.region [rq 0 123 (.load 6 true (.tm 4)),
 rn 1 (.store 6 true (.tm 6) (.tm 123)),
 rq 2 7 (.move (.kv (.bool true)))] 3 [6,7])
 .ret)))))))
 (.seq (.region [rq 0 125 (.bin .eql (.tm 32) (ki 3)),
 RM 1 124 125] 2 [3,4,5,6,124])
 (.cond (.tm 124)
 (.seq (.region [RF 0 126 4 4,
 RL 1 127 126,
 RF 2 128 1 5,
 RL 3 129 128,
 RF 4 130 2 5,
 RL 5 131 130,
 rq 6 132 (.call aIN [(.tm 127),(.tm 129),(.tm 131)]),
 RM 7 11 132] 8 [3,4,5,6,11])
 (.seq (.seq (.region [RM 0 133 11,
 rq 1 134 (.bin .lss (.tm 133) (ki 0)),
 RM 2 135 134,
 GQ 3 136 (.load 3 true (.tm 3)) 135 false,
 GQ 4 137 (.fld 3 (.tm 4)) 135 false,
 GQ 5 138 (.load 1 false (.tm 137)) 135 false,
 GQ 6 139 (.fld 1 (.tm 5)) 135 false,
 GQ 7 140 (.load 1 false (.tm 139)) 135 false,
 GQ 8 141 (.fld 2 (.tm 5)) 135 false,
 GQ 9 142 (.load 1 false (.tm 141)) 135 false,
 GQ 10 143 (.call b8 [(.tm 136),(.tm 138),(.tm 140),(.tm 142)]) 135 false,
 GQ 11 144 (.un .not (.tm 143)) 135 false,
 rq 12 145 (.pick (.tm 135) (.kv (.bool true)) (.tm 144)),
 RM 13 146 145,
 GQ 14 147 (.load 3 true (.tm 3)) 146 false,
 GQ 15 148 (.fld 4 (.tm 4)) 146 false,
 GQ 16 149 (.load 1 false (.tm 148)) 146 false,
 GQ 17 150 (.fld 1 (.tm 5)) 146 false,
 GQ 18 151 (.load 1 false (.tm 150)) 146 false,
 GQ 19 152 (.fld 2 (.tm 5)) 146 false,
 GQ 20 153 (.load 1 false (.tm 152)) 146 false,
 GQ 21 154 (.call b8 [(.tm 147),(.tm 149),(.tm 151),(.tm 153)]) 146 false,
 GQ 22 155 (.un .not (.tm 154)) 146 false,
 rq 23 156 (.pick (.tm 146) (.kv (.bool true)) (.tm 155))] 24 [4,6,11,156])
 (.cond (.tm 156)
 (.seq (.region [rq 0 157 (.load 6 true (.tm 4)),
 rn 1 (.store 6 true (.tm 6) (.tm 157)),
 rq 2 7 (.move (.kv (.bool false)))] 3 [6,7])
 .ret)
 .skip))
 (.seq (.region [RF 0 158 5 4,
 ⟨1,(some 159),.load 1 false (.tm 158),none,[7],[],false⟩,
 RF 2 160 4 4,
 RL 3 161 160,
 RM 4 162 11,
 rq 5 163 (.idx 5 (.tm 161) (.tm 162)),
 rq 6 164 (.load 5 true (.tm 163)),
 rq 7 165 (.bC 5 1 [VZ,VZ,VZ,VZ,OZ] [(0,5,(.tm 164))]),
 rq 8 166 (.append 5 (.tm 159) (.tm 165)),
 RF 9 167 5 4,
 rn 10 (.store 1 false (.tm 167) (.tm 166))] 11 [4,6,11])
 (.seq (.region [RF 0 168 4 4,
 RL 1 169 168,
 RM 2 170 11,
 rq 3 171 (.call gR [(.tm 169),(.tm 170)]),
 RF 4 172 4 4,
 rn 5 (.store 1 false (.tm 172) (.tm 171))] 6 [4,6])
 (.seq (.region [rq 0 173 (.load 6 true (.tm 4)),
 rn 1 (.store 6 true (.tm 6) (.tm 173)),
 rq 2 7 (.move (.kv (.bool true)))] 3 [6,7])
 .ret)))))
 .skip))))))))
 (.seq (.region [rq 0 174 (.load 6 true (.tm 4)),
 rn 1 (.store 6 true (.tm 6) (.tm 174)),
 rq 2 7 (.move (.kv (.bool false)))] 3 [6,7])
 .ret))))
def aRL:List Cert:=[⟨[],[3,4,5,6]⟩,⟨[cz 0,cz 1,cz 2,cz 3,cz 4,cz 5,cz 6,cz 7,cz 8,cz 9,cz 10,cz 11,cz 12,cz 13,cz 14,cz 15,cz 16,cz 17],[3,4,5,6,29]⟩,⟨[],[6,7]⟩,⟨[],[3,4,5,6,32]⟩,⟨[],[3,4,5,6,32,33]⟩,⟨[cz 0,cz 1,cz 2,cz 3,cz 4,cz 5,cz 6,cz 7,cz 8],[4,5,6,43]⟩,⟨[],[6,7]⟩,⟨[],[4,5,6]⟩,⟨[],[4,6]⟩,⟨[],[6,7]⟩,⟨[],[3,4,5,6,32,63]⟩,⟨[],[3,4,5,6,8]⟩,⟨[],[3,4,5,6,8,84]⟩,⟨[],[6,7]⟩,⟨[cz 0,(1,[20,21],[],false),cz 2,(3,[20,21],[],false),cz 4,(5,[20,21],[],false),cz 6,(7,[20,21],[],false),cz 8,(9,[20,21],[],false),cz 10,(11,[20,21],[],false),cz 12,(13,[20,21],[],false),cz 14,(15,[20,21],[],false),cz 20,cz 21,(16,[20,21],[],false),cz 17,cz 18,cz 19,cz 22,cz 23],[4,5,6,8,9,10]⟩,⟨[],[4,5,6,8,10]⟩,⟨[],[4,5,6,10]⟩,⟨[],[4,6]⟩,⟨[],[6,7]⟩,⟨[],[3,4,5,6,124]⟩,⟨[],[3,4,5,6,11]⟩,⟨[],[4,6,11,156]⟩,⟨[],[6,7]⟩,⟨[cz 0,(1,[7],[],false),cz 2,cz 3,cz 4,cz 5,cz 6,cz 7,cz 8,cz 9,cz 10],[4,6,11]⟩,⟨[],[4,6]⟩,⟨[],[6,7]⟩,⟨[],[6,7]⟩]
def aOS:List aW:=[.cell 6 6 true,.tm 7]
theorem aRI:aO Tryz.prog Tryz.f99 aRL=some (aNV,aOS):=by kernel_rfl
theorem aQG:aN Tryz.prog v5 Tryz.f99 aNV aOS:=
 aN.mk Tryz.func99 (by kernel_rfl) aRI
def aJB:AC:=
 (.seq (.region [rq 0 1 (.box true (.tm 0)),
 rq 1 2 (.alloc [OZ,OZ,OZ,OZ,OZ,OZ])] 2 [1,2])
 (.seq (.region [RF 0 3 0 1,
 ⟨1,(some 4),.load 2 true (.tm 3),none,[3],[],false⟩,
 rq 3 6 (.bC 1 0 [VZ] []),
 RF 4 7 2 1,
 ⟨5,(some 8),.load 1 false (.tm 7),none,[3],[],true⟩,
 RF 7 10 3 1,
 ⟨8,(some 11),.load 1 false (.tm 10),none,[3],[],true⟩,
 RF 10 13 4 1,
 ⟨11,(some 14),.load 1 false (.tm 13),none,[3],[],true⟩,
 RF 13 16 5 1,
 ⟨14,(some 17),.load 1 false (.tm 16),none,[3],[],true⟩,
 ⟨2,(some 5),.call aIR [(.tm 4)],none,[3],[5,8,11,14],false⟩,
 ⟨6,(some 9),.append 1 (.tm 6) (.tm 8),none,[],[8,11,14],false⟩,
 ⟨9,(some 12),.call aIM [(.tm 11)],none,[],[11,14],false⟩,
 ⟨12,(some 15),.call aIM [(.tm 14)],none,[],[14],false⟩,
 rq 15 18 (.call aIM [(.tm 17)]),
 rq 16 19 (.build [OZ,OZ,OZ,OZ,OZ,OZ] [(0,2,(.tm 5)),(2,1,(.tm 9)),(3,1,(.tm 12)),(4,1,(.tm 15)),(5,1,(.tm 18))]),
 rn 17 (.store 6 true (.tm 2) (.tm 19))] 18 [2])
 .ret))
def aLE:List Cert:=[⟨[],[1,2]⟩,⟨[cz 0,(1,[3],[],false),cz 3,cz 4,(5,[3],[],true),cz 7,(8,[3],[],true),cz 10,(11,[3],[],true),cz 13,(14,[3],[],true),(2,[3],[5,8,11,14],false),(6,[],[8,11,14],false),(9,[],[11,14],false),(12,[],[14],false),cz 15,cz 16,cz 17],[2]⟩]
def aJW:List aW:=[.cell 2 6 true]
theorem aLD:aO Tryz.prog Tryz.f100 aLE=some (aJB,aJW):=by kernel_rfl
theorem aK9:aN Tryz.prog aI0 Tryz.f100 aJB aJW:=
 aN.mk Tryz.func100 (by kernel_rfl) aLD
def pG:AC:=
 (.seq (.region [rq 0 4 (.move (ki 0))] 1 [0,1])
 (.seq (.region [RM 0 7 0,
 RM 1 8 0,
 RK 2 9 8,
 RF 3 10 1 9,
 RL 4 11 10,
 rq 5 12 (.bin .add (.tm 11) (ki 1)),
 RK 6 13 7,
 RF 7 14 1 13,
 rn 8 (.store 1 false (.tm 14) (.tm 12))] 9 [0,1])
 (.seq (.seq (.region [RM 0 15 1,
 rq 1 16 (.bin .lss (.tm 15) (ki 1)),
 RM 2 17 16,
 GQ 3 18 (.move (.tm 0)) 17 false,
 GQ 4 19 (.tF (.tm 18)) 17 false,
 GQ 5 20 (.fld 0 (.tm 19)) 17 false,
 GQ 6 21 (.load 1 false (.tm 20)) 17 false,
 GQ 7 22 (.len false (.tm 21)) 17 false,
 GQ 8 23 (.bin .eql (.tm 22) (ki 0)) 17 false,
 rq 9 24 (.pick (.tm 17) (.kv (.bool true)) (.tm 23))] 10 [0,1,24])
 (.cond (.tm 24)
 (.seq (.region [rq 0 4 (.move (ki 0))] 1 [4])
 .ret)
 .skip))
 (.seq (.region [RM 0 25 0,
 RK 1 26 25,
 RF 2 27 1 26,
 RL 3 28 27,
 rq 4 29 (.bin .sub (.tm 28) (ki 1)),
 RM 5 5 29] 6 [0,1,5])
 (.seq (.seq (.region [RM 0 30 5,
 RM 1 31 0,
 RK 2 32 31,
 RF 3 33 0 32,
 RL 4 34 33,
 rq 5 35 (.len false (.tm 34)),
 rq 6 36 (.bin .lss (.tm 30) (.tm 35))] 7 [0,1,5,36])
 (.cond (.tm 36)
 (.seq (.region [RM 0 37 0,
 RK 1 38 37,
 RF 2 39 0 38,
 RL 3 40 39,
 RM 4 41 5,
 rq 5 42 (.idx 1 (.tm 40) (.tm 41)),
 RL 6 43 42,
 rq 7 44 (.conv .i64 (.tm 43)),
 RM 8 45 1,
 rq 9 46 (.bin .rem (.tm 44) (.tm 45)),
 RM 10 4 46] 11 [4])
 .ret)
 .skip))
 (.seq (.region [RM 0 47 0,
 RK 1 48 47,
 RF 2 49 0 48,
 RL 3 50 49,
 RM 4 51 5,
 RM 5 52 0,
 RK 6 53 52,
 RF 7 54 0 53,
 RL 8 55 54,
 rq 9 56 (.len false (.tm 55)),
 rq 10 57 (.bin .rem (.tm 51) (.tm 56)),
 rq 11 58 (.idx 1 (.tm 50) (.tm 57)),
 RL 12 59 58,
 rq 13 60 (.conv .i64 (.tm 59)),
 rq 14 61 (.bin .mul (.tm 60) (ki 131)),
 RM 15 62 0,
 RK 16 63 62,
 RF 17 64 0 63,
 RL 18 65 64,
 RM 19 66 5,
 rq 20 67 (.bin .mul (.tm 66) (ki 7)),
 rq 21 68 (.bin .add (.tm 67) (ki 3)),
 RM 22 69 0,
 RK 23 70 69,
 RF 24 71 0 70,
 RL 25 72 71,
 rq 26 73 (.len false (.tm 72)),
 rq 27 74 (.bin .rem (.tm 68) (.tm 73)),
 rq 28 75 (.idx 1 (.tm 65) (.tm 74)),
 RL 29 76 75,
 rq 30 77 (.conv .i64 (.tm 76)),
 rq 31 78 (.bin .mul (.tm 77) (ki 1117)),
 rq 32 79 (.bin .add (.tm 61) (.tm 78)),
 RM 33 80 5,
 rq 34 81 (.bin .mul (.tm 80) (ki 29)),
 rq 35 82 (.bin .add (.tm 79) (.tm 81)),
 RM 36 83 5,
 RM 37 84 0,
 RK 38 85 84,
 RF 39 86 0 85,
 RL 40 87 86,
 rq 41 88 (.len false (.tm 87)),
 rq 42 89 (.bin .quo (.tm 83) (.tm 88)),
 rq 43 90 (.bin .mul (.tm 89) (ki 53)),
 rq 44 91 (.bin .add (.tm 82) (.tm 90)),
 RM 45 6 91] 46 [1,6])
 (.seq (.region [RM 0 92 6,
 RM 1 93 6,
 rq 2 94 (.bin .quo (.tm 93) (ki 64)),
 rq 3 95 (.bin .xor (.tm 92) (.tm 94)),
 RM 4 6 95] 5 [1,6])
 (.seq (.region [RM 0 96 6,
 RM 1 97 1,
 rq 2 98 (.bin .rem (.tm 96) (.tm 97)),
 RM 3 4 98] 4 [4])
 .ret))))))))
def JC:List Cert:=[⟨[],[0,1]⟩,⟨[],[0,1]⟩,⟨[],[0,1,24]⟩,⟨[],[4]⟩,⟨[],[0,1,5]⟩,⟨[],[0,1,5,36]⟩,⟨[],[4]⟩,⟨[cz 0,cz 1,cz 2,cz 3,cz 4,cz 5,cz 6,cz 7,cz 8,cz 9,cz 10,cz 11,cz 12,cz 13,cz 14,cz 15,cz 16,cz 17,cz 18,cz 19,cz 20,cz 21,cz 22,cz 23,cz 24,cz 25,cz 26,cz 27,cz 28,cz 29,cz 30,cz 31,cz 32,cz 33,cz 34,cz 35,cz 36,cz 37,cz 38,cz 39,cz 40,cz 41,cz 42,cz 43,cz 44,cz 45],[1,6]⟩,⟨[],[1,6]⟩,⟨[],[4]⟩]
def wZ:List aW:=[.tm 4]
theorem JJ:aO Tryz.prog Tryz.f104 JC=some (pG,wZ):=by kernel_rfl
theorem JN:aN Tryz.prog aD Tryz.f104 pG wZ:=
 aN.mk Tryz.func104 (by kernel_rfl) JJ
def aNX:AC:=
 (.seq (.region [rq 0 0 (.alloc [OZ,OZ,OZ,OZ,OZ,OZ])] 1 [0])
 (.seq (.region [rq 1 2 (.kY 1 [VZ] (ki 3) (ki 3)),
 ⟨0,(some 1),.call v7 [],none,[1],[],false⟩,
 rq 2 3 (.build [OZ,OZ,OZ,OZ,OZ,OZ] [(0,2,(.tm 1)),(2,1,(.tm 2))]),
 rn 3 (.store 6 true (.tm 0) (.tm 3))] 4 [0])
 .ret))
def aRO:List Cert:=[⟨[],[0]⟩,⟨[cz 1,(0,[1],[],false),cz 2,cz 3],[0]⟩]
def aOL:List aW:=[.cell 0 6 true]
theorem aQ7:aO Tryz.prog Tryz.f106 aRO=some (aNX,aOL):=by kernel_rfl
theorem aQJ:aN Tryz.prog c7 Tryz.f106 aNX aOL:=
 aN.mk Tryz.func106 (by kernel_rfl) aQ7
def w9:AC:=
 (.seq (.region [rq 0 4 (.move (.kv (.slice none 0 0)))] 1 [0,1])
 (.seq (.region [rq 0 7 (.build [VZ,VZ,VZ,(.v (.bool false))] [(0,1,(ki 0)),(1,1,(ki 15))]),
 rq 1 8 (.build [VZ,VZ,VZ,(.v (.bool false))] [(0,1,(ki 16)),(1,1,(ki 31)),(2,1,(ki 1))]),
 RM 2 9 0,
 rq 3 10 (.call aD [(.tm 9),(ki 3)]),
 rq 4 11 (.bin .eql (.tm 10) (ki 0)),
 rq 5 12 (.build [VZ,VZ,VZ,(.v (.bool false))] [(0,1,(ki 32)),(1,1,(ki 47)),(2,1,(ki 2)),(3,1,(.tm 11))]),
 rq 6 13 (.bC 4 3 [VZ,VZ,VZ,(.v (.bool false))] [(0,4,(.tm 7)),(4,4,(.tm 8)),(8,4,(.tm 12))]),
 RM 7 5 13] 8 [0,1,5])
 (.seq (.seq (.region [RM 0 14 0,
 rq 1 15 (.call aD [(.tm 14),(ki 4)])] 2 [0,1,5,15])
 (.block 0
 (.seq (.region [rq 0 17 (.bin .eql (.tm 15) (ki 0)),
 RM 1 16 17] 2 [0,1,5,15,16])
 (.cond (.tm 16)
 (.region [rq 0 18 (.build [VZ,VZ,VZ,(.v (.bool false))] [(0,1,(ki 0)),(1,1,(ki 7))]),
 rq 1 19 (.build [VZ,VZ,VZ,(.v (.bool false))] [(0,1,(ki 8)),(1,1,(ki 15)),(2,1,(ki 1))]),
 RM 2 20 0,
 rq 3 21 (.call aD [(.tm 20),(ki 3)]),
 rq 4 22 (.build [VZ,VZ,VZ,(.v (.bool false))] [(0,1,(ki 20)),(1,1,(ki 40)),(2,1,(.tm 21))]),
 RM 5 23 0,
 rq 6 24 (.call aD [(.tm 23),(ki 2)]),
 rq 7 25 (.bin .eql (.tm 24) (ki 0)),
 rq 8 26 (.build [VZ,VZ,VZ,(.v (.bool false))] [(0,1,(ki 41)),(1,1,(ki 63)),(2,1,(ki 2)),(3,1,(.tm 25))]),
 rq 9 27 (.bC 4 4 [VZ,VZ,VZ,(.v (.bool false))] [(0,4,(.tm 18)),(4,4,(.tm 19)),(8,4,(.tm 22)),(12,4,(.tm 26))]),
 RM 10 5 27] 11 [0,1,5])
 (.seq (.region [rq 0 29 (.bin .eql (.tm 15) (ki 1)),
 RM 1 28 29] 2 [0,1,5,28])
 (.cond (.tm 28)
 (.region [RM 0 30 5,
 RM 1 31 0,
 rq 2 32 (.call aD [(.tm 31),(ki 3)]),
 rq 3 33 (.bin .add (ki 1) (.tm 32)),
 rq 4 34 (.slc 4 (.tm 30) none (some (.tm 33)) none),
 RM 5 5 34] 6 [0,1,5])
 .skip))))))
 (.seq (.seq (.region [RM 0 35 0,
 RM 1 36 1,
 rq 2 37 (.call kE [(.tm 35),(.tm 36)])] 3 [0,5,37])
 (.cond (.tm 37)
 (.seq (.region [RM 0 38 0,
 RM 1 39 5,
 rq 2 40 (.len false (.tm 39)),
 rq 3 41 (.call aD [(.tm 38),(.tm 40)]),
 RM 4 6 41] 5 [0,5,6])
 (.seq (.region [RM 0 42 0,
 rq 1 43 (.call aD [(.tm 42),(ki 4)])] 2 [0,5,6,43])
 (.block 1
 (.seq (.region [rq 0 51 (.bin .eql (.tm 43) (ki 0)),
 RM 1 50 51] 2 [0,5,6,43,50])
 (.cond (.tm 50)
 (.region [RM 0 52 5,
 RM 1 53 6,
 RM 2 54 5,
 RM 3 55 6,
 rq 4 56 (.idx 4 (.tm 54) (.tm 55)),
 RF 5 57 1 56,
 ⟨6,(some 58),.load 1 false (.tm 57),none,[8],[],true⟩,
 rq 7 59 (.bin .add (.tm 58) (ki 1)),
 rq 8 60 (.bC 1 3 [VZ] [(0,1,(.kv (.int .i64 (-1)))),(1,1,(.tm 59)),(2,1,(ki 5))]),
 RM 9 61 0,
 ⟨10,(some 62),.call aD [(.tm 61),(ki 3)],none,[8],[6],false⟩,
 rq 11 63 (.idx 1 (.tm 60) (.tm 62)),
 RL 12 64 63,
 rq 13 65 (.idx 4 (.tm 52) (.tm 53)),
 RF 14 66 0 65,
 rn 15 (.store 1 false (.tm 66) (.tm 64))] 16 [5])
 (.seq (.region [rq 0 68 (.bin .eql (.tm 43) (ki 1)),
 RM 1 67 68] 2 [0,5,6,43,67])
 (.cond (.tm 67)
 (.region [RM 0 69 5,
 RM 1 70 6,
 RM 2 71 5,
 RM 3 72 6,
 rq 4 73 (.idx 4 (.tm 71) (.tm 72)),
 RF 5 74 0 73,
 ⟨6,(some 75),.load 1 false (.tm 74),none,[8],[],true⟩,
 rq 7 76 (.bin .sub (.tm 75) (ki 1)),
 rq 8 77 (.bC 1 3 [VZ] [(0,1,(ki 64)),(1,1,(.tm 76)),(2,1,(ki 40))]),
 RM 9 78 0,
 ⟨10,(some 79),.call aD [(.tm 78),(ki 3)],none,[8],[6],false⟩,
 rq 11 80 (.idx 1 (.tm 77) (.tm 79)),
 RL 12 81 80,
 rq 13 82 (.idx 4 (.tm 69) (.tm 70)),
 RF 14 83 1 82,
 rn 15 (.store 1 false (.tm 83) (.tm 81))] 16 [5])
 (.seq (.region [rq 0 85 (.bin .eql (.tm 43) (ki 2)),
 RM 1 84 85] 2 [0,5,6,84])
 (.cond (.tm 84)
 (.region [RM 0 86 5,
 RM 1 87 6,
 rq 2 88 (.bC 1 2 [VZ] [(0,1,(.kv (.int .i64 (-1)))),(1,1,(ki 3))]),
 RM 3 89 0,
 rq 4 90 (.call aD [(.tm 89),(ki 2)]),
 rq 5 91 (.idx 1 (.tm 88) (.tm 90)),
 RL 6 92 91,
 rq 7 93 (.idx 4 (.tm 86) (.tm 87)),
 RF 8 94 2 93,
 rn 9 (.store 1 false (.tm 94) (.tm 92))] 10 [5])
 (.region [RM 0 44 5,
 rq 1 45 (.build [VZ,VZ,VZ,(.v (.bool false))] [(0,1,(ki 60)),(1,1,(ki 61))]),
 rq 2 46 (.build [VZ,VZ,VZ,(.v (.bool false))] [(0,1,(ki 62)),(1,1,(ki 62))]),
 rq 3 47 (.build [VZ,VZ,VZ,(.v (.bool false))] [(0,1,(ki 63)),(1,1,(ki 63))]),
 rq 4 48 (.bC 4 3 [VZ,VZ,VZ,(.v (.bool false))] [(0,4,(.tm 45)),(4,4,(.tm 46)),(8,4,(.tm 47))]),
 rq 5 49 (.append 4 (.tm 44) (.tm 48)),
 RM 6 5 49] 7 [5]))))))))))
 .skip))
 (.seq (.region [RM 0 95 5,
 RM 1 4 95] 2 [4])
 .ret)))))
def R5:List Cert:=[⟨[],[0,1]⟩,⟨[],[0,1,5]⟩,⟨[],[0,1,5,15]⟩,⟨[],[0,1,5,15,16]⟩,⟨[],[0,1,5]⟩,⟨[],[0,1,5,28]⟩,⟨[],[0,1,5]⟩,⟨[],[0,5,37]⟩,⟨[],[0,5,6]⟩,⟨[],[0,5,6,43]⟩,⟨[],[0,5,6,43,50]⟩,⟨[cz 0,cz 1,cz 2,cz 3,cz 4,cz 5,(6,[8],[],true),cz 7,cz 8,cz 9,(10,[8],[6],false),cz 11,cz 12,cz 13,cz 14,cz 15],[5]⟩,⟨[],[0,5,6,43,67]⟩,⟨[cz 0,cz 1,cz 2,cz 3,cz 4,cz 5,(6,[8],[],true),cz 7,cz 8,cz 9,(10,[8],[6],false),cz 11,cz 12,cz 13,cz 14,cz 15],[5]⟩,⟨[],[0,5,6,84]⟩,⟨[],[5]⟩,⟨[],[5]⟩,⟨[],[4]⟩]
def GO:List aW:=[.tm 4]
theorem TD:aO Tryz.prog Tryz.f107 R5=some (w9,GO):=by kernel_rfl
theorem RN:aN Tryz.prog tN Tryz.f107 w9 GO:=
 aN.mk Tryz.func107 (by kernel_rfl) TD
def xW:AC:=
 (.seq (.region [rq 0 4 (.alloc [VZ,VZ,VZ,VZ,(.v (.bool false)),OZ,OZ])] 1 [0,1,4])
 (.seq (.region [RM 0 7 0,
 RM 2 9 0,
 RM 5 12 0,
 rq 7 14 (.bC 1 4 [VZ] [(0,1,(ki 1)),(1,1,(ki 1)),(2,1,(ki 2)),(3,1,(ki 4))]),
 RM 8 15 0,
 RM 12 19 0,
 rq 16 5 (.alloc [VZ,VZ,VZ,VZ,(.v (.bool false)),OZ,OZ]),
 ⟨1,(some 8),.call aD [(.tm 7),(ki 2)],none,[7,16],[],false⟩,
 ⟨3,(some 10),.call aD [(.tm 9),(ki 4)],none,[7,16],[],false⟩,
 rq 4 11 (.bin .add (ki 1) (.tm 10)),
 ⟨6,(some 13),.call qM [(.tm 12)],none,[7,16],[],false⟩,
 ⟨9,(some 16),.call aD [(.tm 15),(ki 4)],none,[7,16],[],false⟩,
 rq 10 17 (.idx 1 (.tm 14) (.tm 16)),
 ⟨11,(some 18),.load 1 false (.tm 17),none,[16],[],true⟩,
 ⟨13,(some 20),.call aD [(.tm 19),(ki 3)],none,[7,16],[11],false⟩,
 rq 14 21 (.bin .eql (.tm 20) (ki 0)),
 rq 15 22 (.build [VZ,VZ,VZ,VZ,(.v (.bool false)),OZ,OZ] [(0,1,(.tm 8)),(1,1,(.tm 11)),(2,1,(.tm 13)),(3,1,(.tm 18)),(4,1,(.tm 21))]),
 rn 17 (.store 7 true (.tm 5) (.tm 22))] 18 [0,1,4,5])
 (.seq (.seq (.region [RF 0 23 1 5,
 RL 1 24 23,
 rq 2 25 (.bin .geq (.tm 24) (ki 3))] 3 [0,1,4,5,25])
 (.cond (.tm 25)
 (.seq (.region [RF 0 26 3 5,
 rn 1 (.store 1 false (.tm 26) (ki 1))] 2 [0,1,4,5])
 (.region [rq 0 27 (.bC 1 4 [VZ] [(0,1,(ki 0)),(1,1,(ki 1)),(2,1,(ki 16)),(3,1,(ki 32))]),
 RM 1 28 0,
 rq 2 29 (.call aD [(.tm 28),(ki 4)]),
 rq 3 30 (.idx 1 (.tm 27) (.tm 29)),
 RL 4 31 30,
 RF 5 32 2 5,
 rn 6 (.store 1 false (.tm 32) (.tm 31))] 7 [0,1,4,5]))
 .skip))
 (.seq (.seq (.region [RF 0 33 4 5,
 RL 1 34 33,
 rq 2 35 (.un .not (.tm 34)),
 RM 3 36 35,
 GQ 4 37 (.fld 2 (.tm 5)) 36 true,
 GQ 5 38 (.load 1 false (.tm 37)) 36 true,
 GQ 6 39 (.fld 3 (.tm 5)) 36 true,
 GQ 7 40 (.load 1 false (.tm 39)) 36 true,
 GQ 8 41 (.bin .add (.tm 38) (.tm 40)) 36 true,
 GQ 9 42 (.bin .sub (.tm 41) (ki 1)) 36 true,
 GQ 10 43 (.bin .gtr (.tm 42) (ki 63)) 36 true,
 rq 11 44 (.pick (.tm 36) (.tm 43) (.kv (.bool false)))] 12 [0,1,4,5,44])
 (.cond (.tm 44)
 (.region [RF 0 45 3 5,
 RL 1 46 45,
 rq 2 47 (.bin .sub (ki 63) (.tm 46)),
 rq 3 48 (.bin .add (.tm 47) (ki 1)),
 RF 4 49 2 5,
 rn 5 (.store 1 false (.tm 49) (.tm 48))] 6 [0,1,4,5])
 .skip))
 (.seq (.seq (.region [RF 0 50 1 5,
 RL 1 51 50,
 rq 2 52 (.bin .eql (.tm 51) (ki 2)),
 RM 3 53 52,
 GQ 4 54 (.fld 1 (.tm 5)) 53 false,
 GQ 5 55 (.load 1 false (.tm 54)) 53 false,
 GQ 6 56 (.bin .eql (.tm 55) (ki 4)) 53 false,
 rq 7 57 (.pick (.tm 53) (.kv (.bool true)) (.tm 56))] 8 [0,1,4,5,57])
 (.cond (.tm 57)
 (.seq (.region [rq 0 6 (.move (ki 0))] 1 [0,1,4,5,6])
 (.block 0
 (.loop
 (.seq (.seq (.region [RM 0 58 6,
 RF 1 59 3 5,
 RL 2 60 59,
 rq 3 61 (.bin .lss (.tm 58) (.tm 60))] 4 [0,1,4,5,6,61])
 (.cond (.tm 61)
 .skip
 (.exit 0)))
 (.seq (.block 1
 (.seq (.region [RF 0 64 5 5,
 ⟨1,(some 65),.load 1 false (.tm 64),none,[7,12],[],true⟩,
 RM 2 66 0,
 RM 5 69 0,
 RM 8 72 0,
 ⟨3,(some 67),.call aD [(.tm 66),(ki 256)],none,[],[1],false⟩,
 rq 4 68 (.bin .mul (.tm 67) (ki 257)),
 ⟨6,(some 70),.call aD [(.tm 69),(ki 10)],none,[],[1],false⟩,
 rq 7 71 (.bC 1 4 [VZ] [(0,1,(.tm 68)),(1,1,(.tm 70)),(2,1,(ki 65535)),(3,1,(ki 0))]),
 ⟨9,(some 73),.call aD [(.tm 72),(ki 4)],none,[7],[1],false⟩,
 rq 10 74 (.idx 1 (.tm 71) (.tm 73)),
 RL 11 75 74,
 rq 12 76 (.bC 1 1 [VZ] [(0,1,(.tm 75))]),
 rq 13 77 (.append 1 (.tm 65) (.tm 76)),
 RF 14 78 5 5,
 rn 15 (.store 1 false (.tm 78) (.tm 77))] 16 [0,1,4,5,6])
 (.region [RF 0 79 6 5,
 ⟨1,(some 80),.load 1 false (.tm 79),none,[2,7],[],true⟩,
 rq 2 81 (.bC 1 5 [VZ] [(0,1,(ki 3)),(1,1,(ki 3)),(2,1,(ki 1)),(3,1,(ki 2)),(4,1,(ki 0))]),
 RM 3 82 0,
 ⟨4,(some 83),.call aD [(.tm 82),(ki 5)],none,[2],[1],false⟩,
 rq 5 84 (.idx 1 (.tm 81) (.tm 83)),
 RL 6 85 84,
 rq 7 86 (.bC 1 1 [VZ] [(0,1,(.tm 85))]),
 rq 8 87 (.append 1 (.tm 80) (.tm 86)),
 RF 9 88 6 5,
 rn 10 (.store 1 false (.tm 88) (.tm 87))] 11 [0,1,4,5,6])))
 (.region [RM 0 62 6,
 rq 1 63 (.bin .add (.tm 62) (ki 1)),
 RM 2 6 63] 3 [0,1,4,5,6]))))))
 .skip))
 (.seq (.seq (.region [RM 0 89 0,
 RM 1 90 1,
 rq 2 91 (.call kE [(.tm 89),(.tm 90)])] 3 [0,4,5,91])
 (.cond (.tm 91)
 (.seq (.region [RM 0 92 0,
 rq 1 93 (.call aD [(.tm 92),(ki 7)])] 2 [0,4,5,93])
 (.block 2
 (.seq (.region [rq 0 107 (.bin .eql (.tm 93) (ki 0)),
 RM 1 106 107] 2 [0,4,5,93,106])
 (.cond (.tm 106)
 (.region [rq 0 108 (.bC 1 2 [VZ] [(0,1,(.kv (.int .i64 (-1)))),(1,1,(ki 2))]),
 RM 1 109 0,
 rq 2 110 (.call aD [(.tm 109),(ki 2)]),
 rq 3 111 (.idx 1 (.tm 108) (.tm 110)),
 RL 4 112 111,
 RF 5 113 0 5,
 rn 6 (.store 1 false (.tm 113) (.tm 112))] 7 [4,5])
 (.seq (.region [rq 0 115 (.bin .eql (.tm 93) (ki 1)),
 RM 1 114 115] 2 [0,4,5,93,114])
 (.cond (.tm 114)
 (.region [rq 0 116 (.bC 1 2 [VZ] [(0,1,(ki 0)),(1,1,(ki 5))]),
 RM 1 117 0,
 rq 2 118 (.call aD [(.tm 117),(ki 2)]),
 rq 3 119 (.idx 1 (.tm 116) (.tm 118)),
 RL 4 120 119,
 RF 5 121 1 5,
 rn 6 (.store 1 false (.tm 121) (.tm 120))] 7 [4,5])
 (.seq (.region [rq 0 123 (.bin .eql (.tm 93) (ki 2)),
 RM 1 122 123] 2 [0,4,5,93,122])
 (.cond (.tm 122)
 (.region [rq 0 124 (.bC 1 3 [VZ] [(0,1,(.kv (.int .i64 (-1)))),(1,1,(ki 64)),(2,1,(ki 63))]),
 RM 1 125 0,
 rq 2 126 (.call aD [(.tm 125),(ki 3)]),
 rq 3 127 (.idx 1 (.tm 124) (.tm 126)),
 RL 4 128 127,
 RF 5 129 2 5,
 rn 6 (.store 1 false (.tm 129) (.tm 128))] 7 [4,5])
 (.seq (.region [rq 0 131 (.bin .eql (.tm 93) (ki 3)),
 RM 1 130 131] 2 [0,4,5,93,130])
 (.cond (.tm 130)
 (.region [rq 0 132 (.bC 1 4 [VZ] [(0,1,(ki 0)),(1,1,(ki 3)),(2,1,(ki 8)),(3,1,(ki 4))]),
 RM 1 133 0,
 rq 2 134 (.call aD [(.tm 133),(ki 4)]),
 rq 3 135 (.idx 1 (.tm 132) (.tm 134)),
 RL 4 136 135,
 RF 5 137 3 5,
 rn 6 (.store 1 false (.tm 137) (.tm 136))] 7 [4,5])
 (.seq (.region [rq 0 139 (.bin .eql (.tm 93) (ki 4)),
 RM 1 138 139] 2 [0,4,5,93,138])
 (.cond (.tm 138)
 (.region [RF 0 140 5 5,
 RL 1 141 140,
 rq 2 142 (.bC 1 1 [VZ] [(0,1,(ki 5))]),
 rq 3 143 (.append 1 (.tm 141) (.tm 142)),
 RF 4 144 5 5,
 rn 5 (.store 1 false (.tm 144) (.tm 143))] 6 [4,5])
 (.seq (.region [rq 0 146 (.bin .eql (.tm 93) (ki 5)),
 RM 1 145 146] 2 [0,4,5,145])
 (.cond (.tm 145)
 (.region [RF 0 147 6 5,
 RL 1 148 147,
 rq 2 149 (.bC 1 1 [VZ] [(0,1,(ki 1))]),
 rq 3 150 (.append 1 (.tm 148) (.tm 149)),
 RF 4 151 6 5,
 rn 5 (.store 1 false (.tm 151) (.tm 150))] 6 [4,5])
 (.seq (.region [RF 0 94 5 5,
 RL 1 95 94,
 rq 2 96 (.len false (.tm 95)),
 rq 3 97 (.bin .gtr (.tm 96) (ki 0))] 4 [0,4,5,97])
 (.cond (.tm 97)
 (.region [RF 0 98 5 5,
 ⟨1,(some 99),.load 1 false (.tm 98),none,[2],[],true⟩,
 rq 2 100 (.bC 1 2 [VZ] [(0,1,(.kv (.int .i64 (-1)))),(1,1,(ki 65536))]),
 RM 3 101 0,
 ⟨4,(some 102),.call aD [(.tm 101),(ki 2)],none,[2],[1],false⟩,
 rq 5 103 (.idx 1 (.tm 100) (.tm 102)),
 RL 6 104 103,
 rq 7 105 (.idx 1 (.tm 99) (ki 0)),
 rn 8 (.store 1 false (.tm 105) (.tm 104))] 9 [4,5])
 .skip))))))))))))))))
 .skip))
 (.seq (.region [rq 0 152 (.load 7 true (.tm 5)),
 rn 1 (.store 7 true (.tm 4) (.tm 152))] 2 [4])
 .ret)))))))
def S8:List Cert:=[⟨[],[0,1,4]⟩,⟨[cz 0,cz 2,cz 5,cz 7,cz 8,cz 12,cz 16,(1,[7,16],[],false),(3,[7,16],[],false),cz 4,(6,[7,16],[],false),(9,[7,16],[],false),cz 10,(11,[16],[],true),(13,[7,16],[11],false),cz 14,cz 15,cz 17],[0,1,4,5]⟩,⟨[],[0,1,4,5,25]⟩,⟨[],[0,1,4,5]⟩,⟨[],[0,1,4,5]⟩,⟨[],[0,1,4,5,44]⟩,⟨[],[0,1,4,5]⟩,⟨[],[0,1,4,5,57]⟩,⟨[],[0,1,4,5,6]⟩,⟨[],[0,1,4,5,6,61]⟩,⟨[cz 0,(1,[7,12],[],true),cz 2,cz 5,cz 8,(3,[],[1],false),cz 4,(6,[],[1],false),cz 7,(9,[7],[1],false),cz 10,cz 11,cz 12,cz 13,cz 14,cz 15],[0,1,4,5,6]⟩,⟨[cz 0,(1,[2,7],[],true),cz 2,cz 3,(4,[2],[1],false),cz 5,cz 6,cz 7,cz 8,cz 9,cz 10],[0,1,4,5,6]⟩,⟨[],[0,1,4,5,6]⟩,⟨[],[0,4,5,91]⟩,⟨[],[0,4,5,93]⟩,⟨[],[0,4,5,93,106]⟩,⟨[],[4,5]⟩,⟨[],[0,4,5,93,114]⟩,⟨[],[4,5]⟩,⟨[],[0,4,5,93,122]⟩,⟨[],[4,5]⟩,⟨[],[0,4,5,93,130]⟩,⟨[],[4,5]⟩,⟨[],[0,4,5,93,138]⟩,⟨[],[4,5]⟩,⟨[],[0,4,5,145]⟩,⟨[],[4,5]⟩,⟨[],[0,4,5,97]⟩,⟨[cz 0,(1,[2],[],true),cz 2,cz 3,(4,[2],[1],false),cz 5,cz 6,cz 7,cz 8],[4,5]⟩,⟨[],[4]⟩]
def E5:List aW:=[.cell 4 7 true]
theorem TG:aO Tryz.prog Tryz.f108 S8=some (xW,E5):=by kernel_rfl
theorem QN:aN Tryz.prog tS Tryz.f108 xW E5:=
 aN.mk Tryz.func108 (by kernel_rfl) TG
def zQ:AC:=
 (.seq (.region [rq 0 2 (.move (.kv (.bool false)))] 1 [0])
 (.seq (.seq (.region [RM 0 5 0,
 rq 1 6 (.len false (.tm 5)),
 rq 2 7 (.move (ki 0))] 3 [0,5,6,7])
 (.block 0
 (.loop
 (.seq (.region [rq 0 8 (.bin .lss (.tm 7) (.tm 6))] 1 [0,5,6,7,8])
 (.seq (.cond (.tm 8)
 .skip
 (.exit 0))
 (.seq (.block 1
 (.seq (.region [RM 0 9 7,
 rq 1 10 (.idx 4 (.tm 5) (.tm 7)),
 rq 2 11 (.load 4 true (.tm 10)),
 rq 3 4 (.alloc [VZ,VZ,VZ,(.v (.bool false))]),
 RM 4 3 9,
 rn 5 (.store 4 true (.tm 4) (.tm 11))] 6 [0,3,4,5,6,7])
 (.seq (.region [RF 0 12 0 4,
 RL 1 13 12,
 rq 2 14 (.call cQ [(.tm 13),(ki 0),(ki 63)]),
 rq 3 15 (.un .not (.tm 14)),
 RM 4 16 15,
 GQ 5 17 (.fld 1 (.tm 4)) 16 false,
 GQ 6 18 (.load 1 false (.tm 17)) 16 false,
 GQ 7 19 (.fld 0 (.tm 4)) 16 false,
 GQ 8 20 (.load 1 false (.tm 19)) 16 false,
 GQ 9 21 (.call cQ [(.tm 18),(.tm 20),(ki 63)]) 16 false,
 GQ 10 22 (.un .not (.tm 21)) 16 false,
 rq 11 23 (.pick (.tm 16) (.kv (.bool true)) (.tm 22)),
 RM 12 24 23,
 GQ 13 25 (.fld 2 (.tm 4)) 24 false,
 GQ 14 26 (.load 1 false (.tm 25)) 24 false,
 GQ 15 27 (.call cQ [(.tm 26),(ki 0),(ki 2)]) 24 false,
 GQ 16 28 (.un .not (.tm 27)) 24 false,
 rq 17 29 (.pick (.tm 24) (.kv (.bool true)) (.tm 28)),
 RM 18 30 29,
 GQ 19 31 (.move (.tm 0)) 30 false,
 GQ 20 32 (.move (.tm 3)) 30 false,
 GQ 21 33 (.slc 4 (.tm 31) none (some (.tm 32)) none) 30 false,
 GQ 22 34 (.xop (.zI rE) [(.tm 4)]) 30 false,
 GQ 23 35 (.call bX [(.tm 33),(.tm 34)]) 30 false,
 rq 24 36 (.pick (.tm 30) (.kv (.bool true)) (.tm 35))] 25 [0,5,6,7,36])
 (.cond (.tm 36)
 (.seq (.region [rq 0 2 (.move (.kv (.bool false)))] 1 [2])
 .ret)
 .skip))))
 (.region [rq 0 37 (.bin .add (.tm 7) (ki 1)),
 RM 1 7 37] 2 [0,5,6,7])))))))
 (.seq (.region [RM 0 38 0,
 rq 1 39 (.len false (.tm 38)),
 rq 2 40 (.bin .leq (.tm 39) (ki 4)),
 RM 3 2 40] 4 [2])
 .ret)))
def VE:List Cert:=[⟨[],[0]⟩,⟨[],[0,5,6,7]⟩,⟨[],[0,5,6,7,8]⟩,⟨[],[0,3,4,5,6,7]⟩,⟨[],[0,5,6,7,36]⟩,⟨[],[2]⟩,⟨[],[0,5,6,7]⟩,⟨[],[2]⟩]
def I5:List aW:=[.tm 2]
theorem VT:aO Tryz.prog Tryz.f110 VE=some (zQ,I5):=by kernel_rfl
theorem VB:aN Tryz.prog wR Tryz.f110 zQ I5:=
 aN.mk Tryz.func110 (by kernel_rfl) VT
def fX:AC:=
 (.seq (.region [rq 0 4 (.move (.kv (.bool false)))] 1 [0,1])
 (.seq (.region [RM 0 5 0,
 RM 1 6 1,
 rq 2 7 (.call fF [(.tm 5),(.tm 6)]),
 rq 3 8 (.bin .geq (.tm 7) (ki 0)),
 RM 4 4 8] 5 [4])
 .ret))
def sD:List Cert:=[⟨[],[0,1]⟩,⟨[],[4]⟩]
def jY:List aW:=[.tm 4]
theorem rV:aO Tryz.prog Tryz.f111 sD=some (fX,jY):=by kernel_rfl
theorem r8:aN Tryz.prog bN Tryz.f111 fX jY:=
 aN.mk Tryz.func111 (by kernel_rfl) rV
def vK:AC:=
 (.seq (.region [rq 0 2 (.move (.kv (.bool false)))] 1 [0])
 (.seq (.region [RM 0 3 0,
 rq 1 4 (.call cQ [(.tm 3),(ki 0),(ki 3)]),
 rq 2 5 (.un .not (.tm 4)),
 RM 3 2 5] 4 [2])
 .ret))
def OR:List Cert:=[⟨[],[0]⟩,⟨[],[2]⟩]
def DT:List aW:=[.tm 2]
theorem OL:aO Tryz.prog Tryz.f112 OR=some (vK,DT):=by kernel_rfl
theorem PF:aN Tryz.prog qK Tryz.f112 vK DT:=
 aN.mk Tryz.func112 (by kernel_rfl) OL
def JX:AC:=
 (.seq (.region [rq 0 6 (.move (.kv (.bool false)))] 1 [0,1,2])
 (.seq (.region [RM 0 7 0,
 RM 1 8 1,
 rq 2 9 (.bin .geq (.tm 7) (.tm 8)),
 RM 3 10 9,
 GQ 4 11 (.move (.tm 0)) 10 true,
 GQ 5 12 (.move (.tm 2)) 10 true,
 GQ 6 13 (.bin .leq (.tm 11) (.tm 12)) 10 true,
 rq 7 14 (.pick (.tm 10) (.tm 13) (.kv (.bool false))),
 RM 8 6 14] 9 [6])
 .ret))
def afB:List Cert:=[⟨[],[0,1,2]⟩,⟨[],[6]⟩]
def SP:List aW:=[.tm 6]
theorem acJ:aO Tryz.prog Tryz.f113 afB=some (JX,SP):=by kernel_rfl
theorem ae0:aN Tryz.prog cQ Tryz.f113 JX SP:=
 aN.mk Tryz.func113 (by kernel_rfl) acJ
def dG:AC:=
 (.seq (.region [rq 0 4 (.move (.kv (.bool false)))] 1 [0,1])
 (.seq (.region [RM 0 5 0,
 RM 1 6 1,
 rq 2 7 (.call cT [(.tm 5),(.tm 6)]),
 rq 3 8 (.bin .geq (.tm 7) (ki 0)),
 RM 4 4 8] 5 [4])
 .ret))
def l5:List Cert:=[⟨[],[0,1]⟩,⟨[],[4]⟩]
def gE:List aW:=[.tm 4]
theorem l6:aO Tryz.prog Tryz.f114 l5=some (dG,gE):=by kernel_rfl
theorem l7:aN Tryz.prog cF Tryz.f114 dG gE:=
 aN.mk Tryz.func114 (by kernel_rfl) l6
def u6:AC:=
 (.seq (.region [rq 0 2 (.move (.kv (.bool false)))] 1 [0])
 (.seq (.region [RM 0 3 0,
 rq 1 4 (.len false (.tm 3)),
 rq 2 5 (.bin .gtr (.tm 4) (ki 12)),
 RM 3 6 5,
 GQ 4 7 (.move (.tm 0)) 6 false,
 GQ 5 8 (.call cN [(.tm 7),(.fn nH)]) 6 false,
 rq 6 9 (.pick (.tm 6) (.kv (.bool true)) (.tm 8)),
 RM 7 2 9] 8 [2])
 .ret))
def OE:List Cert:=[⟨[],[0]⟩,⟨[],[2]⟩]
def DW:List aW:=[.tm 2]
theorem OD:aO Tryz.prog Tryz.f115 OE=some (u6,DW):=by kernel_rfl
theorem OS:aN Tryz.prog rR Tryz.f115 u6 DW:=
 aN.mk Tryz.func115 (by kernel_rfl) OD
def rM:AC:=
 (.seq (.region [rq 0 1 (.box true (.tm 0)),
 rq 1 2 (.move (.kv (.bool false)))] 2 [1])
 (.seq (.region [rq 0 3 (.load 7 true (.tm 1)),
 rq 1 4 (.call wD [(.tm 3)]),
 rq 2 5 (.un .not (.tm 4)),
 RM 3 2 5] 4 [2])
 .ret))
def K9:List Cert:=[⟨[],[1]⟩,⟨[],[2]⟩]
def y9:List aW:=[.tm 2]
theorem J8:aO Tryz.prog Tryz.f116 K9=some (rM,y9):=by kernel_rfl
theorem KW:aN Tryz.prog nH Tryz.f116 rM y9:=
 aN.mk Tryz.func116 (by kernel_rfl) J8
def zP:AC:=
 (.seq (.region [rq 0 1 (.box true (.tm 0)),
 rq 1 2 (.move (.kv (.bool false)))] 2 [1])
 (.seq (.region [rq 0 3 (.move (ki 0))] 1 [1,3])
 (.seq (.seq (.region [rq 0 4 (.load 7 true (.tm 1)),
 rq 1 5 (.call eY [(.tm 4)])] 2 [1,3,5])
 (.cond (.tm 5)
 (.region [RF 0 6 3 1,
 RL 1 7 6,
 RM 2 3 7] 3 [1,3])
 .skip))
 (.seq (.region [RF 0 8 0 1,
 RL 1 9 8,
 rq 2 10 (.call cQ [(.tm 9),(ki 0),(ki 1)]),
 RM 3 11 10,
 GQ 4 12 (.fld 1 (.tm 1)) 11 true,
 GQ 5 13 (.load 1 false (.tm 12)) 11 true,
 GQ 6 14 (.call cQ [(.tm 13),(ki 1),(ki 4)]) 11 true,
 rq 7 15 (.pick (.tm 11) (.tm 14) (.kv (.bool false))),
 RM 8 16 15,
 GQ 9 17 (.fld 2 (.tm 1)) 16 true,
 GQ 10 18 (.load 1 false (.tm 17)) 16 true,
 GQ 11 19 (.fld 3 (.tm 1)) 16 true,
 GQ 12 20 (.load 1 false (.tm 19)) 16 true,
 GQ 13 21 (.fld 4 (.tm 1)) 16 true,
 GQ 14 22 (.load 1 false (.tm 21)) 16 true,
 GQ 15 23 (.call nI [(.tm 18),(.tm 20),(.tm 22)]) 16 true,
 rq 16 24 (.pick (.tm 16) (.tm 23) (.kv (.bool false))),
 RM 17 25 24,
 GQ 18 26 (.fld 5 (.tm 1)) 25 true,
 GQ 19 27 (.load 1 false (.tm 26)) 25 true,
 GQ 20 28 (.len false (.tm 27)) 25 true,
 GQ 21 29 (.move (.tm 3)) 25 true,
 GQ 22 30 (.bin .eql (.tm 28) (.tm 29)) 25 true,
 rq 23 31 (.pick (.tm 25) (.tm 30) (.kv (.bool false))),
 RM 24 32 31,
 GQ 25 33 (.fld 6 (.tm 1)) 32 true,
 GQ 26 34 (.load 1 false (.tm 33)) 32 true,
 GQ 27 35 (.len false (.tm 34)) 32 true,
 GQ 28 36 (.move (.tm 3)) 32 true,
 GQ 29 37 (.bin .eql (.tm 35) (.tm 36)) 32 true,
 rq 30 38 (.pick (.tm 32) (.tm 37) (.kv (.bool false))),
 RM 31 39 38,
 GQ 32 40 (.fld 5 (.tm 1)) 39 true,
 GQ 33 41 (.load 1 false (.tm 40)) 39 true,
 GQ 34 42 (.call jB [(.tm 41)]) 39 true,
 rq 35 43 (.pick (.tm 39) (.tm 42) (.kv (.bool false))),
 RM 36 44 43,
 GQ 37 45 (.fld 6 (.tm 1)) 44 true,
 GQ 38 46 (.load 1 false (.tm 45)) 44 true,
 GQ 39 47 (.call bN [(.tm 46),(.fn rT)]) 44 true,
 GQ 40 48 (.un .not (.tm 47)) 44 true,
 rq 41 49 (.pick (.tm 44) (.tm 48) (.kv (.bool false))),
 RM 42 50 49,
 GQ 43 51 (.fld 1 (.tm 1)) 50 true,
 GQ 44 52 (.load 1 false (.tm 51)) 50 true,
 GQ 45 53 (.bin .eql (.tm 52) (ki 1)) 50 true,
 GQ 46 54 (.move (.tm 53)) 50 true,
 GQ 47 55 (.fld 1 (.tm 1)) 54 false,
 GQ 48 56 (.load 1 false (.tm 55)) 54 false,
 GQ 49 57 (.bin .eql (.tm 56) (ki 2)) 54 false,
 GQ 50 58 (.pick (.tm 54) (.kv (.bool true)) (.tm 57)) 50 true,
 GQ 51 59 (.move (.tm 58)) 50 true,
 GQ 52 60 (.fld 3 (.tm 1)) 59 false,
 GQ 53 61 (.load 1 false (.tm 60)) 59 false,
 GQ 54 62 (.bin .eql (.tm 61) (ki 1)) 59 false,
 GQ 55 63 (.pick (.tm 59) (.kv (.bool true)) (.tm 62)) 50 true,
 rq 56 64 (.pick (.tm 50) (.tm 63) (.kv (.bool false))),
 RM 57 2 64] 58 [2])
 .ret))))
def U1:List Cert:=[⟨[],[1]⟩,⟨[],[1,3]⟩,⟨[],[1,3,5]⟩,⟨[],[1,3]⟩,⟨[],[2]⟩]
def I9:List aW:=[.tm 2]
theorem UO:aO Tryz.prog Tryz.f117 U1=some (zP,I9):=by kernel_rfl
theorem VJ:aN Tryz.prog wD Tryz.f117 zP I9:=
 aN.mk Tryz.func117 (by kernel_rfl) UO
end Go.Proofs.YtegiblhkjfiooaaGreat
