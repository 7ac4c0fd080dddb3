/- Texts laid together by a program: rules, contracts and the walk that leads to the law. -/
import Derived.Test.YtegiblhkjfiooaaGreatPx3
import Derived.Test.YtegiblhkjfiooaaGreatPx6
set_option linter.unusedVariables false
set_option linter.unusedSimpArgs false
set_option linter.unusedSectionVars false
section
namespace Go.Proofs.YtegiblhkjfiooaaGreat
open Go Go.AM
set_option maxRecDepth 100000
def lK:AC:=
 (.seq (.region [rq 0 4 (.box true (.tm 1)),
 rq 1 5 (.box true (.tm 2)),
 rq 2 6 (.alloc [OZ,VZ,VZ,VZ,VZ])] 3 [0,4,5,6])
 (.seq (.region [rq 0 7 (.alloc [OZ,VZ,VZ,VZ,VZ])] 1 [0,4,5,6,7])
 (.seq (.region [RM 0 8 0,
 rq 1 9 (.load 3 true (.tm 5)),
 rq 2 10 (.call mG [(.tm 8),(.tm 9),(.tm 7)])] 3 [0,4,5,6,7])
 (.seq (.region [RM 0 11 0,
 rq 1 12 (.load 3 true (.tm 4)),
 rq 2 13 (.load 3 true (.tm 5)),
 rq 3 14 (.call mM [(.tm 11),(.tm 12),(.tm 13),(.tm 7)])] 4 [0,4,5,6,7])
 (.seq (.region [RM 0 15 0,
 rq 1 16 (.load 3 true (.tm 4)),
 rq 2 17 (.call n6 [(.tm 15),(.tm 16),(.tm 7)])] 3 [0,4,5,6,7])
 (.seq (.region [RM 0 18 0,
 rq 1 19 (.load 3 true (.tm 4)),
 rq 2 20 (.load 3 true (.tm 5)),
 rq 3 21 (.call nX [(.tm 18),(.tm 19),(.tm 20),(.tm 7)])] 4 [6,7])
 (.seq (.region [rq 0 22 (.load 5 true (.tm 7)),
 rn 1 (.store 5 true (.tm 6) (.tm 22))] 2 [6])
 .ret)))))))
def EI:List Cert:=[⟨[],[0,4,5,6]⟩,⟨[],[0,4,5,6,7]⟩,⟨[],[0,4,5,6,7]⟩,⟨[],[0,4,5,6,7]⟩,⟨[],[0,4,5,6,7]⟩,⟨[],[6,7]⟩,⟨[],[6]⟩]
def sL:List aW:=[.cell 6 5 true]
theorem D7:aO Tryz.prog Tryz.f69 EI=some (lK,sL):=by kernel_rfl
def z2:AC:=
 (.seq (.region [rq 0 3 (.box true (.tm 1)),
 rq 1 4 (.move (ki 0))] 2 [0,3])
 (.seq (.region [RM 0 6 0,
 rq 1 7 (.load 7 true (.tm 3)),
 rq 2 8 (.call mZ [(.tm 6),(.tm 7)]),
 RM 3 5 8] 4 [0,5])
 (.seq (.seq (.region [RM 0 9 5,
 rq 1 10 (.bin .lss (.tm 9) (ki 0))] 2 [0,5,10])
 (.cond (.tm 10)
 (.seq (.region [rq 0 4 (.move (ki 3))] 1 [4])
 .ret)
 .skip))
 (.seq (.region [RM 0 11 0,
 RM 1 12 5,
 rq 2 13 (.idx 4 (.tm 11) (.tm 12)),
 RF 3 14 2 13,
 RL 4 15 14,
 RM 5 4 15] 6 [4])
 .ret))))
def VL:List Cert:=[⟨[],[0,3]⟩,⟨[],[0,5]⟩,⟨[],[0,5,10]⟩,⟨[],[4]⟩,⟨[],[4]⟩]
def I3:List aW:=[.tm 4]
theorem US:aO Tryz.prog Tryz.f73 VL=some (z2,I3):=by kernel_rfl
theorem UU:aN Tryz.prog rN Tryz.f73 z2 I3:=
 aN.mk Tryz.func73 (by kernel_rfl) US
def AR:AC:=
 (.seq (.region [rq 0 2 (.box true (.tm 0)),
 rq 1 3 (.box false (.tm 1)),
 rq 2 4 (.move (ki 0))] 3 [2,3])
 (.seq (.region [RF 0 5 2 2,
 RL 1 6 5,
 rq 2 7 (.xop (.zI rQ) [(.tm 3)]),
 rq 3 8 (.call bZ [(.tm 6),(.tm 7)]),
 RM 4 4 8] 5 [4])
 .ret))
def TQ:List Cert:=[⟨[],[2,3]⟩,⟨[],[4]⟩]
def IJ:List aW:=[.tm 4]
theorem TP:aO Tryz.prog Tryz.f133 TQ=some (AR,IJ):=by kernel_rfl
theorem UN:aN Tryz.prog kV Tryz.f133 AR IJ:=
 aN.mk Tryz.func133 (by kernel_rfl) TP
def lR:AC:=
 (.seq (.region [rq 0 4 (.box true (.tm 1))] 1 [0,2,4])
 (.seq (.region [RM 0 13 0,
 RK 1 14 13,
 RF 2 15 2 14,
 RL 3 16 15,
 rq 4 17 (.len false (.tm 16)),
 rq 5 18 (.move (ki 0))] 6 [0,2,4,17,18])
 (.block 0
 (.loop
 (.seq (.region [rq 0 19 (.bin .lss (.tm 18) (.tm 17))] 1 [0,2,4,17,18,19])
 (.seq (.cond (.tm 19)
 .skip
 (.exit 0))
 (.seq (.block 1
 (.seq (.region [RM 0 20 18,
 RM 1 6 20] 2 [0,2,4,6,17,18])
 (.seq (.region [RM 0 21 0,
 RK 1 22 21,
 RF 2 23 2 22,
 RL 3 24 23,
 RM 4 25 6,
 rq 5 26 (.idx 4 (.tm 24) (.tm 25)),
 RM 6 7 26] 7 [0,2,4,6,7,17,18])
 (.seq (.region [rq 0 8 (.move (ki 1))] 1 [0,2,4,6,7,8,17,18])
 (.block 2
 (.loop
 (.seq (.seq (.region [RM 0 27 8,
 rq 1 28 (.bin .leq (.tm 27) (ki 4)),
 RM 2 29 28,
 GQ 3 30 (.fld 0 (.tm 4)) 29 true,
 GQ 4 31 (.load 1 false (.tm 30)) 29 true,
 GQ 5 32 (.move (.tm 6)) 29 true,
 GQ 6 33 (.idx 1 (.tm 31) (.tm 32)) 29 true,
 GQ 7 34 (.load 1 false (.tm 33)) 29 true,
 rq 8 35 (.pick (.tm 29) (.tm 34) (.kv (.bool false)))] 9 [0,2,4,6,7,8,17,18,35])
 (.cond (.tm 35)
 .skip
 (.exit 2)))
 (.seq (.block 3
 (.seq (.region [RM 0 38 7,
 RK 1 39 38,
 RF 2 40 3 39,
 RL 3 41 40,
 RM 4 42 8,
 rq 5 43 (.bin .add (.tm 41) (.tm 42)),
 rq 6 44 (.bin .rem (.tm 43) (ki 4)),
 RM 7 9 44] 8 [0,2,4,6,7,8,9,17,18])
 (.seq (.region [RM 0 45 0,
 RK 1 46 45,
 RF 2 47 3 46,
 RL 3 48 47,
 RM 4 49 9,
 rq 5 50 (.idx 3 (.tm 48) (.tm 49)),
 RM 6 10 50] 7 [0,2,4,6,7,8,9,10,17,18])
 (.seq (.seq (.region [RM 0 51 10,
 RK 1 52 51,
 RF 2 53 1 52,
 RL 3 54 53,
 rq 4 55 (.len false (.tm 54)),
 rq 5 56 (.bin .eql (.tm 55) (ki 0)),
 RM 6 57 56,
 GQ 7 58 (.move (.tm 10)) 57 false,
 GQ 8 59 (.tF (.tm 58)) 57 false,
 GQ 9 60 (.fld 1 (.tm 59)) 57 false,
 GQ 10 61 (.load 1 false (.tm 60)) 57 false,
 GQ 11 62 (.idx 5 (.tm 61) (ki 0)) 57 false,
 GQ 12 63 (.fld 0 (.tm 62)) 57 false,
 GQ 13 64 (.load 1 false (.tm 63)) 57 false,
 GQ 14 65 (.move (.tm 6)) 57 false,
 GQ 15 66 (.bin .neq (.tm 64) (.tm 65)) 57 false,
 rq 16 67 (.pick (.tm 57) (.kv (.bool true)) (.tm 66))] 17 [0,2,4,6,7,8,9,10,17,18,67])
 (.cond (.tm 67)
 (.exit 3)
 .skip))
 (.seq (.region [RM 0 68 10,
 RK 1 69 68,
 RF 2 70 1 69,
 RL 3 71 70,
 rq 4 72 (.idx 5 (.tm 71) (ki 0)),
 rq 5 73 (.load 5 true (.tm 72)),
 rq 6 11 (.alloc [VZ,VZ,VZ,VZ,OZ]),
 rn 7 (.store 5 true (.tm 11) (.tm 73))] 8 [0,2,4,6,7,9,10,11,17,18])
 (.seq (.region [RM 0 74 0,
 RM 1 75 0,
 RK 2 76 75,
 RF 3 77 4 76,
 ⟨4,(some 78),.load 1 false (.tm 77),none,[6],[],false⟩,
 rq 5 79 (.load 5 true (.tm 11)),
 rq 6 80 (.bC 5 1 [VZ,VZ,VZ,VZ,OZ] [(0,5,(.tm 79))]),
 rq 7 81 (.append 5 (.tm 78) (.tm 80)),
 RK 8 82 74,
 RF 9 83 4 82,
 rn 10 (.store 1 false (.tm 83) (.tm 81))] 11 [0,2,4,6,7,9,10,11,17,18])
 (.seq (.region [RM 0 84 10,
 RM 1 85 10,
 RK 2 86 85,
 RF 3 87 1 86,
 RL 4 88 87,
 rq 5 89 (.slc 5 (.tm 88) (some (ki 1)) none none),
 RK 6 90 84,
 RF 7 91 1 90,
 rn 8 (.store 1 false (.tm 91) (.tm 89))] 9 [0,2,4,6,7,9,11,17,18])
 (.seq (.region [RM 0 92 7,
 RK 1 93 92,
 rq 2 94 (.load 4 true (.tm 93)),
 RF 3 95 1 11,
 RL 4 96 95,
 rq 5 97 (.call kV [(.tm 94),(.tm 96)]),
 RM 6 12 97] 7 [0,2,4,6,7,9,11,12,17,18])
 (.seq (.region [RM 0 98 7,
 RM 1 99 7,
 RK 2 100 99,
 RF 3 101 2 100,
 RL 4 102 101,
 RM 5 103 12,
 RM 6 104 12,
 rq 7 105 (.bin .add (.tm 104) (ki 1)),
 rq 8 106 (.call eA [(.tm 102),(.tm 103),(.tm 105)]),
 RK 9 107 98,
 RF 10 108 2 107,
 rn 11 (.store 1 false (.tm 108) (.tm 106))] 12 [0,2,4,6,7,9,11,17,18])
 (.seq (.region [RM 0 109 7,
 RM 1 110 9,
 RK 2 111 109,
 RF 3 112 3 111,
 rn 4 (.store 1 false (.tm 112) (.tm 110))] 5 [0,2,4,6,11,17,18])
 (.seq (.region [RM 0 113 2,
 RM 1 114 6,
 RF 2 115 1 11,
 RL 3 116 115,
 rq 4 117 (.call eC [(.tm 113),(ki 3),(.tm 114),(.tm 116)])] 5 [0,2,4,17,18])
 (.exit 2))))))))))))
 (.region [RM 0 36 8,
 rq 1 37 (.bin .add (.tm 36) (ki 1)),
 RM 2 8 37] 3 [0,2,4,6,7,8,17,18])))))))))
 (.region [rq 0 118 (.bin .add (.tm 18) (ki 1)),
 RM 1 18 118] 2 [0,2,4,17,18]))))))))
def D9:List Cert:=[⟨[],[0,2,4]⟩,⟨[],[0,2,4,17,18]⟩,⟨[],[0,2,4,17,18,19]⟩,⟨[],[0,2,4,6,17,18]⟩,⟨[],[0,2,4,6,7,17,18]⟩,⟨[],[0,2,4,6,7,8,17,18]⟩,⟨[],[0,2,4,6,7,8,17,18,35]⟩,⟨[],[0,2,4,6,7,8,9,17,18]⟩,⟨[],[0,2,4,6,7,8,9,10,17,18]⟩,⟨[],[0,2,4,6,7,8,9,10,17,18,67]⟩,⟨[],[0,2,4,6,7,9,10,11,17,18]⟩,⟨[cz 0,cz 1,cz 2,cz 3,(4,[6],[],false),cz 5,cz 6,cz 7,cz 8,cz 9,cz 10],[0,2,4,6,7,9,10,11,17,18]⟩,⟨[],[0,2,4,6,7,9,11,17,18]⟩,⟨[cz 0,cz 1,cz 2,cz 3,cz 4,cz 5,cz 6],[0,2,4,6,7,9,11,12,17,18]⟩,⟨[],[0,2,4,6,7,9,11,17,18]⟩,⟨[],[0,2,4,6,11,17,18]⟩,⟨[],[0,2,4,17,18]⟩,⟨[],[0,2,4,6,7,8,17,18]⟩,⟨[],[0,2,4,17,18]⟩]
def sK:List aW:=[]
theorem D6:aO Tryz.prog Tryz.f137 D9=some (lR,sK):=by kernel_rfl
def lQ:AC:=
 (.seq (.region [rq 0 5 (.box true (.tm 1)),
 rq 1 6 (.box true (.tm 2))] 2 [0,3,5,6])
 (.seq (.region [RM 0 11 0,
 RK 1 12 11,
 RF 2 13 3 12,
 RL 3 14 13,
 rq 4 15 (.len false (.tm 14)),
 rq 5 16 (.move (ki 0))] 6 [0,3,5,6,15,16])
 (.block 0
 (.loop
 (.seq (.region [rq 0 17 (.bin .lss (.tm 16) (.tm 15))] 1 [0,3,5,6,15,16,17])
 (.seq (.cond (.tm 17)
 .skip
 (.exit 0))
 (.seq (.block 1
 (.seq (.region [RM 0 18 16,
 RM 1 8 18] 2 [0,3,5,6,8,15,16])
 (.seq (.region [RM 0 19 0,
 RK 1 20 19,
 RF 2 21 3 20,
 RL 3 22 21,
 RM 4 23 8,
 rq 5 24 (.idx 3 (.tm 22) (.tm 23)),
 RM 6 9 24] 7 [0,3,5,6,8,9,15,16])
 (.seq (.seq (.region [RF 0 25 1 6,
 RL 1 26 25,
 RM 2 27 8,
 rq 3 28 (.idx 1 (.tm 26) (.tm 27)),
 RL 4 29 28,
 RM 5 30 29,
 GQ 6 31 (.move (.tm 9)) 30 false,
 GQ 7 32 (.tF (.tm 31)) 30 false,
 GQ 8 33 (.fld 0 (.tm 32)) 30 false,
 GQ 9 34 (.load 1 false (.tm 33)) 30 false,
 GQ 10 35 (.len false (.tm 34)) 30 false,
 GQ 11 36 (.bin .eql (.tm 35) (ki 0)) 30 false,
 rq 12 37 (.pick (.tm 30) (.kv (.bool true)) (.tm 36))] 13 [0,3,5,6,9,15,16,37])
 (.cond (.tm 37)
 (.exit 1)
 .skip))
 (.seq (.region [RM 0 38 9,
 RK 1 39 38,
 RF 2 40 0 39,
 RL 3 41 40,
 rq 4 42 (.idx 3 (.tm 41) (ki 0)),
 rq 5 43 (.load 3 true (.tm 42)),
 rq 6 10 (.alloc [VZ,VZ,VZ]),
 rn 7 (.store 3 true (.tm 10) (.tm 43))] 8 [0,3,5,6,9,10,15,16])
 (.block 2
 (.seq (.region [RF 0 45 2 10,
 RL 1 46 45,
 rq 2 47 (.bin .gtr (.tm 46) (ki 0)),
 RM 3 44 47] 4 [0,3,5,6,9,10,15,16,44])
 (.cond (.tm 44)
 (.region [RM 0 48 9,
 RK 1 49 48,
 RF 2 50 0 49,
 RL 3 51 50,
 rq 4 52 (.idx 3 (.tm 51) (ki 0)),
 RF 5 53 2 52,
 RL 6 54 53,
 rq 7 55 (.bin .sub (.tm 54) (ki 1)),
 rq 8 56 (.idx 3 (.tm 51) (ki 0)),
 RF 9 57 2 56,
 rn 10 (.store 1 false (.tm 57) (.tm 55))] 11 [0,3,5,6,15,16])
 (.seq (.region [RM 0 59 9,
 RK 1 60 59,
 RF 2 61 1 60,
 RL 3 62 61,
 rq 4 63 (.len false (.tm 62)),
 rq 5 64 (.bin .lss (.tm 63) (ki 2)),
 RM 6 58 64] 7 [0,3,5,6,9,10,15,16,58])
 (.cond (.tm 58)
 (.seq (.region [RM 0 65 9,
 RM 1 66 9,
 RK 2 67 66,
 RF 3 68 0 67,
 RL 4 69 68,
 rq 5 70 (.slc 3 (.tm 69) (some (ki 1)) none none),
 RK 6 71 65,
 RF 7 72 0 71,
 rn 8 (.store 1 false (.tm 72) (.tm 70))] 9 [0,3,5,6,9,10,15,16])
 (.seq (.region [RM 0 73 9,
 RM 1 74 9,
 RK 2 75 74,
 RF 3 76 1 75,
 ⟨4,(some 77),.load 1 false (.tm 76),none,[28],[],true⟩,
 RF 5 78 0 10,
 ⟨6,(some 79),.load 1 false (.tm 78),none,[28],[],true⟩,
 RF 7 80 1 10,
 ⟨8,(some 81),.load 1 false (.tm 80),none,[28],[],true⟩,
 RM 9 82 0,
 RK 10 83 82,
 RF 11 84 0 83,
 RF 12 85 0 5,
 RL 13 86 85,
 RF 14 87 0 10,
 RL 15 88 87,
 RF 16 89 2 5,
 RL 17 90 89,
 RF 18 91 0 10,
 RL 19 92 91,
 rq 20 93 (.idx 1 (.tm 90) (.tm 92)),
 RL 21 94 93,
 RF 22 95 1 10,
 RL 23 96 95,
 rq 24 97 (.idx 7 (.tm 94) (.tm 96)),
 rq 25 98 (.load 7 true (.tm 97)),
 ⟨26,(some 99),.call pL [(.tm 84),(.tm 86),(.tm 88),(.tm 98)],none,[],[4,6,8],false⟩,
 rq 27 100 (.build [VZ,VZ,VZ,VZ,OZ] [(0,1,(.tm 79)),(1,1,(.tm 81)),(2,3,(.tm 99))]),
 rq 28 101 (.bC 5 1 [VZ,VZ,VZ,VZ,OZ] [(0,5,(.tm 100))]),
 rq 29 102 (.append 5 (.tm 77) (.tm 101)),
 RK 30 103 73,
 RF 31 104 1 103,
 rn 32 (.store 1 false (.tm 104) (.tm 102))] 33 [0,3,5,6,10,15,16])
 (.region [RM 0 105 3,
 RF 1 106 0 10,
 RL 2 107 106,
 RF 3 108 1 10,
 RL 4 109 108,
 rq 5 110 (.call eC [(.tm 105),(ki 2),(.tm 107),(.tm 109)])] 6 [0,3,5,6,15,16])))
 .skip))))))))))
 (.region [rq 0 111 (.bin .add (.tm 16) (ki 1)),
 RM 1 16 111] 2 [0,3,5,6,15,16]))))))))
def D5:List Cert:=[⟨[],[0,3,5,6]⟩,⟨[],[0,3,5,6,15,16]⟩,⟨[],[0,3,5,6,15,16,17]⟩,⟨[],[0,3,5,6,8,15,16]⟩,⟨[],[0,3,5,6,8,9,15,16]⟩,⟨[],[0,3,5,6,9,15,16,37]⟩,⟨[],[0,3,5,6,9,10,15,16]⟩,⟨[],[0,3,5,6,9,10,15,16,44]⟩,⟨[],[0,3,5,6,15,16]⟩,⟨[],[0,3,5,6,9,10,15,16,58]⟩,⟨[],[0,3,5,6,9,10,15,16]⟩,⟨[cz 0,cz 1,cz 2,cz 3,(4,[28],[],true),cz 5,(6,[28],[],true),cz 7,(8,[28],[],true),cz 9,cz 10,cz 11,cz 12,cz 13,cz 14,cz 15,cz 16,cz 17,cz 18,cz 19,cz 20,cz 21,cz 22,cz 23,cz 24,cz 25,(26,[],[4,6,8],false),cz 27,cz 28,cz 29,cz 30,cz 31,cz 32],[0,3,5,6,10,15,16]⟩,⟨[],[0,3,5,6,15,16]⟩,⟨[],[0,3,5,6,15,16]⟩]
def sI:List aW:=[]
theorem EC:aO Tryz.prog Tryz.f138 D5=some (lQ,sI):=by kernel_rfl
def mL:AC:=
 (.seq (.region [rq 0 4 (.box true (.tm 1))] 1 [0,2,4])
 (.seq (.region [rq 0 6 (.alloc [(.v (.bool false)),(.v (.bool false)),(.v (.bool false))])] 1 [0,2,4,6])
 (.seq (.region [RM 0 13 0,
 RK 1 14 13,
 RF 2 15 3 14,
 RL 3 16 15,
 rq 4 17 (.len false (.tm 16)),
 rq 5 18 (.move (ki 0))] 6 [0,2,4,6,17,18])
 (.block 0
 (.loop
 (.seq (.region [rq 0 19 (.bin .lss (.tm 18) (.tm 17))] 1 [0,2,4,6,17,18,19])
 (.seq (.cond (.tm 19)
 .skip
 (.exit 0))
 (.seq (.block 1
 (.seq (.region [RM 0 20 18,
 RM 1 7 20] 2 [0,2,4,6,7,17,18])
 (.seq (.region [RM 0 21 0,
 RK 1 22 21,
 RF 2 23 3 22,
 RL 3 24 23,
 RM 4 25 7,
 rq 5 26 (.idx 3 (.tm 24) (.tm 25)),
 RM 6 8 26] 7 [0,2,4,6,7,8,17,18])
 (.seq (.region [rq 0 9 (.move (ki 1))] 1 [0,2,4,6,7,8,9,17,18])
 (.block 2
 (.loop
 (.seq (.seq (.region [RM 0 27 9,
 rq 1 28 (.bin .leq (.tm 27) (ki 3)),
 RM 2 29 28,
 GQ 3 30 (.move (.tm 8)) 29 true,
 GQ 4 31 (.tF (.tm 30)) 29 true,
 GQ 5 32 (.fld 0 (.tm 31)) 29 true,
 GQ 6 33 (.load 1 false (.tm 32)) 29 true,
 GQ 7 34 (.len false (.tm 33)) 29 true,
 GQ 8 35 (.bin .lss (.tm 34) (ki 2)) 29 true,
 rq 9 36 (.pick (.tm 29) (.tm 35) (.kv (.bool false)))] 10 [0,2,4,6,7,8,9,17,18,36])
 (.cond (.tm 36)
 .skip
 (.exit 2)))
 (.seq (.block 3
 (.seq (.region [RM 0 39 8,
 RK 1 40 39,
 RF 2 41 2 40,
 RL 3 42 41,
 RM 4 43 9,
 rq 5 44 (.bin .add (.tm 42) (.tm 43)),
 rq 6 45 (.bin .rem (.tm 44) (ki 3)),
 RM 7 10 45] 8 [0,2,4,6,7,8,9,10,17,18])
 (.seq (.seq (.region [RM 0 46 10,
 rq 1 47 (.TL 1 3 (.tm 6) (.tm 46)),
 RL 2 48 47,
 RM 3 49 48,
 GQ 4 50 (.move (.tm 0)) 49 false,
 GQ 5 51 (.load 3 true (.tm 4)) 49 false,
 GQ 6 52 (.move (.tm 10)) 49 false,
 GQ 7 53 (.move (.tm 7)) 49 false,
 GQ 8 54 (.call j8 [(.tm 50),(.tm 51),(.tm 52),(.tm 53)]) 49 false,
 GQ 9 55 (.un .not (.tm 54)) 49 false,
 rq 10 56 (.pick (.tm 49) (.kv (.bool true)) (.tm 55))] 11 [0,2,4,6,7,8,9,10,17,18,56])
 (.cond (.tm 56)
 (.exit 3)
 .skip))
 (.seq (.region [RM 0 57 0,
 RK 1 58 57,
 RF 2 59 2 58,
 RL 3 60 59,
 RM 4 61 10,
 rq 5 62 (.idx 4 (.tm 60) (.tm 61)),
 RM 6 11 62] 7 [0,2,4,6,7,8,10,11,17,18])
 (.seq (.region [RM 0 63 11,
 RK 1 64 63,
 RF 2 65 1 64,
 RL 3 66 65,
 rq 4 67 (.idx 1 (.tm 66) (ki 0)),
 RL 5 68 67,
 RM 6 12 68] 7 [0,2,4,6,7,8,10,11,12,17,18])
 (.seq (.region [RM 0 69 11,
 RM 1 70 11,
 RK 2 71 70,
 RF 3 72 1 71,
 RL 4 73 72,
 rq 5 74 (.slc 1 (.tm 73) (some (ki 1)) none none),
 RK 6 75 69,
 RF 7 76 1 75,
 rn 8 (.store 1 false (.tm 76) (.tm 74))] 9 [0,2,4,6,7,8,10,11,12,17,18])
 (.seq (.region [RM 0 77 11,
 RM 1 78 11,
 RK 2 79 78,
 RF 3 80 2 79,
 RL 4 81 80,
 RM 5 82 10,
 RM 6 83 12,
 RM 7 84 7,
 rq 8 85 (.build [VZ,VZ,VZ] [(0,1,(.tm 82)),(1,1,(.tm 83)),(2,1,(.tm 84))]),
 rq 9 86 (.bC 3 1 [VZ,VZ,VZ] [(0,3,(.tm 85))]),
 rq 10 87 (.append 3 (.tm 81) (.tm 86)),
 RK 11 88 77,
 RF 12 89 2 88,
 rn 13 (.store 1 false (.tm 89) (.tm 87))] 14 [0,2,4,6,7,8,10,12,17,18])
 (.seq (.region [RM 0 90 8,
 RM 1 91 8,
 RK 2 92 91,
 RF 3 93 0 92,
 ⟨4,(some 94),.load 1 false (.tm 93),none,[13],[],false⟩,
 RM 5 95 10,
 RM 6 96 12,
 RF 7 97 1 4,
 RL 8 98 97,
 RM 9 99 7,
 rq 10 100 (.idx 1 (.tm 98) (.tm 99)),
 RL 11 101 100,
 rq 12 102 (.build [VZ,VZ,VZ] [(0,1,(.tm 95)),(1,1,(.tm 96)),(2,1,(.tm 101))]),
 rq 13 103 (.bC 3 1 [VZ,VZ,VZ] [(0,3,(.tm 102))]),
 rq 14 104 (.append 3 (.tm 94) (.tm 103)),
 RK 15 105 90,
 RF 16 106 0 105,
 rn 17 (.store 1 false (.tm 106) (.tm 104))] 18 [0,2,4,6,7,8,10,17,18])
 (.seq (.region [RM 0 107 8,
 RM 1 108 10,
 RK 2 109 107,
 RF 3 110 2 109,
 rn 4 (.store 1 false (.tm 110) (.tm 108))] 5 [0,2,4,6,7,10,17,18])
 (.seq (.region [RM 0 111 10,
 rq 1 112 (.TL 1 3 (.tm 6) (.tm 111)),
 rn 2 (.store 1 false (.tm 112) (.kv (.bool true)))] 3 [0,2,4,6,7,17,18])
 (.seq (.region [RM 0 113 2,
 RM 1 114 7,
 RK 2 115 113,
 RF 3 116 1 115,
 rq 4 117 (.TL 1 4 (.tm 116) (.tm 114)),
 rn 5 (.store 1 false (.tm 117) (ki 1))] 6 [0,2,4,6,17,18])
 (.exit 2))))))))))))
 (.region [RM 0 37 9,
 rq 1 38 (.bin .add (.tm 37) (ki 1)),
 RM 2 9 38] 3 [0,2,4,6,7,8,9,17,18])))))))))
 (.region [rq 0 118 (.bin .add (.tm 18) (ki 1)),
 RM 1 18 118] 2 [0,2,4,6,17,18])))))))))
def EV:List Cert:=[⟨[],[0,2,4]⟩,⟨[],[0,2,4,6]⟩,⟨[],[0,2,4,6,17,18]⟩,⟨[],[0,2,4,6,17,18,19]⟩,⟨[],[0,2,4,6,7,17,18]⟩,⟨[],[0,2,4,6,7,8,17,18]⟩,⟨[],[0,2,4,6,7,8,9,17,18]⟩,⟨[],[0,2,4,6,7,8,9,17,18,36]⟩,⟨[],[0,2,4,6,7,8,9,10,17,18]⟩,⟨[],[0,2,4,6,7,8,9,10,17,18,56]⟩,⟨[],[0,2,4,6,7,8,10,11,17,18]⟩,⟨[],[0,2,4,6,7,8,10,11,12,17,18]⟩,⟨[],[0,2,4,6,7,8,10,11,12,17,18]⟩,⟨[],[0,2,4,6,7,8,10,12,17,18]⟩,⟨[cz 0,cz 1,cz 2,cz 3,(4,[13],[],false),cz 5,cz 6,cz 7,cz 8,cz 9,cz 10,cz 11,cz 12,cz 13,cz 14,cz 15,cz 16,cz 17],[0,2,4,6,7,8,10,17,18]⟩,⟨[],[0,2,4,6,7,10,17,18]⟩,⟨[],[0,2,4,6,7,17,18]⟩,⟨[],[0,2,4,6,17,18]⟩,⟨[],[0,2,4,6,7,8,9,17,18]⟩,⟨[],[0,2,4,6,17,18]⟩]
def uR:List aW:=[]
theorem FB:aO Tryz.prog Tryz.f139 EV=some (mL,uR):=by kernel_rfl
def mI:AC:=
 (.seq (.region [rq 0 5 (.box true (.tm 1)),
 rq 1 6 (.box true (.tm 2))] 2 [0,3,5,6])
 (.seq (.region [RM 0 10 0,
 RK 1 11 10,
 RF 2 12 2 11,
 RL 3 13 12,
 rq 4 14 (.len false (.tm 13)),
 rq 5 15 (.move (ki 0))] 6 [0,3,5,6,14,15])
 (.block 0
 (.loop
 (.seq (.region [rq 0 16 (.bin .lss (.tm 15) (.tm 14))] 1 [0,3,5,6,14,15,16])
 (.seq (.cond (.tm 16)
 .skip
 (.exit 0))
 (.seq (.block 1
 (.seq (.region [RM 0 17 15,
 RM 1 8 17] 2 [0,3,5,6,8,14,15])
 (.seq (.region [RM 0 18 0,
 RK 1 19 18,
 RF 2 20 2 19,
 RL 3 21 20,
 RM 4 22 8,
 rq 5 23 (.idx 4 (.tm 21) (.tm 22)),
 RM 6 9 23] 7 [0,3,5,6,8,9,14,15])
 (.seq (.region [RF 0 24 2 6,
 RL 1 25 24,
 RM 2 26 8,
 rq 3 27 (.idx 1 (.tm 25) (.tm 26)),
 RL 4 28 27,
 RM 5 29 28,
 GQ 6 30 (.move (.tm 9)) 29 true,
 GQ 7 31 (.tF (.tm 30)) 29 true,
 GQ 8 32 (.fld 1 (.tm 31)) 29 true,
 GQ 9 33 (.load 1 false (.tm 32)) 29 true,
 GQ 10 34 (.len false (.tm 33)) 29 true,
 GQ 11 35 (.bin .lss (.tm 34) (ki 2)) 29 true,
 rq 12 36 (.pick (.tm 29) (.tm 35) (.kv (.bool false))),
 RM 13 37 36,
 GQ 14 38 (.move (.tm 9)) 37 true,
 GQ 15 39 (.tF (.tm 38)) 37 true,
 GQ 16 40 (.fld 0 (.tm 39)) 37 true,
 GQ 17 41 (.load 1 false (.tm 40)) 37 true,
 GQ 18 42 (.fld 2 (.tm 5)) 37 true,
 GQ 19 43 (.load 1 false (.tm 42)) 37 true,
 GQ 20 44 (.move (.tm 8)) 37 true,
 GQ 21 45 (.idx 1 (.tm 43) (.tm 44)) 37 true,
 GQ 22 46 (.load 1 false (.tm 45)) 37 true,
 GQ 23 47 (.len false (.tm 46)) 37 true,
 GQ 24 48 (.bin .lss (.tm 41) (.tm 47)) 37 true,
 rq 25 49 (.pick (.tm 37) (.tm 48) (.kv (.bool false)))] 26 [0,3,5,6,8,9,14,15,49])
 (.cond (.tm 49)
 (.seq (.region [RM 0 50 9,
 RM 1 51 9,
 RK 2 52 51,
 RF 3 53 1 52,
 ⟨4,(some 54),.load 1 false (.tm 53),none,[9],[],false⟩,
 RM 5 55 9,
 RK 6 56 55,
 RF 7 57 0 56,
 RL 8 58 57,
 rq 9 59 (.bC 1 1 [VZ] [(0,1,(.tm 58))]),
 rq 10 60 (.append 1 (.tm 54) (.tm 59)),
 RK 11 61 50,
 RF 12 62 1 61,
 rn 13 (.store 1 false (.tm 62) (.tm 60))] 14 [0,3,5,6,8,9,14,15])
 (.seq (.region [RM 0 63 3,
 RM 1 64 8,
 RM 2 65 9,
 RK 3 66 65,
 RF 4 67 0 66,
 RL 5 68 67,
 rq 6 69 (.call eC [(.tm 63),(ki 1),(.tm 64),(.tm 68)])] 7 [0,3,5,6,9,14,15])
 (.region [RM 0 70 9,
 RK 1 71 70,
 RF 2 72 0 71,
 RL 3 73 72,
 rq 4 74 (.bin .add (.tm 73) (ki 1)),
 RK 5 75 70,
 RF 6 76 0 75,
 rn 7 (.store 1 false (.tm 76) (.tm 74))] 8 [0,3,5,6,14,15])))
 .skip)))))
 (.region [rq 0 77 (.bin .add (.tm 15) (ki 1)),
 RM 1 15 77] 2 [0,3,5,6,14,15]))))))))
def GU:List Cert:=[⟨[],[0,3,5,6]⟩,⟨[],[0,3,5,6,14,15]⟩,⟨[],[0,3,5,6,14,15,16]⟩,⟨[],[0,3,5,6,8,14,15]⟩,⟨[],[0,3,5,6,8,9,14,15]⟩,⟨[cz 0,cz 1,cz 2,cz 3,cz 4,cz 5,cz 6,cz 7,cz 8,cz 9,cz 10,cz 11,cz 12,cz 13,cz 14,cz 15,cz 16,cz 17,cz 18,cz 19,cz 20,cz 21,cz 22,cz 23,cz 24,cz 25],[0,3,5,6,8,9,14,15,49]⟩,⟨[cz 0,cz 1,cz 2,cz 3,(4,[9],[],false),cz 5,cz 6,cz 7,cz 8,cz 9,cz 10,cz 11,cz 12,cz 13],[0,3,5,6,8,9,14,15]⟩,⟨[],[0,3,5,6,9,14,15]⟩,⟨[],[0,3,5,6,14,15]⟩,⟨[],[0,3,5,6,14,15]⟩]
def uE:List aW:=[]
theorem FG:aO Tryz.prog Tryz.f140 GU=some (mI,uE):=by kernel_rfl
def eU:AC:=
 (.seq (.region [rq 0 4 (.move (ki 0))] 1 [0,1])
 (.seq (.seq (.region [RM 0 6 0,
 rq 1 7 (.len false (.tm 6)),
 rq 2 8 (.move (ki 0))] 3 [0,1,7,8])
 (.block 0
 (.loop
 (.seq (.region [rq 0 9 (.bin .lss (.tm 8) (.tm 7))] 1 [0,1,7,8,9])
 (.seq (.cond (.tm 9)
 .skip
 (.exit 0))
 (.seq (.block 1
 (.seq (.region [RM 0 10 8,
 RM 1 5 10] 2 [0,1,5,7,8])
 (.seq (.region [RM 0 11 1,
 RM 1 12 0,
 RM 2 13 5,
 rq 3 14 (.idx 3 (.tm 12) (.tm 13)),
 rq 4 15 (.load 3 true (.tm 14)),
 rq 5 16 (.t5 (.tm 11) [(.tm 15)])] 6 [0,1,5,7,8,16])
 (.cond (.tm 16)
 (.seq (.region [RM 0 17 5,
 RM 1 4 17] 2 [4])
 .ret)
 .skip))))
 (.region [rq 0 18 (.bin .add (.tm 8) (ki 1)),
 RM 1 8 18] 2 [0,1,7,8])))))))
 (.seq (.region [rq 0 4 (.move (.kv (.int .i64 (-1))))] 1 [4])
 .ret)))
def pN:List Cert:=[⟨[],[0,1]⟩,⟨[],[0,1,7,8]⟩,⟨[],[0,1,7,8,9]⟩,⟨[],[0,1,5,7,8]⟩,⟨[],[0,1,5,7,8,16]⟩,⟨[],[4]⟩,⟨[],[0,1,7,8]⟩,⟨[],[4]⟩]
def iO:List aW:=[.tm 4]
theorem pK:aO Tryz.prog Tryz.f199 pN=some (eU,iO):=by kernel_rfl
theorem pH:aN Tryz.prog bZ Tryz.f199 eU iO:=
 aN.mk Tryz.func199 (by kernel_rfl) pK
def vD:AC:=
 (.seq (.region [rq 0 2 (.box true (.tm 0)),
 rq 1 3 (.move (.kv (.bool false)))] 2 [1,2])
 (.seq (.region [RF 0 4 1 2,
 RL 1 5 4,
 RL 2 6 1,
 rq 3 7 (.bin .eql (.tm 5) (.tm 6)),
 RM 4 3 7] 5 [3])
 .ret))
def OH:List Cert:=[⟨[],[1,2]⟩,⟨[],[3]⟩]
def DM:List aW:=[.tm 3]
theorem N9:aO Tryz.prog Tryz.f200 OH=some (vD,DM):=by kernel_rfl
theorem OM:aN Tryz.prog rQ Tryz.f200 vD DM:=
 aN.mk Tryz.func200 (by kernel_rfl) N9
def fW:AC:=
 (.seq (.region [rq 0 6 (.move (.kv (.slice none 0 0)))] 1 [0,1,2])
 (.seq (.region [RM 0 8 0,
 RM 1 9 1,
 RM 2 10 2,
 RM 3 11 0,
 rq 4 12 (.len false (.tm 11)),
 rq 5 13 (.slc 3 (.tm 8) (some (.tm 9)) (some (.tm 10)) (some (.tm 12)))] 6 [0,1,2])
 (.seq (.seq (.region [RM 0 14 1,
 RM 1 15 2,
 rq 2 16 (.bin .eql (.tm 14) (.tm 15))] 3 [0,1,2,16])
 (.cond (.tm 16)
 (.seq (.region [RM 0 17 0,
 RM 1 6 17] 2 [6])
 .ret)
 .skip))
 (.seq (.region [RM 0 18 0,
 rq 1 19 (.len false (.tm 18)),
 RM 2 7 19] 3 [0,1,2,7])
 (.seq (.region [RM 0 20 0,
 RM 1 21 1,
 rq 2 22 (.slc 3 (.tm 20) none (some (.tm 21)) none),
 RM 3 23 0,
 RM 4 24 2,
 rq 5 25 (.slc 3 (.tm 23) (some (.tm 24)) none none),
 rq 6 26 (.append 3 (.tm 22) (.tm 25)),
 RM 7 0 26] 8 [0,7])
 (.seq (.region [RM 0 27 0,
 RM 1 28 0,
 rq 2 29 (.len false (.tm 28)),
 RM 3 30 7,
 rq 4 31 (.slc 3 (.tm 27) (some (.tm 29)) (some (.tm 30)) none),
 rn 5 (.xop (.clear 3 [VZ,VZ,VZ]) [(.tm 31)])] 6 [0])
 (.seq (.region [RM 0 32 0,
 RM 1 6 32] 2 [6])
 .ret)))))))
def r6:List Cert:=[⟨[],[0,1,2]⟩,⟨[],[0,1,2]⟩,⟨[],[0,1,2,16]⟩,⟨[],[6]⟩,⟨[],[0,1,2,7]⟩,⟨[cz 0,cz 1,cz 2,cz 3,cz 4,cz 5,cz 6,cz 7],[0,7]⟩,⟨[],[0]⟩,⟨[],[6]⟩]
def jV:List aW:=[.tm 6]
theorem sA:aO Tryz.prog Tryz.f201 r6=some (fW,jV):=by kernel_rfl
theorem rZ:aN Tryz.prog eA Tryz.f201 fW jV:=
 aN.mk Tryz.func201 (by kernel_rfl) sA
def mR:AC:=
 (.region [RM 0 8 0,
 RM 1 9 0,
 RK 2 10 9,
 RF 3 11 0 10,
 RL 4 12 11,
 RM 5 13 1,
 RM 6 14 2,
 RM 7 15 3,
 rq 8 16 (.build [VZ,VZ,VZ] [(0,1,(.tm 13)),(1,1,(.tm 14)),(2,1,(.tm 15))]),
 rq 9 17 (.bC 3 1 [VZ,VZ,VZ] [(0,3,(.tm 16))]),
 rq 10 18 (.append 3 (.tm 12) (.tm 17)),
 RK 11 19 8,
 RF 12 20 0 19,
 rn 13 (.store 1 false (.tm 20) (.tm 18))] 14 [])
def EZ:List Cert:=[⟨[],[]⟩]
def uC:List aW:=[]
theorem FN:aO Tryz.prog Tryz.f202 EZ=some (mR,uC):=by kernel_rfl
def mN:AC:=
 (.seq (.region [rq 0 5 (.box true (.tm 1)),
 rq 1 6 (.box false (.tm 2)),
 rq 2 7 (.box false (.tm 3)),
 rq 3 8 (.move (.kv (.bool false)))] 4 [0,5,6,7])
 (.seq (.region [RM 0 11 0,
 RK 1 12 11,
 RF 2 13 2 12,
 ⟨3,(some 14),.load 1 false (.tm 13),none,[7],[],false⟩,
 ⟨4,(some 15),.load 1 false (.tm 6),none,[7],[],false⟩,
 rq 5 16 (.idx 4 (.tm 14) (.tm 15)),
 ⟨6,(some 17),.load 4 true (.tm 16),none,[7],[],false⟩,
 rq 7 9 (.alloc [VZ,OZ,OZ,VZ]),
 rn 8 (.store 4 true (.tm 9) (.tm 17))] 9 [5,6,7,9])
 (.seq (.seq (.region [RF 0 18 1 9,
 RL 1 19 18,
 rq 2 20 (.len false (.tm 19)),
 rq 3 21 (.bin .eql (.tm 20) (ki 0)),
 RM 4 22 21,
 GQ 5 23 (.fld 2 (.tm 9)) 22 false,
 GQ 6 24 (.load 1 false (.tm 23)) 22 false,
 GQ 7 25 (.len false (.tm 24)) 22 false,
 GQ 8 26 (.bin .geq (.tm 25) (ki 4)) 22 false,
 rq 9 27 (.pick (.tm 22) (.kv (.bool true)) (.tm 26)),
 RM 10 28 27,
 GQ 11 29 (.fld 0 (.tm 5)) 28 false,
 GQ 12 30 (.load 1 false (.tm 29)) 28 false,
 GQ 13 31 (.fld 2 (.tm 5)) 28 false,
 GQ 14 32 (.load 1 false (.tm 31)) 28 false,
 GQ 15 33 (.load 1 false (.tm 6)) 28 false,
 GQ 16 34 (.idx 1 (.tm 32) (.tm 33)) 28 false,
 GQ 17 35 (.load 1 false (.tm 34)) 28 false,
 GQ 18 36 (.fld 1 (.tm 9)) 28 false,
 GQ 19 37 (.load 1 false (.tm 36)) 28 false,
 GQ 20 38 (.idx 1 (.tm 37) (ki 0)) 28 false,
 GQ 21 39 (.load 1 false (.tm 38)) 28 false,
 GQ 22 40 (.idx 7 (.tm 35) (.tm 39)) 28 false,
 GQ 23 41 (.load 7 true (.tm 40)) 28 false,
 ⟨25,(some 43),.load 1 false (.tm 7),(some (28,false)),[],[],true⟩,
 ⟨24,(some 42),.call rN [(.tm 30),(.tm 41)],(some (28,false)),[],[25],false⟩,
 GQ 26 44 (.bin .neq (.tm 42) (.tm 43)) 28 false,
 rq 27 45 (.pick (.tm 28) (.kv (.bool true)) (.tm 44))] 28 [5,6,7,9,45])
 (.cond (.tm 45)
 (.seq (.region [rq 0 8 (.move (.kv (.bool false)))] 1 [8])
 .ret)
 .skip))
 (.seq (.region [⟨0,(some 46),.load 3 true (.tm 5),none,[7],[],false⟩,
 ⟨1,(some 47),.load 1 false (.tm 6),none,[7],[],false⟩,
 RF 2 48 1 9,
 ⟨3,(some 49),.load 1 false (.tm 48),none,[7],[],false⟩,
 rq 4 50 (.idx 1 (.tm 49) (ki 0)),
 ⟨5,(some 51),.load 1 false (.tm 50),none,[7],[],false⟩,
 rq 7 10 (.alloc [VZ]),
 ⟨6,(some 52),.call fB [(.tm 46),(.tm 47),(.tm 51)],none,[7],[],false⟩,
 rn 8 (.store 1 false (.tm 10) (.tm 52))] 9 [5,6,7,9,10])
 (.seq (.region [RF 0 53 2 9,
 RL 1 54 53,
 rq 2 55 (.xop (.zI iW) [(.tm 5),(.tm 6),(.tm 10),(.tm 7)]),
 rq 3 56 (.call cM [(.tm 54),(.tm 55)]),
 rq 4 57 (.un .not (.tm 56)),
 RM 5 8 57] 6 [8])
 .ret)))))
def E1:List Cert:=[⟨[],[0,5,6,7]⟩,⟨[cz 0,cz 1,cz 2,(3,[7],[],false),(4,[7],[],false),cz 5,(6,[7],[],false),cz 7,cz 8],[5,6,7,9]⟩,⟨[cz 0,cz 1,cz 2,cz 3,cz 4,cz 5,cz 6,cz 7,cz 8,cz 9,cz 10,cz 11,cz 12,cz 13,cz 14,cz 15,cz 16,cz 17,cz 18,cz 19,cz 20,cz 21,cz 22,cz 23,(25,[],[],true),(24,[],[25],false),cz 26,cz 27],[5,6,7,9,45]⟩,⟨[],[8]⟩,⟨[(0,[7],[],false),(1,[7],[],false),cz 2,(3,[7],[],false),cz 4,(5,[7],[],false),cz 7,(6,[7],[],false),cz 8],[5,6,7,9,10]⟩,⟨[],[8]⟩]
def uD:List aW:=[.tm 8]
theorem FP:aO Tryz.prog Tryz.f203 E1=some (mN,uD):=by kernel_rfl
theorem FT:aN Tryz.prog j8 Tryz.f203 mN uD:=
 aN.mk Tryz.func203 (by kernel_rfl) FP
def dY:AC:=
 (.seq (.region [rq 0 4 (.move (.kv (.bool false)))] 1 [0,1])
 (.seq (.region [RM 0 5 0,
 RM 1 6 1,
 rq 2 7 (.call bZ [(.tm 5),(.tm 6)]),
 rq 3 8 (.bin .geq (.tm 7) (ki 0)),
 RM 4 4 8] 5 [4])
 .ret))
def nF:List Cert:=[⟨[],[0,1]⟩,⟨[],[4]⟩]
def gV:List aW:=[.tm 4]
theorem nB:aO Tryz.prog Tryz.f232 nF=some (dY,gV):=by kernel_rfl
theorem nD:aN Tryz.prog cM Tryz.f232 dY gV:=
 aN.mk Tryz.func232 (by kernel_rfl) nB
def kX:AC:=
 (.seq (.region [rq 0 5 (.box true (.tm 0)),
 rq 1 6 (.move (.kv (.bool false)))] 2 [1,2,3,4,5])
 (.seq (.region [rq 0 7 (.load 3 true (.tm 1)),
 RL 1 8 2,
 RF 2 9 1 5,
 RL 3 10 9,
 ⟨5,(some 12),.load 1 false (.tm 3),none,[],[],true⟩,
 ⟨4,(some 11),.call fB [(.tm 7),(.tm 8),(.tm 10)],none,[],[5],false⟩,
 rq 6 13 (.bin .eql (.tm 11) (.tm 12)),
 RM 7 14 13,
 GQ 8 15 (.fld 2 (.tm 5)) 14 true,
 GQ 9 16 (.load 1 false (.tm 15)) 14 true,
 GQ 10 17 (.load 1 false (.tm 4)) 14 true,
 GQ 11 18 (.bin .neq (.tm 16) (.tm 17)) 14 true,
 rq 12 19 (.pick (.tm 14) (.tm 18) (.kv (.bool false))),
 RM 13 6 19] 14 [6])
 .ret))
def DD:List Cert:=[⟨[],[1,2,3,4,5]⟩,⟨[cz 0,cz 1,cz 2,cz 3,(5,[],[],true),(4,[],[5],false),cz 6,cz 7,cz 8,cz 9,cz 10,cz 11,cz 12,cz 13],[6]⟩]
def qT:List aW:=[.tm 6]
theorem CK:aO Tryz.prog Tryz.f233 DD=some (kX,qT):=by kernel_rfl
theorem CY:aN Tryz.prog iW Tryz.f233 kX qT:=
 aN.mk Tryz.func233 (by kernel_rfl) CK
end Go.Proofs.YtegiblhkjfiooaaGreat
end
section
namespace Go.AM
open Go.RowKit
def aaS (e' e:Env):Prop:=∀t,e' t=e t∨e' t= .dead
theorem aaS.refl (e:Env):aaS e e:=fun _=>.inl rfl
theorem ER.le {c:Cf} {T:Nat} {e e':Env} {a:Act} (he:ER c T e a) (h:aaS e' e):ER c T e' a:=by
 refine⟨he.1,he.2.1,fun t=> ?_⟩
 rcases h t with h1|h1
 ·rw[h1];exact he.2.2 t
 ·rw[h1];exact trivial
section
variable {P : Program} {T : Nat} {e : Env} {H : aA} {nx : Nat} {Q : AQ}
theorem AWP.le {x:AC} {e':Env} (hE:aaS e' e) (h:AWP P T x e' H nx Q):AWP P T x e H nx Q:=
 fun code hc c a hs he hN=>h code hc c a hs (he.le hE) hN
theorem aM.le {x:AC} {zs:List AC} {e':Env} (hE:aaS e' e) (h:aM P T (x::zs) e' H nx Q):aM P T (x::zs) e H nx Q:=AWP.le hE h
theorem aB.ofH {f:FuncId} {fn:Func} {code:Code} {ac:AC} {rs:List aW} {cs cs':List Cert} {args:List D} {K:D→aA→Nat→Prop}
 (hok:qY P f=true) (hf:P.funcs[f]?=some fn) (hb:fn.body=some code) (hc:compile P fn.ntmps code cs=some (ac,cs')) (hr:AJ P fn.results.toList=some rs) (hl:args.length≤fn.ntmps)
 (h: ∀Q:AQ,(∀ex e' H' nx' d,ex= .normal∨ex= .ret→yT H' e' rs=some d→K d H' nx'→Q ex e' H' nx')→AWP P fn.ntmps ac (Env.args 0 args) H nx Q):aB P f args H nx K:=by
 refine⟨hok,fun c vs hs hN hlen hrel=> ?_⟩
 refine calls_of_wp hf hb ?_
 have hcm:=JA _ _ _ _ hc
 have her:ER c fn.ntmps (Env.args 0 args) {tmps:=vs.toArray++Array.replicate (fn.ntmps-vs.toArray.size) undef,defers:=[]}:=by
  refine⟨by simp;omega,rfl,fun t=> ?_⟩
  rw[Env.ML]
  simp only[Nat.zero_le,if_true,Nat.sub_zero]
  cases hd:args[t]? with
  |none=>exact trivial
  |some d=>
   have ht:t<vs.length:=by rw[hlen];exact(List.getElem?_eq_some_iff.1 hd).1
   have hv:(vs.toArray++Array.replicate (fn.ntmps-vs.toArray.size) undef).getD t undef=vs[t]:=by
    rw[Array.getD_eq_getD_getElem?,Array.getElem?_append]
    simp[ht]
   rw[hv]
   exact hrel t d _ hd (List.getElem?_eq_getElem ht)
 refine wp_mono (h _ (fun ex e' H' nx' d h1 h2 h4=>(⟨h1,d,h2,h4⟩:(ex= .normal∨ex= .ret)∧ ∃d,yT H' e' rs=some d∧K d H' nx')) code hcm c _ hs her hN) ?_
 rintro ex a w ⟨aex,e',H',nx',c',rfl,rfl,p1,p2,p3,p4,p5,p6,d,q1,q3⟩
 obtain⟨v,hv,hd⟩:=aa3 p1 p3 hr q1
 have hfin:a.defers=[]∧ ∃v,(results fn a.tmps).run P c'.w= .ok v c'.w∧ ∃v' c'' r H'' nx',Ending.returned v= .returned v'∧c''.w=c'.w∧St c'' H''∧Step c H c'' H''∧(∀i,c''.N i→c.N i∨(nx≤i∧i<nx'))∧nx≤nx'∧fD c'' r v'∧K r H'' nx':=
  ⟨p3.2.1,v,hv,v,c',d,H',nx',rfl,rfl,p1,p2,p4,p5,hd,q3⟩
 rcases p6 with rfl|rfl
 ·exact hfin
 ·exact hfin
def cJ (P:Program) (f:FuncId) (fn:Func) (ac:AC) (rs:List aW):Prop:=
 ∀{args:List D} {H:aA} {nx:Nat} {KK:D→aA→Nat→Prop} (_hl:Nat.ble args.length fn.ntmps=true)
  (_h: ∀Q:AQ,(∀ex e2 H2 nx2 d,ex= .normal∨ex= .ret→yT H2 e2 rs=some d→KK d H2 nx2→Q ex e2 H2 nx2)→aM P fn.ntmps [ac] (Env.args 0 args) H nx Q),aB P f args H nx KK
theorem cJ.mk {P:Program} {f:FuncId} {fn:Func} {ac:AC} {rs:List aW} {cs:List Cert}
 (hf:P.funcs[f]?=some fn) (hok:qY P f=true) (hc:aO P fn cs=some (ac,rs)):cJ P f fn ac rs:=by
 intro args H nx KK hl h
 unfold aO at hc
 split at hc
 ·rename_i b hb
  split at hc
  ·rename_i ac' cs' rs' h1 h2
   simp only[Option.some.injEq,Prod.mk.injEq] at hc
   obtain⟨rfl,rfl⟩:=hc
   exact aB.ofH hok hf hb h1 h2 (Nat.le_of_ble_eq_true hl) fun Q hQ=>(h Q hQ).run
  ·simp at hc
 ·simp at hc
end
def CvX (F:Nat→Prop) (nx:Nat) (H H':aA):Prop:=∀i o',H' i=some o'→¬F i∧ ∃o,H i=some o∧(o'=o∨CvO H F id nx o' o)
theorem MR {c:Cf} {nx:Nat} {I':Nat→Prop} (hI: ∀b,c.I b→I' b) (hN: ∀i,c.N i→i<nx) {d:D1} {x:Value} (h:Rel c d x):Rel (c.conv nx nx id I') d x:=by
 have h0: ∀d x,bY c d x→bY (c.conv nx nx id I') d x:=by
  intro d x h
  cases d<;>simp only[bY] at h ⊢ <;>first
   |exact h.wT hI (fun _ _=>rfl)
   |exact⟨h.1,h.2.imp (fun h=>h) fun⟨h1,h2,h3⟩=>⟨h1,.inl ⟨hN _ h2,h2⟩,h3⟩⟩
   |exact⟨.inl ⟨hN _ h.1,h.1⟩,h.2⟩
   |exact h
 cases d with
 |clo f caps=>obtain⟨vs,hx,hl,hf⟩:=h;exact⟨vs,hx,hl,fun i d u h1 h2=>h0 _ _ (hf i d u h1 h2)⟩
 |_=>simp only[Rel] at h ⊢;exact h0 _ _ h
theorem ac6 {c:Cf} {nx:Nat} {I':Nat→Prop} (hI: ∀b,c.I b→I' b) (hN: ∀i,c.N i→i<nx) {d:D} {x:Value} (h:fD c d x):fD (c.conv nx nx id I') d x:=by
 have hV: ∀d x,jZ c d x→jZ (c.conv nx nx id I') d x:=by
  intro d x h
  cases d with
  |c d=>exact MR hI hN h
  |agg cs=>obtain⟨vs,hx,hl,hf⟩:=h;exact⟨vs,hx,hl,fun i d u h1 h2=>MR hI hN (hf i d u h1 h2)⟩
 cases d with
 |one d=>exact hV d x h
 |tup ds=>obtain⟨vs,hx,hl,hf⟩:=h;exact⟨vs,hx,hl,fun i d u h1 h2=>hV d u (hf i d u h1 h2)⟩
 |dead=>trivial
theorem YO {c c0:Cf} {H H0 H':aA} {F:Nat→Prop} {nx:Nat} (hs:St c H) (hstep:Step c0 H0 c H) (hN: ∀i,c.N i→i<nx) (hH:CvX F nx H H'):
 St (c.conv nx nx id (c.frI H F)) H'∧Step c0 H0 (c.conv nx nx id (c.frI H F)) H':=by
 have hO: ∀{i:Nat} {o':bA},H' i=some o'→¬F i∧ ∃o,H i=some o∧o'.n=o.n∧o'.ext=o.ext∧o'.rows.length≤o.rows.length∧(o.n=0→o'.rows=[]→o.rows=[]):=by
  intro i o' h
  obtain⟨h1,o,h2,rfl|h3⟩:=hH i o' h
  ·exact⟨h1,_,h2,rfl,rfl,Nat.le_refl _,fun _ h=>h⟩
  ·exact⟨h1,o,h2,h3.1,h3.2.1,h3.2.2.1,h3.2.2.2.1⟩
 refine⟨?_,?_⟩
 ·refine {named:= ?_,wf:= ?_,blk:= ?_,cells:= ?_,sep:= ?_,imm:= ?_,old:= ?_}
  ·intro id o' h
   obtain⟨_,o,h2,_⟩:=hO h
   exact .inl ⟨hN _ (hs.named _ o h2),hs.named _ o h2⟩
  ·intro id o' h
   obtain⟨_,o,h2,rfl|⟨h3,h4,h5,_,h6⟩⟩:=hH id o' h
   ·exact hs.wf _ _ h2
   ·obtain⟨k1,k2⟩:=hs.wf _ o h2
    refine⟨by omega,fun i r hr=> ?_⟩
    obtain⟨r0,h7,h8⟩:=h6 i r hr
    rw[h8.1,k2 i r0 h7,h3]
  ·intro id o' h he
   obtain⟨_,o,h2,h3,h4,h5,h7⟩:=hO h
   exact(hs.blk _ o h2 (by omega)).arW h3 h4 fun h0=>⟨h7 h0,fun hr=>by rw[hr] at h5;exact List.length_eq_zero_iff.1 (by simpa using h5)⟩
  ·intro id o' i j r d h h1 h2
   obtain⟨_,o,k2,rfl|⟨k3,k4,k5,_,k6⟩⟩:=hH id o' h
   ·obtain⟨u,k9,k10⟩:=hs.cells _ _ i j r d k2 h1 h2
    exact⟨u,k9,MR (fun b h=>.inl h) hN k10⟩
   ·obtain⟨r0,k7,k8⟩:=k6 i r h1
    have hj:j<r0.length:=by rw[←k8.1];exact(List.getElem?_eq_some_iff.1 h2).1
    obtain⟨u,k9,k10⟩:=hs.cells _ o i j r0 _ k2 k7 (List.getElem?_eq_getElem hj)
    refine⟨u,by rw[k3];exact k9,?_⟩
    exact PM hs (fun b h=>.inl h) (fun id o h1 h2 h3=>.inr ⟨id,o,h1,h2,h3,rfl⟩) (fun _ _=>rfl) (k8.2 j d _ h2 (List.getElem?_eq_getElem hj)) k10
  ·intro i j o o' hi hj he he' hne
   obtain⟨_,o1,k2,k3,k4,_⟩:=hO hi
   obtain⟨_,o2,k6,k7,k8,_⟩:=hO hj
   exact hs.sep i j o1 o2 k2 k6 (by omega) (by omega) hne
  ·intro i o' h he
   obtain⟨hnF,o,h2,h3,h4,_⟩:=hO h
   rintro(hI|⟨id2,o2,k1,k2,k3,k4⟩)
   ·exact hs.imm _ o h2 (by omega) hI
   ·have hne:id2≠i:=by rintro rfl;exact hnF k1
    exact hs.sep id2 i o2 o k2 h2 k3 (by omega) hne k4
  ·rintro b (hI|⟨id2,o2,k1,k2,k3,rfl⟩)
   ·exact hs.old b hI
   ·exact(hs.blk id2 o2 k2 k3).lt
 ·exact {
   ρ:=fun i hid=>hstep.ρ i hid
   N:=fun i hid=>.inl ⟨hN i (hstep.N i hid),hstep.N i hid⟩
   I:=fun b hb=>.inl (hstep.I b hb)
   I':=by
    rintro b (hI|⟨id2,o2,k1,k2,k3,rfl⟩)
    ·exact hstep.I' b hI
    ·exact .inr (hstep.own _ ⟨id2,o2,k2,k3,rfl⟩)
   size:=hstep.size
   os:=hstep.os
   tape:=hstep.tape
   output:=hstep.output
   frame:=hstep.frame
   own:=by
    rintro b ⟨id,o',h,he,hb⟩
    obtain⟨_,o,h2,h3,h4,_⟩:=hO h
    exact hstep.own b ⟨id,o,h2,by omega,hb⟩}
theorem aK {nx:Nat} {H:aA}:CvX noF nx H H:=fun _ o h=>⟨fun h=>h,o,h,.inl rfl⟩
theorem aM.gP {P:Program} {T:Nat} {e:Env} {H:aA} {nx:Nat} {Q:AQ} {x:AC} {zs:List AC} {β:Type} (E:β→Env) (Φ:β→aA→Nat→Prop) (μ:β→Nat) (b0:β) (h0: ∃F H1,CvE H F id nx (E b0) e∧CvX F nx H H1∧Φ b0 H1 nx)
 (h: ∀b H1 nx1,nx≤nx1→Φ b H1 nx1→∀K:Env→aA→Nat→Prop,(∀e' H' nx' b' F H2,nx1≤nx'→μ b'<μ b→CvE H' F id nx' (E b') e'→CvX F nx' H' H2→Φ b' H2 nx'→K e' H' nx')→aM P T [x] (E b) H1 nx1 (AQ.then K Q)):aM P T (.loop x::zs) e H nx Q:=by
 intro code hc c a hs he hN
 obtain⟨F0,H0,g1,g2,g3⟩:=h0
 have hc0: ∀{c1:Cf} {H1 H2:aA} {nx1:Nat} {F:Nat→Prop} {e1 e2:Env} {a:Act},St c1 H1→Step c H c1 H1→(∀i,c1.N i→i<nx1)→ER c1 T e1 a→CvE H1 F id nx1 e2 e1→CvX F nx1 H1 H2→
  ∃c2:Cf,c2.w=c1.w∧St c2 H2∧Step c H c2 H2∧ER c2 T e2 a∧ ∀i,c2.N i→c1.N i:=by
  intro c1 H1 H2 nx1 F e1 e2 a k1 k2 k3 k4 k5 k6
  obtain⟨q1,q2⟩:=YO k1 k2 k3 k6
  refine⟨c1.conv nx1 nx1 id (c1.frI H1 F),rfl,q1,q2,⟨k4.1,k4.2.1,fun t=>zD k1 (fun b h=>.inl h) (fun id o h1 h2 h3=>.inr ⟨id,o,h1,h2,h3,rfl⟩) (fun _ _=>rfl) (k5 t) (k4.2.2 t)⟩,fun i hi=> ?_⟩
  rcases hi with⟨_,hi⟩|⟨h1,h2,h3⟩
  ·exact hi
  ·omega
 cases hc with
 |loop h1=>
  obtain⟨c1,r1,r2,r3,r4,r5⟩:=hc0 hs (Step.refl c H) hN he g1 g2
  refine wp_loop_ghost (fun n a w=>∃b c1 H1 nx1,μ b=n∧c1.w=w∧St c1 H1∧ER c1 T (E b) a∧Step c H c1 H1∧(∀i,c1.N i→c.N i∨(nx≤i∧i<nx1))∧nx≤nx1∧Φ b H1 nx1) (μ b0) ⟨b0,c1,H0,nx,rfl,r1,r2,r4,r3,fun i hi=>.inl (r5 i hi),Nat.le_refl _,g3⟩ ?_
  rintro n a w ⟨b,c1,H1,nx1,rfl,rfl,j1,j2,j3,j4,j5,j6⟩
  refine wp_mono (h b H1 nx1 j5 j6 (fun e' H' nx'=>∃b' F H2,nx1≤nx'∧μ b'<μ b∧CvE H' F id nx' (E b') e'∧CvX F nx' H' H2∧Φ b' H2 nx') (fun _ _ _ b' F H2 h1 h2 h3 h4 h5=>⟨b',F,H2,h1,h2,h3,h4,h5⟩) _ h1 c1 a j1 j2 fun i hi=> ?_) fun ex a' w' ⟨aex,e',H',nx',c',hp⟩=> ?_
  ·rcases j4 i hi with h|h
   ·have:=hN i h;omega
   ·omega
  ·obtain⟨rfl,rfl,p1,p2,p3,p4,p5,p6⟩:=hp
   have hNc: ∀i,c'.N i→c.N i∨(nx≤i∧i<nx'):=by
    intro i hi
    rcases p4 i hi with h|h
    ·rcases j4 i h with h|h
     ·exact .inl h
     ·exact .inr ⟨h.1,by omega⟩
    ·exact .inr ⟨by omega,h.2⟩
   cases aex with
   |normal=>
    obtain⟨b',F,H2,q1,q2,q3,q4,q5⟩:=p6
    obtain⟨c2,s1,s2,s3,s4,s5⟩:=hc0 p1 (j3.trans p2) (fun i hi=>by rcases hNc i hi with h|h;have:=hN i h;omega;exact h.2) p3 q3 q4
    exact⟨μ b',q2,b',c2,H2,nx',rfl,s1,s2,s4,s3,fun i hi=>hNc i (s5 i hi),by omega,q5⟩
   |exit id=>exact⟨.exit id,e',H',nx',c',rfl,rfl,p1,j3.trans p2,p3,hNc,by omega,p6⟩
   |ret=>exact⟨.ret,e',H',nx',c',rfl,rfl,p1,j3.trans p2,p3,hNc,by omega,p6⟩
theorem aB.tW {P:Program} {f:FuncId} {args:List D} {H:aA} {nx:Nat} {K:D→aA→Nat→Prop}
 (h:aB P f args H nx fun r H' n'=>∃r2 H2 F,CvD H' F id n' r2 r∧CvX F n' H' H2∧K r2 H2 n'):aB P f args H nx K:=by
 refine⟨h.1,fun c vs hs hN hl hr=> ?_⟩
 refine(h.2 c vs hs hN hl hr).mono ?_
 rintro x w' ⟨v,c2,r,H2,n2,rfl,rfl,p1,p2,p3,p4,p5,r2,H3,F,q1,q2,q3⟩
 have hN2: ∀i,c2.N i→i<n2:=fun i hi=>by
  rcases p3 i hi with h|h
  ·have:=hN i h;omega
  ·exact h.2
 obtain⟨k1,k2⟩:=YO p1 p2 hN2 q2
 refine⟨v,c2.conv n2 n2 id (c2.frI H2 F),r2,H3,n2,rfl,rfl,k1,k2,fun i hi=> ?_,p4,zD p1 (fun b h=>.inl h) (fun id o h1 h2 h3=>.inr ⟨id,o,h1,h2,h3,rfl⟩) (fun _ _=>rfl) q1 p5,q3⟩
 rcases hi with⟨_,hi⟩|⟨h1,h2,h3⟩
 ·exact p3 i hi
 ·omega
section
variable {P : Program} {T : Nat} {e : Env} {H : aA} {nx : Nat} {Q : AQ}
theorem AWP.tW {x:AC} (e':Env) (H':aA) (F:Nat→Prop) (hE: ∀t,e' t=e t∨CvD H F id nx (e' t) (e t)) (hH:CvX F nx H H') (h:AWP P T x e' H' nx Q):AWP P T x e H nx Q:=by
 intro code hc c a hs he hN
 obtain⟨k1,k2⟩:=YO hs (Step.refl c H) hN hH
 refine wp_mono (h code hc (c.conv nx nx id (c.frI H F)) a k1 ⟨he.1,he.2.1,fun t=> ?_⟩ fun i hi=> ?_) ?_
 ·rcases hE t with h1|h1
  ·rw[h1]
   exact ac6 (fun b h=>.inl h) hN (he.2.2 t)
  ·exact zD hs (fun b h=>.inl h) (fun id o h1 h2 h3=>.inr ⟨id,o,h1,h2,h3,rfl⟩) (fun _ _=>rfl) h1 (he.2.2 t)
 ·rcases hi with⟨_,hi⟩|⟨h1,h2,h3⟩
  ·exact hN i hi
  ·omega
 ·rintro ex a w ⟨aex,e',H',nx',c',rfl,rfl,p1,p2,p3,p4,p5,p6⟩
  refine⟨aex,e',H',nx',c',rfl,rfl,p1,k2.trans p2,p3,fun i hi=> ?_,p5,p6⟩
  rcases p4 i hi with h|h
  ·rcases h with⟨_,hi⟩|⟨h1,h2,h3⟩
   ·exact .inl hi
   ·omega
  ·exact .inr h
theorem aM.tW {x:AC} {zs:List AC} (e':Env) (H':aA) (F:Nat→Prop) (hE: ∀t,e' t=e t∨CvD H F id nx (e' t) (e t)) (hH:CvX F nx H H') (h:aM P T (x::zs) e' H' nx Q):aM P T (x::zs) e H nx Q:=AWP.tW e' H' F hE hH h
theorem AWP.BW {x:AC} (h:(∀i,nx≤i→H i=none)→AWP P T x e H nx Q):AWP P T x e H nx Q:=
 fun code hc c a hs he hN=>h (fun i hi=>by
  cases ho:H i with
  |none=>rfl
  |some o=>have:=hN i (hs.named i o ho);omega) code hc c a hs he hN
theorem aM.BW {x:AC} {zs:List AC} (h:(∀i,nx≤i→H i=none)→aM P T (x::zs) e H nx Q):aM P T (x::zs) e H nx Q:=AWP.BW h
theorem BV {b:Nat} {l:List Nat} {H:aA} (h: ∀i,nx≤i→H i=none) (hb:nx≤b):msk b l H=H:=by
 funext i
 simp only[msk]
 split
 ·rename_i hi
  obtain⟨j,_,rfl⟩:=List.mem_map.1 hi
  exact(h _ (by omega)).symm
 ·rfl
theorem umS {b i:Nat} {l:List Nat} {H G:aA} {o:bA}:dT b l (H.set i o) G=if i∈l.map (b+ ·) then (dT b l H G).set i o else dT b l H G:=by
 split
 ·rename_i h
  funext j;simp only[dT,aA.set]
  by_cases hj:j=i
  ·subst hj;simp only[h,if_true]
  ·simp only[hj,if_false]
 ·rename_i h
  funext j;simp only[dT,aA.set]
  by_cases hj:j=i
  ·subst hj;simp only[h,if_false]
  ·simp only[hj,if_false]
theorem umD {b i:Nat} {l:List Nat} {H G:aA}:dT b l (H.del i) G=if i∈l.map (b+ ·) then (dT b l H G).del i else dT b l H G:=by
 split
 ·rename_i h
  funext j;simp only[dT,aA.del]
  by_cases hj:j=i
  ·subst hj;simp only[h,if_true]
  ·simp only[hj,if_false]
 ·rename_i h
  funext j;simp only[dT,aA.del]
  by_cases hj:j=i
  ·subst hj;simp only[h,if_false]
  ·simp only[hj,if_false]
theorem umB {b:Nat} {l:List Nat} {G:aA}:dT b l G G=G:=by
 funext j;simp only[dT];split<;>rfl
end
end Go.AM
end
section
namespace Go.AM
end Go.AM
end
section
namespace Go.AM
structure Sam (k:Int) (s s':TSt):Prop where
 asked:s'.asked.getD k.toNat default=s.asked.getD k.toNat default
 wait: ∀n,(k,n)∈s'.wait.map key↔(k,n)∈s.wait.map key
 done: ∀n,(k,n)∈s'.done.map key↔(k,n)∈s.done.map key
theorem Sam.refl {k:Int} {s:TSt}:Sam k s s:=⟨rfl,fun _=>.rfl,fun _=>.rfl⟩
theorem Sam.symm {k:Int} {s s':TSt} (h:Sam k s s'):Sam k s' s:=⟨h.asked.symm,fun n=>(h.wait n).symm,fun n=>(h.done n).symm⟩
theorem Sam.trans {k:Int} {s s' s2:TSt} (h:Sam k s s') (h2:Sam k s' s2):Sam k s s2:=⟨h2.asked.trans h.asked,fun n=>(h2.wait n).trans (h.wait n),fun n=>(h2.done n).trans (h.done n)⟩
end Go.AM
end
section
namespace Go.AM
end Go.AM
end
section
namespace Go.AM
def kP (q:Req):List Int:=bE q.addr q.many q.wrap
def hB (br:Nat) (who:Int) (q:Req) (h:List Int):List Int:=if br=5 then iU h (kP q) else if br=3 then h.set (who*2+q.id).toNat q.addr else h
def u9 (a b:Req):Prop:=∀x∈kP a,x∉kP b
theorem u9.symm {a b:Req} (h:u9 a b):u9 b a:=fun x hx hy=>h x hy hx
def ajR (c:Cfg) (a b:Ev):Prop:=a.who≠b.who∧ ¬(a.kind=3∧b.kind=3)∧(a.kind=2→b.kind=2→u9 (bT c a.who a.n) (bT c b.who b.n))
instance {a b:Req}:Decidable (u9 a b):=by unfold u9;infer_instance
instance {c:Cfg} {a b:Ev}:Decidable (ajR c a b):=by unfold ajR;infer_instance
theorem SD: ∀{l l':List Job},kW l→kW l'→(∀x,x∈l↔x∈l')→l=l'
 | [],[],_,_,_=>rfl
 | [],y::l',_,_,hm=>by have:=(hm y).2 (by simp);cases this
 |x::l,[],_,_,hm=>by have:=(hm x).1 (by simp);cases this
 |x::l,y::l',h,h',hm=>by
  have irr: ∀z:Job,uL z z=false:=fun z=>by simp[uL]
  obtain⟨h1,h2⟩:=List.pairwise_cons.1 h
  obtain⟨h3,h4⟩:=List.pairwise_cons.1 h'
  have hxy:x=y:=by
   rcases List.mem_cons.1 ((hm x).1 (by simp)) with hx|hx
   ·exact hx
   ·rcases List.mem_cons.1 ((hm y).2 (by simp)) with hy|hy
    ·exact hy.symm
    ·have b1:=h3 x hx
     have b2:=h1 y hy
     rw[qL] at b1 b2
     omega
  subst hxy
  congr 1
  refine SD h2 h4 fun z=>⟨fun hz=> ?_,fun hz=> ?_⟩
  ·rcases List.mem_cons.1 ((hm z).1 (by simp[hz])) with he|he
   ·subst he;have:=h1 z hz;rw[irr] at this;cases this
   ·exact he
  ·rcases List.mem_cons.1 ((hm z).2 (by simp[hz])) with he|he
   ·subst he;have:=h3 z hz;rw[irr] at this;cases this
   ·exact he
end Go.AM
end
section
namespace Go.AM
theorem wW {c:Cfg} {s:TSt} {e:Ev} {l:List Ev}:runM c s (e::l)=runM c (lS c s e) l:=rfl
theorem ZL {c:Cfg} {s:TSt} {a b:List Ev}:runM c s (a++b)=runM c (runM c s a) b:=by simp[runM]
theorem xB {c:Cfg} {s:TSt} {e:Ev} {l:List Ev}:F9 c s (e::l)↔X6 c s e=0∧F9 c (lS c s e) l:=by
 constructor
 ·intro h
  refine⟨h 0 (by simp),fun k hk=> ?_⟩
  have:=h (k+1) (by simpa using hk)
  rwa [List.take_succ_cons,wW,List.getD_cons_succ] at this
 ·rintro⟨h1,h2⟩ k hk
  match k with
  |0=>exact h1
  |k+1=>
   rw[List.take_succ_cons,wW,List.getD_cons_succ]
   exact h2 k (by simpa using hk)
theorem WS {c:Cfg} {s:TSt} {a b:List Ev}:F9 c s (a++b)↔F9 c s a∧F9 c (runM c s a) b:=by
 induction a generalizing s with
 |nil=>simp[runM,pV]
 |cons e a ih=>rw[List.cons_append,xB,xB,ih,wW,and_assoc]
end Go.AM
end
section
namespace Go.AM
end Go.AM
end
section
namespace Go.AM
def InA (asked:List Int) (j:Job):Prop:=(0≤j.who∧j.who≤2)∧0≤j.n∧j.n<asked.getD j.who.toNat default
def as5 (c:Cfg) (j:Job):Prop:=pA j.rsp∧j.rsp.id=(bT c j.who j.n).id
theorem zG {l:List Job} (h:kW l):(l.map key).Nodup:=by
 refine List.pairwise_map.2 (h.imp ?_)
 intro a b hab he
 rw[qL] at hab
 simp only[key,Prod.mk.injEq] at he
 omega
theorem ZP {l:List Job} {who n:Int}:0≤bK (iM who n) l↔(who,n)∈l.map key:=by
 rw[cH,List.mem_map]
 refine⟨fun⟨x,hx,h⟩=>⟨x,hx,?_⟩,fun⟨x,hx,h⟩=>⟨x,hx,?_⟩⟩
 ·have:=of_decide_eq_true h;simp[key,this.1,this.2]
 ·simp only[key,Prod.mk.injEq] at h;exact decide_eq_true h
theorem BA.apart {c:Cfg} {s:TSt} (h:BA c s):(s.told.map key).Nodup∧(∀j∈s.told,key j∉s.wait.map key∧key j∉s.done.map key)∧(∀j∈s.done,key j∉s.wait.map key):=by
 have hn:=h.nodup
 unfold keys at hn
 rw[List.map_append,List.map_append,List.nodup_append,List.nodup_append] at hn
 obtain⟨⟨h1,h2,h3⟩,h4,h5⟩:=hn
 refine⟨h4,fun j hj=>⟨fun hm=> ?_,fun hm=> ?_⟩,fun j hj hm=> ?_⟩
 ·exact h5 _ (List.mem_append_left _ hm) _ (List.mem_map_of_mem hj) rfl
 ·exact h5 _ (List.mem_append_right _ hm) _ (List.mem_map_of_mem hj) rfl
 ·exact h3 _ hm _ (List.mem_map_of_mem hj) rfl
theorem BA.inA {c:Cfg} {s:TSt} (h:BA c s): ∀j∈s.wait++s.done++s.told,InA s.asked j:=fun j hj=>h.ab8 (key j) (List.mem_map_of_mem hj)
theorem aEA {l:List Int} {lo up:Int} (h: ∀i,i<l.length→lo≤l.getD i default∧l.getD i default≤up):All l lo up:=fun x hx=>by
 obtain⟨i,hi,rfl⟩:=List.mem_iff_getElem.1 hx
 simpa [List.getD,hi] using h i hi
theorem aj1 {l:List Int} {lo up:Int} (h:All l lo up) {i:Nat} (hi:i<l.length):lo≤l.getD i default∧l.getD i default≤up:=h _ (by simp[List.getD,hi])
theorem aKJ {α:Type} [Inhabited α] {l:List α} {P:α→Prop} (h: ∀i,i<l.length→P (l.getD i default)): ∀x∈l,P x:=fun x hx=>by
 obtain⟨i,hi,rfl⟩:=List.mem_iff_getElem.1 hx
 simpa [List.getD,hi] using h i hi
end Go.AM
end
section
namespace Go.AM
structure fC where
 who:Int
 n:Int
 left:Int
 deriving Inhabited,DecidableEq
structure fR where
 next:Int
 queue:List Int
 out:List fC
 last:Int
 deriving Inhabited,DecidableEq
structure nY where
 pipe:List fC
 done:List Job
 last:Int
 deriving Inhabited,DecidableEq
structure CSt where
 words:List Int
 holds:List Int
 bM:List fR
 dD:List nY
 told:List Job
 deriving Inhabited,DecidableEq
structure CIn where
 ready:List Bool
 n9:List Bool
 send:List Bool
 deriving Inhabited,DecidableEq
def gZ (m:List Rng) (q:Req):Int:=if bV m (bE q.addr q.many q.wrap)<0 then 3 else (m.getD (bV m (bE q.addr q.many q.wrap)).toNat default).K5
def aF (s:CSt) (k:Nat):fR:=s.bM.getD k default
def aL (s:CSt) (k:Nat):nY:=s.dD.getD k default
def jX (l:List Job):List Job:=l.foldl BM []
def jJ (s:CSt) (k:Nat):List Job:=(aF s k).queue.map fun n=>⟨k,n,oW⟩
def hJ (s:CSt) (k:Nat):List Job:=(aL s k).pipe.map fun j=>⟨j.who,j.n,oW⟩
def qU (s:CSt):List Job:=(List.range s.bM.length).flatMap (jJ s)++(List.range s.dD.length).flatMap (hJ s)
def uQ (s:CSt):List Job:=(List.range s.dD.length).flatMap fun k=>(aL s k).done
def cX (s:CSt):TSt:=⟨s.words,s.holds,s.bM.map (·.next),jX (qU s),jX (uQ s),s.told⟩
def B3 {α:Type} (l:List α) (k:Nat):List α:=l.take k++l.drop (k+1)
def isC (n:Int) (j:fC):Bool:=decide (j.n=n)
def PE (l:List fC) (n:Int):List fC:=B3 l (bK (isC n) l).toNat
inductive Mic where
 |tell (who st:Nat)
 |tick (st:Nat)
 |work (st:Nat)
 |adm (who st:Nat)
 |ask (who:Nat)
def HV (c:Cfg) (s:CSt) (who st:Nat):Prop:=0<(aF s who).queue.length∧(aF s who).out.length<4∧gZ c.map (bT c who ((aF s who).queue.getD 0 default))=st∧
 ∀j∈(aF s who).out,(bT c who j.n).id=(bT c who ((aF s who).queue.getD 0 default)).id→j.left=st
instance {c:Cfg} {s:CSt} {who st:Nat}:Decidable (HV c s who st):=by unfold HV;infer_instance
def EH (c:Cfg) (s:CSt):Mic→Prop
 | .tell who st=>who<3∧st<4∧0<(aL s st).done.length∧((aL s st).done.getD 0 default).who=who
 | .tick st=>st<4∧0<(aL s st).pipe.length∧0<((aL s st).pipe.getD 0 default).left
 | .work st=>st<4∧0<(aL s st).pipe.length∧ ¬0<((aL s st).pipe.getD 0 default).left∧(aL s st).done.length<2
 | .adm who st=>who<3∧st<4∧(aL s st).pipe.length<2∧HV c s who st
 | .ask who=>who<3∧(aF s who).queue.length<2∧(aF s who).next<(c.cP.getD who default).length
def iF (s:CSt) (st:Nat):Job:=(aL s st).done.getD 0 default
def bI (s:CSt) (st:Nat):fC:=(aL s st).pipe.getD 0 default
def jD (c:Cfg) (s:CSt) (st:Nat):(List Int×List Int)×Rsp:=doM c.map s.words s.holds (bI s st).who (bT c (bI s st).who (bI s st).n)
def aR (c:Cfg) (s:CSt):Mic→CSt
 | .tell who st=>{s with told:=s.told++[iF s st],dD:=s.dD.set st {aL s st with done:=(aL s st).done.drop 1},bM:=s.bM.set who {aF s who with out:=PE (aF s who).out (iF s st).n,last:=st}}
 | .tick st=>{s with dD:=s.dD.set st {aL s st with pipe:=(aL s st).pipe.set 0 {bI s st with left:=(bI s st).left-1}}}
 | .work st=>{s with words:=(jD c s st).1.1,holds:=(jD c s st).1.2,dD:=s.dD.set st {aL s st with pipe:=(aL s st).pipe.drop 1,done:=(aL s st).done++[⟨(bI s st).who,(bI s st).n,(jD c s st).2⟩]}}
 | .adm who st=>{s with bM:=s.bM.set who {aF s who with queue:=(aF s who).queue.drop 1,out:=(aF s who).out++[⟨who,(aF s who).queue.getD 0 default,st⟩]},dD:=s.dD.set st {aL s st with pipe:=(aL s st).pipe++[⟨who,(aF s who).queue.getD 0 default,c.lat.getD st default⟩],last:=who}}
 | .ask who=>{s with bM:=s.bM.set who {aF s who with queue:=(aF s who).queue++[(aF s who).next],next:=(aF s who).next+1}}
def y0 (s:CSt):Mic→List Ev
 | .tell who st=>[⟨3,who,(iF s st).n⟩]
 | .work st=>[⟨2,(bI s st).who,(bI s st).n⟩]
 | .ask who=>[⟨1,who,(aF s who).next⟩]
 |_=>[]
theorem fH (l:List Job):(jX l).Perm l:=by
 have h: ∀(l acc:List Job),(l.foldl BM acc).Perm (acc++l):=by
  intro l
  induction l with
  |nil=>intro acc;simp
  |cons x l ih=>
   intro acc
   simp only[List.foldl_cons]
   refine(ih _).trans ?_
   refine((nE acc x).append_right l).trans ?_
   simpa using List.perm_middle.symm
 simpa [jX] using h l []
theorem J9 {l:List Job} (hn:(l.map key).Nodup):kW (jX l):=by
 have h: ∀(l acc:List Job),kW acc→((acc++l).map key).Nodup→kW (l.foldl BM acc):=by
  intro l
  induction l with
  |nil=>intro acc hs _;exact hs
  |cons x l ih=>
   intro acc hs hn
   simp only[List.foldl_cons]
   have hp:(BM acc x++l).Perm (acc++x::l):=((nE acc x).append_right l).trans (by simpa using List.perm_middle.symm)
   refine ih _ (FW hs fun hm=> ?_) ((hp.map key).nodup_iff.2 hn)
   rw[List.map_append,List.nodup_append] at hn
   exact hn.2.2 _ hm (key x) (by simp) rfl
 exact h l [] List.Pairwise.nil (by simpa using hn)
theorem GN {l l':List Job} (hs:kW l') (hp:l.Perm l'):jX l=l':=
 SD (J9 ((hp.map key).nodup_iff.2 (zG hs))) hs fun x=>((fH l).trans hp).mem_iff
theorem aoD {β:Type} {n k:Nat} (hk:k<n): ∃a b:List Nat,List.range n=a++k::b∧ ∀f g:Nat→List β,(∀i,i≠k→f i=g i)→a.flatMap f=a.flatMap g∧b.flatMap f=b.flatMap g:=by
 obtain⟨a,b,h⟩:=List.append_of_mem (List.mem_range.2 hk)
 have hn:(List.range n).Nodup:=List.nodup_range
 rw[h,List.nodup_append] at hn
 obtain⟨h1,h2,h3⟩:=hn
 refine⟨a,b,h,fun f g hfg=>⟨?_,?_⟩⟩
 ·simp only[List.flatMap_def]
  congr 1
  exact List.map_congr_left fun i hi=>hfg i fun he=>h3 i hi k (by simp) he
 ·simp only[List.flatMap_def]
  congr 1
  exact List.map_congr_left fun i hi=>hfg i fun he=>(List.nodup_cons.1 h2).1 (he▸hi)
theorem tE {β:Type} [DecidableEq β] {n k:Nat} (hk:k<n) {f g:Nat→List β} (hfg: ∀i,i≠k→f i=g i) (z:β):((List.range n).flatMap f).count z+(g k).count z=((List.range n).flatMap g).count z+(f k).count z:=by
 obtain⟨a,b,h1,h2⟩:=aoD (β:=β) hk
 obtain⟨h3,h4⟩:=h2 f g hfg
 rw[h1]
 simp only[List.flatMap_append,List.flatMap_cons,List.count_append]
 rw[h3,h4]
 omega
end Go.AM
end
