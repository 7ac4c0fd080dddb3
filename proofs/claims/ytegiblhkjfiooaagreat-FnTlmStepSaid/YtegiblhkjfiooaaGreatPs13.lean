/- Texts laid together by a program: rules, contracts and the walk that leads to the law. -/
import Derived.Test.YtegiblhkjfiooaaGreatPs3
set_option linter.unusedVariables false
set_option linter.unusedSimpArgs false
set_option linter.unusedSectionVars false
section
namespace Go.Proofs.YtegiblhkjfiooaaGreat
open Go Go.AM
set_option maxRecDepth 100000
def aXR:AC:=
 (.seq (.region [rq 0 3 (.box true (.tm 0)),
 rq 1 4 (.box true (.tm 1)),
 rq 2 5 (.box true (.tm 2)),
 rq 3 6 (.alloc [OZ,OZ,OZ,OZ,OZ,OZ]),
 rq 4 7 (.move (.kv (.bool false)))] 5 [3,4,5,6])
 (.seq (.seq (.region [rq 0 10 (.load 3 true (.tm 3)),
 rq 1 11 (.load 6 true (.tm 4)),
 rq 2 12 (.call aI6 [(.tm 10),(.tm 11)]),
 rq 3 13 (.un .not (.tm 12))] 4 [3,4,5,6,13])
 (.cond (.tm 13)
 (.seq (.region [rq 0 14 (.build [OZ,OZ,OZ,OZ,OZ,OZ] []),
 rn 1 (.store 6 true (.tm 6) (.tm 14)),
 rq 2 7 (.move (.kv (.bool false)))] 3 [6,7])
 .ret)
 .skip))
 (.seq (.region [⟨0,(some 16),.load 3 true (.tm 3),none,[8],[],true⟩,
 ⟨1,(some 17),.load 6 true (.tm 4),none,[8],[],false⟩,
 ⟨3,(some 19),.load 3 true (.tm 5),none,[8],[],true⟩,
 rq 8 8 (.alloc [OZ,OZ,OZ,OZ,OZ,OZ]),
 ⟨2,(some 18),.call aI0 [(.tm 17)],none,[8],[0,3],false⟩,
 ⟨4,(some 20),.call v5 [(.tm 16),(.tm 18),(.tm 19)],none,[8],[],false⟩,
 RM 5 15 20,
 rq 6 21 (.ext (.tm 15) 0),
 rq 7 22 (.ext (.tm 15) 1),
 rn 9 (.store 6 true (.tm 8) (.tm 21)),
 RM 10 9 22] 11 [6,8,9])
 (.seq (.region [rq 0 23 (.load 6 true (.tm 8)),
 rq 1 24 (.call aI0 [(.tm 23)]),
 RM 2 25 9,
 rn 3 (.store 6 true (.tm 6) (.tm 24)),
 RM 4 7 25] 5 [6,7])
 .ret))))
def aX6:List Cert:=[⟨[],[3,4,5,6]⟩,⟨[],[3,4,5,6,13]⟩,⟨[],[6,7]⟩,⟨[(0,[8],[],true),(1,[8],[],false),(3,[8],[],true),cz 8,(2,[8],[0,3],false),(4,[8],[],false),cz 5,cz 6,cz 7,cz 9,cz 10],[6,8,9]⟩,⟨[],[6,7]⟩]
def aXT:List aW:=[.cell 6 6 true,.tm 7]
theorem aXW:aO Tryz.prog Tryz.f48 aX6=some (aXR,aXT):=by kernel_rfl
theorem aX7:aN Tryz.prog aXQ Tryz.f48 aXR aXT:=
 aN.mk Tryz.func48 (by kernel_rfl) aXW
def aJP:AC:=
 (.seq (.region [rq 0 2 (.box true (.tm 0)),
 rq 1 3 (.box true (.tm 1)),
 rq 2 4 (.move (.kv (.bool false)))] 3 [2,3])
 (.seq (.seq (.region [rq 0 9 (.load 3 true (.tm 2)),
 rq 1 10 (.call aIV [(.tm 9)]),
 rq 2 11 (.un .not (.tm 10)),
 RM 3 12 11,
 GQ 4 13 (.fld 0 (.tm 3)) 12 false,
 GQ 5 14 (.load 2 true (.tm 13)) 12 false,
 GQ 6 15 (.call aIU [(.tm 14)]) 12 false,
 GQ 7 16 (.un .not (.tm 15)) 12 false,
 rq 8 17 (.pick (.tm 12) (.kv (.bool true)) (.tm 16)),
 RM 9 18 17,
 GQ 10 19 (.fld 2 (.tm 3)) 18 false,
 GQ 11 20 (.load 1 false (.tm 19)) 18 false,
 GQ 12 21 (.len false (.tm 20)) 18 false,
 GQ 13 22 (.bin .neq (.tm 21) (ki 3)) 18 false,
 rq 14 23 (.pick (.tm 18) (.kv (.bool true)) (.tm 22))] 15 [2,3,23])
 (.cond (.tm 23)
 (.seq (.region [rq 0 4 (.move (.kv (.bool false)))] 1 [4])
 .ret)
 .skip))
 (.seq (.region [rq 0 5 (.move (ki 0))] 1 [2,3,5])
 (.seq (.seq (.region [rq 0 6 (.move (ki 0))] 1 [2,3,5,6])
 (.block 0
 (.loop
 (.seq (.seq (.region [RM 0 24 6,
 rq 1 25 (.bin .lss (.tm 24) (ki 3))] 2 [2,3,5,6,25])
 (.cond (.tm 25)
 .skip
 (.exit 0)))
 (.seq (.block 1
 (.seq (.seq (.region [RF 0 28 2 3,
 RL 1 29 28,
 RM 2 30 6,
 rq 3 31 (.idx 1 (.tm 29) (.tm 30)),
 RL 4 32 31,
 RF 5 33 2 2,
 RL 6 34 33,
 RM 7 35 6,
 rq 8 36 (.idx 1 (.tm 34) (.tm 35)),
 RL 9 37 36,
 rq 10 38 (.len false (.tm 37)),
 rq 11 39 (.call y2 [(.tm 32),(ki 0),(.tm 38)]),
 rq 12 40 (.un .not (.tm 39))] 13 [2,3,5,6,40])
 (.cond (.tm 40)
 (.seq (.region [rq 0 4 (.move (.kv (.bool false)))] 1 [4])
 .ret)
 .skip))
 (.region [RM 0 41 5,
 RF 1 42 2 3,
 RL 2 43 42,
 RM 3 44 6,
 rq 4 45 (.idx 1 (.tm 43) (.tm 44)),
 RL 5 46 45,
 rq 6 47 (.bin .add (.tm 41) (.tm 46)),
 RM 7 5 47] 8 [2,3,5,6])))
 (.region [RM 0 26 6,
 rq 1 27 (.bin .add (.tm 26) (ki 1)),
 RM 2 6 27] 3 [2,3,5,6]))))))
 (.seq (.seq (.region [rq 0 48 (.load 3 true (.tm 2)),
 RF 1 49 2 3,
 RL 2 50 49,
 RF 3 51 3 3,
 RL 4 52 51,
 rq 5 53 (.call aIQ [(.tm 48),(.tm 50),(.tm 52),(.kv (.bool false))]),
 rq 6 54 (.un .not (.tm 53)),
 RM 7 55 54,
 GQ 8 56 (.load 3 true (.tm 2)) 55 false,
 GQ 9 57 (.fld 2 (.tm 3)) 55 false,
 GQ 10 58 (.load 1 false (.tm 57)) 55 false,
 GQ 11 59 (.fld 4 (.tm 3)) 55 false,
 GQ 12 60 (.load 1 false (.tm 59)) 55 false,
 GQ 13 61 (.call aIQ [(.tm 56),(.tm 58),(.tm 60),(.kv (.bool true))]) 55 false,
 GQ 14 62 (.un .not (.tm 61)) 55 false,
 rq 15 63 (.pick (.tm 55) (.kv (.bool true)) (.tm 62)),
 RM 16 64 63,
 GQ 17 65 (.load 3 true (.tm 2)) 64 false,
 GQ 18 66 (.load 6 true (.tm 3)) 64 false,
 GQ 19 67 (.call aIX [(.tm 65),(.tm 66)]) 64 false,
 GQ 20 68 (.un .not (.tm 67)) 64 false,
 rq 21 69 (.pick (.tm 64) (.kv (.bool true)) (.tm 68)),
 RM 22 70 69,
 GQ 23 71 (.fld 3 (.tm 3)) 70 false,
 GQ 24 72 (.load 1 false (.tm 71)) 70 false,
 GQ 25 73 (.len false (.tm 72)) 70 false,
 GQ 26 74 (.fld 4 (.tm 3)) 70 false,
 GQ 27 75 (.load 1 false (.tm 74)) 70 false,
 GQ 28 76 (.len false (.tm 75)) 70 false,
 GQ 29 77 (.bin .add (.tm 73) (.tm 76)) 70 false,
 GQ 30 78 (.fld 5 (.tm 3)) 70 false,
 GQ 31 79 (.load 1 false (.tm 78)) 70 false,
 GQ 32 80 (.len false (.tm 79)) 70 false,
 GQ 33 81 (.bin .add (.tm 77) (.tm 80)) 70 false,
 GQ 34 82 (.move (.tm 5)) 70 false,
 GQ 35 83 (.bin .neq (.tm 81) (.tm 82)) 70 false,
 rq 36 84 (.pick (.tm 70) (.kv (.bool true)) (.tm 83))] 37 [3,84])
 (.cond (.tm 84)
 (.seq (.region [rq 0 4 (.move (.kv (.bool false)))] 1 [4])
 .ret)
 .skip))
 (.seq (.seq (.region [rq 0 7 (.move (ki 0))] 1 [3,7])
 (.block 2
 (.loop
 (.seq (.seq (.region [RM 0 85 7,
 RF 1 86 5 3,
 RL 2 87 86,
 rq 3 88 (.len false (.tm 87)),
 rq 4 89 (.bin .lss (.tm 85) (.tm 88))] 5 [3,7,89])
 (.cond (.tm 89)
 .skip
 (.exit 2)))
 (.seq (.block 3
 (.seq (.region [RF 0 92 3 3,
 RL 1 93 92,
 RF 2 94 5 3,
 RL 3 95 94,
 RM 4 96 7,
 rq 5 97 (.idx 5 (.tm 95) (.tm 96)),
 RF 6 98 0 97,
 RL 7 99 98,
 RF 8 100 5 3,
 RL 9 101 100,
 RM 10 102 7,
 rq 11 103 (.idx 5 (.tm 101) (.tm 102)),
 RF 12 104 1 103,
 RL 13 105 104,
 rq 14 106 (.call aIN [(.tm 93),(.tm 99),(.tm 105)]),
 rq 15 107 (.bin .geq (.tm 106) (ki 0)),
 RM 16 108 107,
 GQ 17 109 (.fld 4 (.tm 3)) 108 false,
 GQ 18 110 (.load 1 false (.tm 109)) 108 false,
 GQ 19 111 (.fld 5 (.tm 3)) 108 false,
 GQ 20 112 (.load 1 false (.tm 111)) 108 false,
 GQ 21 113 (.move (.tm 7)) 108 false,
 GQ 22 114 (.idx 5 (.tm 112) (.tm 113)) 108 false,
 GQ 23 115 (.fld 0 (.tm 114)) 108 false,
 GQ 24 116 (.load 1 false (.tm 115)) 108 false,
 GQ 25 117 (.fld 5 (.tm 3)) 108 false,
 GQ 26 118 (.load 1 false (.tm 117)) 108 false,
 GQ 27 119 (.move (.tm 7)) 108 false,
 GQ 28 120 (.idx 5 (.tm 118) (.tm 119)) 108 false,
 GQ 29 121 (.fld 1 (.tm 120)) 108 false,
 GQ 30 122 (.load 1 false (.tm 121)) 108 false,
 GQ 31 123 (.call aIN [(.tm 110),(.tm 116),(.tm 122)]) 108 false,
 GQ 32 124 (.bin .geq (.tm 123) (ki 0)) 108 false,
 rq 33 125 (.pick (.tm 108) (.kv (.bool true)) (.tm 124))] 34 [3,7,125])
 (.cond (.tm 125)
 (.seq (.region [rq 0 4 (.move (.kv (.bool false)))] 1 [4])
 .ret)
 .skip)))
 (.region [RM 0 90 7,
 rq 1 91 (.bin .add (.tm 90) (ki 1)),
 RM 2 7 91] 3 [3,7]))))))
 (.seq (.seq (.region [rq 0 8 (.move (ki 0))] 1 [3,8])
 (.block 4
 (.loop
 (.seq (.seq (.region [RM 0 126 8,
 RF 1 127 4 3,
 RL 2 128 127,
 rq 3 129 (.len false (.tm 128)),
 rq 4 130 (.bin .lss (.tm 126) (.tm 129))] 5 [3,8,130])
 (.cond (.tm 130)
 .skip
 (.exit 4)))
 (.seq (.block 5
 (.seq (.region [RF 0 133 3 3,
 RL 1 134 133,
 RF 2 135 4 3,
 RL 3 136 135,
 RM 4 137 8,
 rq 5 138 (.idx 5 (.tm 136) (.tm 137)),
 RF 6 139 0 138,
 RL 7 140 139,
 RF 8 141 4 3,
 RL 9 142 141,
 RM 10 143 8,
 rq 11 144 (.idx 5 (.tm 142) (.tm 143)),
 RF 12 145 1 144,
 RL 13 146 145,
 rq 14 147 (.call aIN [(.tm 134),(.tm 140),(.tm 146)]),
 rq 15 148 (.bin .geq (.tm 147) (ki 0))] 16 [3,8,148])
 (.cond (.tm 148)
 (.seq (.region [rq 0 4 (.move (.kv (.bool false)))] 1 [4])
 .ret)
 .skip)))
 (.region [RM 0 131 8,
 rq 1 132 (.bin .add (.tm 131) (ki 1)),
 RM 2 8 132] 3 [3,8]))))))
 (.seq (.region [rq 0 4 (.move (.kv (.bool true)))] 1 [4])
 .ret))))))))
def aMI:List Cert:=[⟨[],[2,3]⟩,⟨[],[2,3,23]⟩,⟨[],[4]⟩,⟨[],[2,3,5]⟩,⟨[],[2,3,5,6]⟩,⟨[],[2,3,5,6,25]⟩,⟨[cz 0,cz 1,cz 2,cz 3,cz 4,cz 5,cz 6,cz 7,cz 8,cz 9,cz 10,cz 11,cz 12],[2,3,5,6,40]⟩,⟨[],[4]⟩,⟨[],[2,3,5,6]⟩,⟨[],[2,3,5,6]⟩,⟨[],[3,84]⟩,⟨[],[4]⟩,⟨[],[3,7]⟩,⟨[],[3,7,89]⟩,⟨[cz 0,cz 1,cz 2,cz 3,cz 4,cz 5,cz 6,cz 7,cz 8,cz 9,cz 10,cz 11,cz 12,cz 13,cz 14,cz 15,cz 16,cz 17,cz 18,cz 19,cz 20,cz 21,cz 22,cz 23,cz 24,cz 25,cz 26,cz 27,cz 28,cz 29,cz 30,cz 31,cz 32,cz 33],[3,7,125]⟩,⟨[],[4]⟩,⟨[],[3,7]⟩,⟨[],[3,8]⟩,⟨[],[3,8,130]⟩,⟨[cz 0,cz 1,cz 2,cz 3,cz 4,cz 5,cz 6,cz 7,cz 8,cz 9,cz 10,cz 11,cz 12,cz 13,cz 14,cz 15],[3,8,148]⟩,⟨[],[4]⟩,⟨[],[3,8]⟩,⟨[],[4]⟩]
def aKC:List aW:=[.tm 4]
theorem aMJ:aO Tryz.prog Tryz.f50 aMI=some (aJP,aKC):=by kernel_rfl
theorem aMM:aN Tryz.prog aI6 Tryz.f50 aJP aKC:=
 aN.mk Tryz.func50 (by kernel_rfl) aMJ
def aI9:AC:=
 (.seq (.region [rq 0 4 (.box true (.tm 0)),
 rq 1 8 (.move (.kv (.bool false)))] 2 [1,2,3,4])
 (.seq (.seq (.region [rq 0 9 (.move (ki 0))] 1 [1,2,3,4,9])
 (.block 0
 (.loop
 (.seq (.seq (.region [RM 0 11 9,
 RM 1 12 2,
 rq 2 13 (.len false (.tm 12)),
 rq 3 14 (.bin .lss (.tm 11) (.tm 13))] 4 [1,2,3,4,9,14])
 (.cond (.tm 14)
 .skip
 (.exit 0)))
 (.seq (.block 1
 (.seq (.region [RM 0 17 2,
 RM 1 18 9,
 rq 2 19 (.idx 5 (.tm 17) (.tm 18)),
 rq 3 20 (.load 5 true (.tm 19)),
 rq 4 10 (.alloc [VZ,VZ,VZ,VZ,OZ]),
 rn 5 (.store 5 true (.tm 10) (.tm 20))] 6 [1,2,3,4,9,10])
 (.seq (.seq (.region [RF 0 21 0 10,
 RL 1 22 21,
 rq 2 23 (.call y2 [(.tm 22),(ki 0),(ki 2)]),
 rq 3 24 (.un .not (.tm 23)),
 RM 4 25 24,
 GQ 5 26 (.fld 1 (.tm 10)) 25 false,
 GQ 6 27 (.load 1 false (.tm 26)) 25 false,
 GQ 7 28 (.move (.tm 1)) 25 false,
 GQ 8 29 (.fld 0 (.tm 10)) 25 false,
 GQ 9 30 (.load 1 false (.tm 29)) 25 false,
 GQ 10 31 (.idx 1 (.tm 28) (.tm 30)) 25 false,
 GQ 11 32 (.load 1 false (.tm 31)) 25 false,
 GQ 12 33 (.bin .sub (.tm 32) (ki 1)) 25 false,
 GQ 13 34 (.call y2 [(.tm 27),(ki 0),(.tm 33)]) 25 false,
 GQ 14 35 (.un .not (.tm 34)) 25 false,
 rq 15 36 (.pick (.tm 25) (.kv (.bool true)) (.tm 35)),
 RM 16 37 36,
 GQ 17 38 (.move (.tm 9)) 37 false,
 GQ 18 39 (.bin .gtr (.tm 38) (ki 0)) 37 false,
 GQ 19 40 (.move (.tm 39)) 37 false,
 GQ 20 41 (.move (.tm 2)) 40 true,
 GQ 21 42 (.move (.tm 9)) 40 true,
 GQ 22 43 (.bin .sub (.tm 42) (ki 1)) 40 true,
 GQ 23 44 (.idx 5 (.tm 41) (.tm 43)) 40 true,
 GQ 24 45 (.load 5 true (.tm 44)) 40 true,
 GQ 25 46 (.load 5 true (.tm 10)) 40 true,
 GQ 26 47 (.call aKL [(.tm 45),(.tm 46)]) 40 true,
 GQ 27 48 (.un .not (.tm 47)) 40 true,
 GQ 28 49 (.pick (.tm 40) (.tm 48) (.kv (.bool false))) 37 false,
 rq 29 50 (.pick (.tm 37) (.kv (.bool true)) (.tm 49))] 30 [1,2,3,4,9,10,50])
 (.cond (.tm 50)
 (.seq (.region [rq 0 8 (.move (.kv (.bool false)))] 1 [8])
 .ret)
 .skip))
 (.seq (.region [RM 0 51 3,
 RM 1 52 51,
 GQ 2 53 (.fld 2 (.tm 10)) 52 true,
 GQ 3 54 (.load 3 true (.tm 53)) 52 true,
 GQ 4 55 (.call aIP [(.tm 54)]) 52 true,
 GQ 5 56 (.un .not (.tm 55)) 52 true,
 GQ 6 57 (.move (.tm 56)) 52 true,
 GQ 7 58 (.fld 2 (.tm 10)) 57 false,
 GQ 8 59 (.fld 0 (.tm 58)) 57 false,
 GQ 9 60 (.load 1 false (.tm 59)) 57 false,
 GQ 10 61 (.fld 2 (.tm 4)) 57 false,
 GQ 11 62 (.load 1 false (.tm 61)) 57 false,
 GQ 12 63 (.fld 0 (.tm 10)) 57 false,
 GQ 13 64 (.load 1 false (.tm 63)) 57 false,
 GQ 14 65 (.idx 1 (.tm 62) (.tm 64)) 57 false,
 GQ 15 66 (.load 1 false (.tm 65)) 57 false,
 GQ 16 67 (.fld 1 (.tm 10)) 57 false,
 GQ 17 68 (.load 1 false (.tm 67)) 57 false,
 GQ 18 69 (.idx 7 (.tm 66) (.tm 68)) 57 false,
 GQ 19 70 (.fld 0 (.tm 69)) 57 false,
 GQ 20 71 (.load 1 false (.tm 70)) 57 false,
 GQ 21 72 (.bin .neq (.tm 60) (.tm 71)) 57 false,
 GQ 22 73 (.pick (.tm 57) (.kv (.bool true)) (.tm 72)) 52 true,
 rq 23 74 (.pick (.tm 52) (.tm 73) (.kv (.bool false))),
 RM 24 75 74,
 GQ 25 76 (.move (.tm 3)) 75 false,
 GQ 26 77 (.un .not (.tm 76)) 75 false,
 GQ 27 78 (.move (.tm 77)) 75 false,
 GQ 28 79 (.fld 2 (.tm 10)) 78 true,
 GQ 29 80 (.fld 0 (.tm 79)) 78 true,
 GQ 30 81 (.load 1 false (.tm 80)) 78 true,
 GQ 31 82 (.bin .neq (.tm 81) (ki 0)) 78 true,
 GQ 32 83 (.move (.tm 82)) 78 true,
 GQ 33 84 (.fld 2 (.tm 10)) 83 false,
 GQ 34 85 (.fld 1 (.tm 84)) 83 false,
 GQ 35 86 (.load 1 false (.tm 85)) 83 false,
 GQ 36 87 (.bin .neq (.tm 86) (ki 0)) 83 false,
 GQ 37 88 (.pick (.tm 83) (.kv (.bool true)) (.tm 87)) 78 true,
 GQ 38 89 (.move (.tm 88)) 78 true,
 GQ 39 90 (.fld 2 (.tm 10)) 89 false,
 GQ 40 91 (.fld 2 (.tm 90)) 89 false,
 GQ 41 92 (.load 1 false (.tm 91)) 89 false,
 GQ 42 93 (.len false (.tm 92)) 89 false,
 GQ 43 94 (.bin .neq (.tm 93) (ki 0)) 89 false,
 GQ 44 95 (.pick (.tm 89) (.kv (.bool true)) (.tm 94)) 78 true,
 GQ 45 96 (.pick (.tm 78) (.tm 95) (.kv (.bool false))) 75 false,
 rq 46 97 (.pick (.tm 75) (.kv (.bool true)) (.tm 96))] 47 [1,2,3,4,9,97])
 (.cond (.tm 97)
 (.seq (.region [rq 0 8 (.move (.kv (.bool false)))] 1 [8])
 .ret)
 .skip)))))
 (.region [RM 0 15 9,
 rq 1 16 (.bin .add (.tm 15) (ki 1)),
 RM 2 9 16] 3 [1,2,3,4,9]))))))
 (.seq (.region [rq 0 8 (.move (.kv (.bool true)))] 1 [8])
 .ret)))
def aLC:List Cert:=[⟨[],[1,2,3,4]⟩,⟨[],[1,2,3,4,9]⟩,⟨[],[1,2,3,4,9,14]⟩,⟨[],[1,2,3,4,9,10]⟩,⟨[cz 0,cz 1,cz 2,cz 3,cz 4,cz 5,cz 6,cz 7,cz 8,cz 9,cz 10,cz 11,cz 12,cz 13,cz 14,cz 15,cz 16,cz 17,cz 18,cz 19,cz 20,cz 21,cz 22,cz 23,cz 24,cz 25,cz 26,cz 27,cz 28,cz 29],[1,2,3,4,9,10,50]⟩,⟨[],[8]⟩,⟨[cz 0,cz 1,cz 2,cz 3,cz 4,cz 5,cz 6,cz 7,cz 8,cz 9,cz 10,cz 11,cz 12,cz 13,cz 14,cz 15,cz 16,cz 17,cz 18,cz 19,cz 20,cz 21,cz 22,cz 23,cz 24,cz 25,cz 26,cz 27,cz 28,cz 29,cz 30,cz 31,cz 32,cz 33,cz 34,cz 35,cz 36,cz 37,cz 38,cz 39,cz 40,cz 41,cz 42,cz 43,cz 44,cz 45,cz 46],[1,2,3,4,9,97]⟩,⟨[],[8]⟩,⟨[],[1,2,3,4,9]⟩,⟨[],[8]⟩]
def aJ1:List aW:=[.tm 8]
theorem aKV:aO Tryz.prog Tryz.f102 aLC=some (aI9,aJ1):=by kernel_rfl
theorem aKZ:aN Tryz.prog aIQ Tryz.f102 aI9 aJ1:=
 aN.mk Tryz.func102 (by kernel_rfl) aKV
def aJD:AC:=
 (.seq (.region [rq 0 2 (.box true (.tm 0)),
 rq 1 3 (.box true (.tm 1)),
 rq 2 4 (.move (.kv (.bool false)))] 3 [2,3])
 (.seq (.seq (.region [rq 0 5 (.move (ki 0))] 1 [2,3,5])
 (.block 0
 (.loop
 (.seq (.seq (.region [RM 0 7 5,
 RF 1 8 5 3,
 RL 2 9 8,
 rq 3 10 (.len false (.tm 9)),
 rq 4 11 (.bin .lss (.tm 7) (.tm 10))] 5 [2,3,5,11])
 (.cond (.tm 11)
 .skip
 (.exit 0)))
 (.seq (.block 1
 (.seq (.region [RF 0 14 5 3,
 RL 1 15 14,
 RM 2 16 5,
 rq 3 17 (.idx 5 (.tm 15) (.tm 16)),
 rq 4 18 (.load 5 true (.tm 17)),
 rq 5 6 (.alloc [VZ,VZ,VZ,VZ,OZ]),
 rn 6 (.store 5 true (.tm 6) (.tm 18))] 7 [2,3,5,6])
 (.seq (.region [RF 0 19 0 6,
 RL 1 20 19,
 rq 2 21 (.call y2 [(.tm 20),(ki 0),(ki 2)]),
 rq 3 22 (.un .not (.tm 21)),
 RM 4 23 22,
 GQ 5 24 (.fld 1 (.tm 6)) 23 false,
 GQ 6 25 (.load 1 false (.tm 24)) 23 false,
 GQ 7 26 (.fld 2 (.tm 3)) 23 false,
 GQ 8 27 (.load 1 false (.tm 26)) 23 false,
 GQ 9 28 (.fld 0 (.tm 6)) 23 false,
 GQ 10 29 (.load 1 false (.tm 28)) 23 false,
 GQ 11 30 (.idx 1 (.tm 27) (.tm 29)) 23 false,
 GQ 12 31 (.load 1 false (.tm 30)) 23 false,
 GQ 13 32 (.bin .sub (.tm 31) (ki 1)) 23 false,
 GQ 14 33 (.call y2 [(.tm 25),(ki 0),(.tm 32)]) 23 false,
 GQ 15 34 (.un .not (.tm 33)) 23 false,
 rq 16 35 (.pick (.tm 23) (.kv (.bool true)) (.tm 34)),
 RM 17 36 35,
 GQ 18 37 (.fld 2 (.tm 6)) 36 false,
 GQ 19 38 (.load 3 true (.tm 37)) 36 false,
 GQ 20 39 (.call aIP [(.tm 38)]) 36 false,
 GQ 21 40 (.un .not (.tm 39)) 36 false,
 rq 22 41 (.pick (.tm 36) (.kv (.bool true)) (.tm 40)),
 RM 23 42 41,
 GQ 24 43 (.fld 2 (.tm 6)) 42 false,
 GQ 25 44 (.fld 0 (.tm 43)) 42 false,
 GQ 26 45 (.load 1 false (.tm 44)) 42 false,
 GQ 27 46 (.fld 2 (.tm 2)) 42 false,
 GQ 28 47 (.load 1 false (.tm 46)) 42 false,
 GQ 29 48 (.fld 0 (.tm 6)) 42 false,
 GQ 30 49 (.load 1 false (.tm 48)) 42 false,
 GQ 31 50 (.idx 1 (.tm 47) (.tm 49)) 42 false,
 GQ 32 51 (.load 1 false (.tm 50)) 42 false,
 GQ 33 52 (.fld 1 (.tm 6)) 42 false,
 GQ 34 53 (.load 1 false (.tm 52)) 42 false,
 GQ 35 54 (.idx 7 (.tm 51) (.tm 53)) 42 false,
 GQ 36 55 (.fld 0 (.tm 54)) 42 false,
 GQ 37 56 (.load 1 false (.tm 55)) 42 false,
 GQ 38 57 (.bin .neq (.tm 45) (.tm 56)) 42 false,
 rq 39 58 (.pick (.tm 42) (.kv (.bool true)) (.tm 57)),
 RM 40 59 58,
 GQ 41 60 (.fld 5 (.tm 3)) 59 false,
 GQ 42 61 (.load 1 false (.tm 60)) 59 false,
 GQ 43 62 (.move (.tm 5)) 59 false,
 GQ 44 63 (.slc 5 (.tm 61) none (some (.tm 62)) none) 59 false,
 GQ 45 64 (.fld 0 (.tm 6)) 59 false,
 GQ 46 65 (.load 1 false (.tm 64)) 59 false,
 GQ 47 66 (.fld 1 (.tm 6)) 59 false,
 GQ 48 67 (.load 1 false (.tm 66)) 59 false,
 GQ 49 68 (.call aIN [(.tm 63),(.tm 65),(.tm 67)]) 59 false,
 GQ 50 69 (.bin .geq (.tm 68) (ki 0)) 59 false,
 rq 51 70 (.pick (.tm 59) (.kv (.bool true)) (.tm 69))] 52 [2,3,5,70])
 (.cond (.tm 70)
 (.seq (.region [rq 0 4 (.move (.kv (.bool false)))] 1 [4])
 .ret)
 .skip))))
 (.region [RM 0 12 5,
 rq 1 13 (.bin .add (.tm 12) (ki 1)),
 RM 2 5 13] 3 [2,3,5]))))))
 (.seq (.region [rq 0 4 (.move (.kv (.bool true)))] 1 [4])
 .ret)))
def aK4:List Cert:=[⟨[],[2,3]⟩,⟨[],[2,3,5]⟩,⟨[],[2,3,5,11]⟩,⟨[],[2,3,5,6]⟩,⟨[cz 0,cz 1,cz 2,cz 3,cz 4,cz 5,cz 6,cz 7,cz 8,cz 9,cz 10,cz 11,cz 12,cz 13,cz 14,cz 15,cz 16,cz 17,cz 18,cz 19,cz 20,cz 21,cz 22,cz 23,cz 24,cz 25,cz 26,cz 27,cz 28,cz 29,cz 30,cz 31,cz 32,cz 33,cz 34,cz 35,cz 36,cz 37,cz 38,cz 39,cz 40,cz 41,cz 42,cz 43,cz 44,cz 45,cz 46,cz 47,cz 48,cz 49,cz 50,cz 51],[2,3,5,70]⟩,⟨[],[4]⟩,⟨[],[2,3,5]⟩,⟨[],[4]⟩]
def aJY:List aW:=[.tm 4]
theorem aK1:aO Tryz.prog Tryz.f103 aK4=some (aJD,aJY):=by kernel_rfl
theorem aK7:aN Tryz.prog aIX Tryz.f103 aJD aJY:=
 aN.mk Tryz.func103 (by kernel_rfl) aK1
end Go.Proofs.YtegiblhkjfiooaaGreat
end
section
namespace Go.Proofs.YtegiblhkjfiooaaGreat
open Go Go.AM
set_option maxRecDepth 100000
def aJQ:AC:=
 (.seq (.region [rq 0 1 (.box true (.tm 0)),
 rq 1 2 (.move (.kv (.bool false)))] 2 [1])
 (.seq (.seq (.region [RF 0 4 0 1,
 RL 1 5 4,
 rq 2 6 (.call aBG [(.tm 5)]),
 rq 3 7 (.un .not (.tm 6)),
 RM 4 8 7,
 GQ 5 9 (.fld 1 (.tm 1)) 8 false,
 GQ 6 10 (.load 1 false (.tm 9)) 8 false,
 GQ 7 11 (.len false (.tm 10)) 8 false,
 GQ 8 12 (.bin .neq (.tm 11) (ki 4)) 8 false,
 rq 9 13 (.pick (.tm 8) (.kv (.bool true)) (.tm 12)),
 RM 10 14 13,
 GQ 11 15 (.fld 1 (.tm 1)) 14 false,
 GQ 12 16 (.load 1 false (.tm 15)) 14 false,
 GQ 13 17 (.call aA3 [(.tm 16),(ki 0),(ki 3)]) 14 false,
 GQ 14 18 (.un .not (.tm 17)) 14 false,
 rq 15 19 (.pick (.tm 14) (.kv (.bool true)) (.tm 18)),
 RM 16 20 19,
 GQ 17 21 (.fld 2 (.tm 1)) 20 false,
 GQ 18 22 (.load 1 false (.tm 21)) 20 false,
 GQ 19 23 (.len false (.tm 22)) 20 false,
 GQ 20 24 (.bin .neq (.tm 23) (ki 3)) 20 false,
 rq 21 25 (.pick (.tm 20) (.kv (.bool true)) (.tm 24))] 22 [1,25])
 (.cond (.tm 25)
 (.seq (.region [rq 0 2 (.move (.kv (.bool false)))] 1 [2])
 .ret)
 .skip))
 (.seq (.seq (.region [rq 0 3 (.move (ki 0))] 1 [1,3])
 (.block 0
 (.loop
 (.seq (.seq (.region [RM 0 26 3,
 rq 1 27 (.bin .lss (.tm 26) (ki 3))] 2 [1,3,27])
 (.cond (.tm 27)
 .skip
 (.exit 0)))
 (.seq (.block 1
 (.seq (.region [RF 0 30 2 1,
 RL 1 31 30,
 RM 2 32 3,
 rq 3 33 (.idx 1 (.tm 31) (.tm 32)),
 RL 4 34 33,
 rq 5 35 (.len false (.tm 34)),
 rq 6 36 (.bin .gtr (.tm 35) (ki 12)),
 RM 7 37 36,
 GQ 8 38 (.fld 2 (.tm 1)) 37 false,
 GQ 9 39 (.load 1 false (.tm 38)) 37 false,
 GQ 10 40 (.move (.tm 3)) 37 false,
 GQ 11 41 (.idx 1 (.tm 39) (.tm 40)) 37 false,
 GQ 12 42 (.load 1 false (.tm 41)) 37 false,
 GQ 13 43 (.call aI2 [(.tm 42)]) 37 false,
 GQ 14 44 (.un .not (.tm 43)) 37 false,
 rq 15 45 (.pick (.tm 37) (.kv (.bool true)) (.tm 44))] 16 [1,3,45])
 (.cond (.tm 45)
 (.seq (.region [rq 0 2 (.move (.kv (.bool false)))] 1 [2])
 .ret)
 .skip)))
 (.region [RM 0 28 3,
 rq 1 29 (.bin .add (.tm 28) (ki 1)),
 RM 2 3 29] 3 [1,3]))))))
 (.seq (.region [rq 0 2 (.move (.kv (.bool true)))] 1 [2])
 .ret))))
def aLZ:List Cert:=[⟨[],[1]⟩,⟨[],[1,25]⟩,⟨[],[2]⟩,⟨[],[1,3]⟩,⟨[],[1,3,27]⟩,⟨[],[1,3,45]⟩,⟨[],[2]⟩,⟨[],[1,3]⟩,⟨[],[2]⟩]
def aKB:List aW:=[.tm 2]
theorem aL8:aO Tryz.prog Tryz.f76 aLZ=some (aJQ,aKB):=by kernel_rfl
theorem aLX:aN Tryz.prog aIV Tryz.f76 aJQ aKB:=
 aN.mk Tryz.func76 (by kernel_rfl) aL8
def aJM:AC:=
 (.seq (.region [rq 0 1 (.box true (.tm 0)),
 rq 1 2 (.move (.kv (.bool false)))] 2 [1])
 (.seq (.region [RF 0 3 0 1,
 rq 1 4 (.load 1 true (.tm 3)),
 rq 2 5 (.call aI7 [(.tm 4)]),
 RM 3 6 5,
 GQ 4 7 (.fld 1 (.tm 1)) 6 true,
 GQ 5 8 (.load 1 false (.tm 7)) 6 true,
 GQ 6 9 (.len false (.tm 8)) 6 true,
 GQ 7 10 (.bin .eql (.tm 9) (ki 6)) 6 true,
 rq 8 11 (.pick (.tm 6) (.tm 10) (.kv (.bool false))),
 RM 9 12 11,
 GQ 10 13 (.fld 1 (.tm 1)) 12 true,
 GQ 11 14 (.load 1 false (.tm 13)) 12 true,
 GQ 12 15 (.call aA3 [(.tm 14),(.kv (.int .i64 (-1))),(ki 63)]) 12 true,
 rq 13 16 (.pick (.tm 12) (.tm 15) (.kv (.bool false))),
 RM 14 2 16] 15 [2])
 .ret))
def aLN:List Cert:=[⟨[],[1]⟩,⟨[],[2]⟩]
def aJ7:List aW:=[.tm 2]
theorem aL9:aO Tryz.prog Tryz.f101 aLN=some (aJM,aJ7):=by kernel_rfl
theorem aLR:aN Tryz.prog aIU Tryz.f101 aJM aJ7:=
 aN.mk Tryz.func101 (by kernel_rfl) aL9
def aBO:AC:=
 (.seq (.region [rq 0 2 (.move (.kv (.bool false)))] 1 [0])
 (.seq (.seq (.region [RM 0 6 0,
 rq 1 7 (.len false (.tm 6)),
 rq 2 8 (.bin .gtr (.tm 7) (ki 4))] 3 [0,8])
 (.cond (.tm 8)
 (.seq (.region [rq 0 2 (.move (.kv (.bool false)))] 1 [2])
 .ret)
 .skip))
 (.seq (.seq (.region [rq 0 3 (.move (ki 0))] 1 [0,3])
 (.block 0
 (.loop
 (.seq (.seq (.region [RM 0 9 3,
 RM 1 10 0,
 rq 2 11 (.len false (.tm 10)),
 rq 3 12 (.bin .lss (.tm 9) (.tm 11))] 4 [0,3,12])
 (.cond (.tm 12)
 .skip
 (.exit 0)))
 (.seq (.block 1
 (.seq (.region [RM 0 15 0,
 RM 1 16 3,
 rq 2 17 (.idx 4 (.tm 15) (.tm 16)),
 rq 3 18 (.load 4 true (.tm 17)),
 rq 4 4 (.alloc [VZ,VZ,VZ,(.v (.bool false))]),
 rn 5 (.store 4 true (.tm 4) (.tm 18))] 6 [0,3,4])
 (.seq (.seq (.region [RF 0 19 0 4,
 RL 1 20 19,
 RF 2 21 1 4,
 RL 3 22 21,
 rq 4 23 (.call y2 [(.tm 20),(ki 0),(.tm 22)]),
 rq 5 24 (.un .not (.tm 23)),
 RM 6 25 24,
 GQ 7 26 (.fld 1 (.tm 4)) 25 false,
 GQ 8 27 (.load 1 false (.tm 26)) 25 false,
 GQ 9 28 (.bin .gtr (.tm 27) (ki 63)) 25 false,
 rq 10 29 (.pick (.tm 25) (.kv (.bool true)) (.tm 28)),
 RM 11 30 29,
 GQ 12 31 (.fld 2 (.tm 4)) 30 false,
 GQ 13 32 (.load 1 false (.tm 31)) 30 false,
 GQ 14 33 (.call y2 [(.tm 32),(ki 0),(ki 2)]) 30 false,
 GQ 15 34 (.un .not (.tm 33)) 30 false,
 rq 16 35 (.pick (.tm 30) (.kv (.bool true)) (.tm 34))] 17 [0,3,4,35])
 (.cond (.tm 35)
 (.seq (.region [rq 0 2 (.move (.kv (.bool false)))] 1 [2])
 .ret)
 .skip))
 (.seq (.region [rq 0 5 (.move (ki 0))] 1 [0,3,4,5])
 (.block 2
 (.loop
 (.seq (.seq (.region [RM 0 36 5,
 RM 1 37 3,
 rq 2 38 (.bin .lss (.tm 36) (.tm 37))] 3 [0,3,4,5,38])
 (.cond (.tm 38)
 .skip
 (.exit 2)))
 (.seq (.block 3
 (.seq (.region [RF 0 41 0 4,
 RL 1 42 41,
 RM 2 43 0,
 RM 3 44 5,
 rq 4 45 (.idx 4 (.tm 43) (.tm 44)),
 RF 5 46 1 45,
 RL 6 47 46,
 rq 7 48 (.bin .leq (.tm 42) (.tm 47)),
 RM 8 49 48,
 GQ 9 50 (.move (.tm 0)) 49 true,
 GQ 10 51 (.move (.tm 5)) 49 true,
 GQ 11 52 (.idx 4 (.tm 50) (.tm 51)) 49 true,
 GQ 12 53 (.fld 0 (.tm 52)) 49 true,
 GQ 13 54 (.load 1 false (.tm 53)) 49 true,
 GQ 14 55 (.fld 1 (.tm 4)) 49 true,
 GQ 15 56 (.load 1 false (.tm 55)) 49 true,
 GQ 16 57 (.bin .leq (.tm 54) (.tm 56)) 49 true,
 rq 17 58 (.pick (.tm 49) (.tm 57) (.kv (.bool false)))] 18 [0,3,4,5,58])
 (.cond (.tm 58)
 (.seq (.region [rq 0 2 (.move (.kv (.bool false)))] 1 [2])
 .ret)
 .skip)))
 (.region [RM 0 39 5,
 rq 1 40 (.bin .add (.tm 39) (ki 1)),
 RM 2 5 40] 3 [0,3,4,5])))))))))
 (.region [RM 0 13 3,
 rq 1 14 (.bin .add (.tm 13) (ki 1)),
 RM 2 3 14] 3 [0,3]))))))
 (.seq (.region [rq 0 2 (.move (.kv (.bool true)))] 1 [2])
 .ret))))
def aDQ:List Cert:=[⟨[],[0]⟩,⟨[],[0,8]⟩,⟨[],[2]⟩,⟨[],[0,3]⟩,⟨[],[0,3,12]⟩,⟨[],[0,3,4]⟩,⟨[],[0,3,4,35]⟩,⟨[],[2]⟩,⟨[],[0,3,4,5]⟩,⟨[],[0,3,4,5,38]⟩,⟨[cz 0,cz 1,cz 2,cz 3,cz 4,cz 5,cz 6,cz 7,cz 8,cz 9,cz 10,cz 11,cz 12,cz 13,cz 14,cz 15,cz 16,cz 17],[0,3,4,5,58]⟩,⟨[],[2]⟩,⟨[],[0,3,4,5]⟩,⟨[],[0,3]⟩,⟨[],[2]⟩]
def aB3:List aW:=[.tm 2]
theorem aDZ:aO Tryz.prog Tryz.f143 aDQ=some (aBO,aB3):=by kernel_rfl
theorem aDM:aN Tryz.prog aBG Tryz.f143 aBO aB3:=
 aN.mk Tryz.func143 (by kernel_rfl) aDZ
def aBP:AC:=
 (.seq (.region [rq 0 6 (.move (.kv (.bool false)))] 1 [0,1,2])
 (.seq (.seq (.region [rq 0 7 (.move (ki 0))] 1 [0,1,2,7])
 (.block 0
 (.loop
 (.seq (.seq (.region [RM 0 8 7,
 RM 1 9 0,
 rq 2 10 (.len false (.tm 9)),
 rq 3 11 (.bin .lss (.tm 8) (.tm 10))] 4 [0,1,2,7,11])
 (.cond (.tm 11)
 .skip
 (.exit 0)))
 (.seq (.block 1
 (.seq (.region [RM 0 14 0,
 RM 1 15 7,
 rq 2 16 (.idx 1 (.tm 14) (.tm 15)),
 RL 3 17 16,
 RM 4 18 1,
 RM 5 19 2,
 rq 6 20 (.call y2 [(.tm 17),(.tm 18),(.tm 19)]),
 rq 7 21 (.un .not (.tm 20))] 8 [0,1,2,7,21])
 (.cond (.tm 21)
 (.seq (.region [rq 0 6 (.move (.kv (.bool false)))] 1 [6])
 .ret)
 .skip)))
 (.region [RM 0 12 7,
 rq 1 13 (.bin .add (.tm 12) (ki 1)),
 RM 2 7 13] 3 [0,1,2,7]))))))
 (.seq (.region [rq 0 6 (.move (.kv (.bool true)))] 1 [6])
 .ret)))
def aDP:List Cert:=[⟨[],[0,1,2]⟩,⟨[],[0,1,2,7]⟩,⟨[],[0,1,2,7,11]⟩,⟨[],[0,1,2,7,21]⟩,⟨[],[6]⟩,⟨[],[0,1,2,7]⟩,⟨[],[6]⟩]
def aB1:List aW:=[.tm 6]
theorem aDO:aO Tryz.prog Tryz.f144 aDP=some (aBP,aB1):=by kernel_rfl
theorem aDN:aN Tryz.prog aA3 Tryz.f144 aBP aB1:=
 aN.mk Tryz.func144 (by kernel_rfl) aDO
def aJC:AC:=
 (.seq (.region [rq 0 2 (.move (.kv (.bool false)))] 1 [0])
 (.seq (.seq (.region [rq 0 3 (.move (ki 0))] 1 [0,3])
 (.block 0
 (.loop
 (.seq (.seq (.region [RM 0 4 3,
 RM 1 5 0,
 rq 2 6 (.len false (.tm 5)),
 rq 3 7 (.bin .lss (.tm 4) (.tm 6))] 4 [0,3,7])
 (.cond (.tm 7)
 .skip
 (.exit 0)))
 (.seq (.block 1
 (.seq (.region [RM 0 10 0,
 RM 1 11 3,
 rq 2 12 (.idx 7 (.tm 10) (.tm 11)),
 rq 3 13 (.load 7 true (.tm 12)),
 rq 4 14 (.call aBF [(.tm 13)]),
 rq 5 15 (.un .not (.tm 14))] 6 [0,3,15])
 (.cond (.tm 15)
 (.seq (.region [rq 0 2 (.move (.kv (.bool false)))] 1 [2])
 .ret)
 .skip)))
 (.region [RM 0 8 3,
 rq 1 9 (.bin .add (.tm 8) (ki 1)),
 RM 2 3 9] 3 [0,3]))))))
 (.seq (.region [rq 0 2 (.move (.kv (.bool true)))] 1 [2])
 .ret)))
def aKU:List Cert:=[⟨[],[0]⟩,⟨[],[0,3]⟩,⟨[],[0,3,7]⟩,⟨[],[0,3,15]⟩,⟨[],[2]⟩,⟨[],[0,3]⟩,⟨[],[2]⟩]
def aJ0:List aW:=[.tm 2]
theorem aK5:aO Tryz.prog Tryz.f145 aKU=some (aJC,aJ0):=by kernel_rfl
theorem aLI:aN Tryz.prog aI2 Tryz.f145 aJC aJ0:=
 aN.mk Tryz.func145 (by kernel_rfl) aK5
def aBM:AC:=
 (.seq (.region [rq 0 1 (.box true (.tm 0)),
 rq 1 2 (.move (.kv (.bool false)))] 2 [1])
 (.seq (.seq (.region [RF 0 3 0 1,
 RL 1 4 3,
 rq 2 5 (.call y2 [(.tm 4),(ki 0),(ki 1)]),
 rq 3 6 (.un .not (.tm 5)),
 RM 4 7 6,
 GQ 5 8 (.fld 1 (.tm 1)) 7 false,
 GQ 6 9 (.load 1 false (.tm 8)) 7 false,
 GQ 7 10 (.call y2 [(.tm 9),(ki 1),(ki 4)]) 7 false,
 GQ 8 11 (.un .not (.tm 10)) 7 false,
 rq 9 12 (.pick (.tm 7) (.kv (.bool true)) (.tm 11)),
 RM 10 13 12,
 GQ 11 14 (.fld 2 (.tm 1)) 13 false,
 GQ 12 15 (.load 1 false (.tm 14)) 13 false,
 GQ 13 16 (.fld 3 (.tm 1)) 13 false,
 GQ 14 17 (.load 1 false (.tm 16)) 13 false,
 GQ 15 18 (.fld 4 (.tm 1)) 13 false,
 GQ 16 19 (.load 1 false (.tm 18)) 13 false,
 GQ 17 20 (.call aA6 [(.tm 15),(.tm 17),(.tm 19)]) 13 false,
 GQ 18 21 (.un .not (.tm 20)) 13 false,
 rq 19 22 (.pick (.tm 13) (.kv (.bool true)) (.tm 21))] 20 [1,22])
 (.cond (.tm 22)
 (.seq (.region [rq 0 2 (.move (.kv (.bool false)))] 1 [2])
 .ret)
 .skip))
 (.seq (.seq (.region [RF 0 23 1 1,
 RL 1 24 23,
 rq 2 25 (.bin .geq (.tm 24) (ki 3)),
 RM 3 26 25,
 GQ 4 27 (.fld 3 (.tm 1)) 26 true,
 GQ 5 28 (.load 1 false (.tm 27)) 26 true,
 GQ 6 29 (.bin .neq (.tm 28) (ki 1)) 26 true,
 rq 7 30 (.pick (.tm 26) (.tm 29) (.kv (.bool false)))] 8 [1,30])
 (.cond (.tm 30)
 (.seq (.region [rq 0 2 (.move (.kv (.bool false)))] 1 [2])
 .ret)
 .skip))
 (.seq (.seq (.region [rq 0 31 (.load 7 true (.tm 1)),
 rq 1 32 (.call aAZ [(.tm 31)]),
 rq 2 33 (.un .not (.tm 32))] 3 [1,33])
 (.cond (.tm 33)
 (.seq (.region [RF 0 34 5 1,
 RL 1 35 34,
 rq 2 36 (.len false (.tm 35)),
 rq 3 37 (.bin .eql (.tm 36) (ki 0)),
 RM 4 38 37,
 GQ 5 39 (.fld 6 (.tm 1)) 38 true,
 GQ 6 40 (.load 1 false (.tm 39)) 38 true,
 GQ 7 41 (.len false (.tm 40)) 38 true,
 GQ 8 42 (.bin .eql (.tm 41) (ki 0)) 38 true,
 rq 9 43 (.pick (.tm 38) (.tm 42) (.kv (.bool false))),
 RM 10 2 43] 11 [2])
 .ret)
 .skip))
 (.seq (.region [RF 0 44 5 1,
 RL 1 45 44,
 rq 2 46 (.len false (.tm 45)),
 RF 3 47 3 1,
 RL 4 48 47,
 rq 5 49 (.bin .eql (.tm 46) (.tm 48)),
 RM 6 50 49,
 GQ 7 51 (.fld 6 (.tm 1)) 50 true,
 GQ 8 52 (.load 1 false (.tm 51)) 50 true,
 GQ 9 53 (.len false (.tm 52)) 50 true,
 GQ 10 54 (.fld 3 (.tm 1)) 50 true,
 GQ 11 55 (.load 1 false (.tm 54)) 50 true,
 GQ 12 56 (.bin .eql (.tm 53) (.tm 55)) 50 true,
 rq 13 57 (.pick (.tm 50) (.tm 56) (.kv (.bool false))),
 RM 14 58 57,
 GQ 15 59 (.fld 5 (.tm 1)) 58 true,
 GQ 16 60 (.load 1 false (.tm 59)) 58 true,
 GQ 17 61 (.call aA3 [(.tm 60),(ki 0),(ki 65535)]) 58 true,
 rq 18 62 (.pick (.tm 58) (.tm 61) (.kv (.bool false))),
 RM 19 63 62,
 GQ 20 64 (.fld 6 (.tm 1)) 63 true,
 GQ 21 65 (.load 1 false (.tm 64)) 63 true,
 GQ 22 66 (.call aA3 [(.tm 65),(ki 0),(ki 3)]) 63 true,
 rq 23 67 (.pick (.tm 63) (.tm 66) (.kv (.bool false))),
 RM 24 2 67] 25 [2])
 .ret)))))
def aDV:List Cert:=[⟨[],[1]⟩,⟨[],[1,22]⟩,⟨[],[2]⟩,⟨[],[1,30]⟩,⟨[],[2]⟩,⟨[],[1,33]⟩,⟨[],[2]⟩,⟨[],[2]⟩]
def aB4:List aW:=[.tm 2]
theorem aDY:aO Tryz.prog Tryz.f146 aDV=some (aBM,aB4):=by kernel_rfl
theorem aDW:aN Tryz.prog aBF Tryz.f146 aBM aB4:=
 aN.mk Tryz.func146 (by kernel_rfl) aDY
def aJK:AC:=
 (.seq (.region [rq 0 1 (.box true (.tm 0)),
 rq 1 2 (.move (.kv (.bool false)))] 2 [1])
 (.seq (.seq (.region [RF 0 4 0 1,
 RL 1 5 4,
 rq 2 6 (.len false (.tm 5)),
 rq 3 7 (.bin .neq (.tm 6) (ki 64))] 4 [1,7])
 (.cond (.tm 7)
 (.seq (.region [rq 0 2 (.move (.kv (.bool false)))] 1 [2])
 .ret)
 .skip))
 (.seq (.seq (.region [rq 0 3 (.move (ki 0))] 1 [1,3])
 (.block 0
 (.loop
 (.seq (.seq (.region [RM 0 8 3,
 RF 1 9 0 1,
 RL 2 10 9,
 rq 3 11 (.len false (.tm 10)),
 rq 4 12 (.bin .lss (.tm 8) (.tm 11))] 5 [1,3,12])
 (.cond (.tm 12)
 .skip
 (.exit 0)))
 (.seq (.block 1
 (.seq (.region [RF 0 15 0 1,
 RL 1 16 15,
 RM 2 17 3,
 rq 3 18 (.idx 1 (.tm 16) (.tm 17)),
 RL 4 19 18,
 rq 5 20 (.call y2 [(.tm 19),(ki 0),(ki 65535)]),
 rq 6 21 (.un .not (.tm 20))] 7 [1,3,21])
 (.cond (.tm 21)
 (.seq (.region [rq 0 2 (.move (.kv (.bool false)))] 1 [2])
 .ret)
 .skip)))
 (.region [RM 0 13 3,
 rq 1 14 (.bin .add (.tm 13) (ki 1)),
 RM 2 3 14] 3 [1,3]))))))
 (.seq (.region [rq 0 2 (.move (.kv (.bool true)))] 1 [2])
 .ret))))
def aMK:List Cert:=[⟨[],[1]⟩,⟨[],[1,7]⟩,⟨[],[2]⟩,⟨[],[1,3]⟩,⟨[],[1,3,12]⟩,⟨[],[1,3,21]⟩,⟨[],[2]⟩,⟨[],[1,3]⟩,⟨[],[2]⟩]
def aJ8:List aW:=[.tm 2]
theorem aLU:aO Tryz.prog Tryz.f173 aMK=some (aJK,aJ8):=by kernel_rfl
theorem aMO:aN Tryz.prog aI7 Tryz.f173 aJK aJ8:=
 aN.mk Tryz.func173 (by kernel_rfl) aLU
def aJL:AC:=
 (.seq (.region [rq 0 1 (.box true (.tm 0)),
 rq 1 2 (.move (.kv (.bool false)))] 2 [1])
 (.seq (.region [RF 0 3 0 1,
 RL 1 4 3,
 rq 2 5 (.call y2 [(.tm 4),(ki 0),(ki 1)]),
 RM 3 6 5,
 GQ 4 7 (.fld 1 (.tm 1)) 6 true,
 GQ 5 8 (.load 1 false (.tm 7)) 6 true,
 GQ 6 9 (.call y2 [(.tm 8),(ki 1),(ki 4)]) 6 true,
 rq 7 10 (.pick (.tm 6) (.tm 9) (.kv (.bool false))),
 RM 8 11 10,
 GQ 9 12 (.fld 2 (.tm 1)) 11 true,
 GQ 10 13 (.load 1 false (.tm 12)) 11 true,
 GQ 11 14 (.len false (.tm 13)) 11 true,
 GQ 12 15 (.bin .leq (.tm 14) (ki 4)) 11 true,
 rq 13 16 (.pick (.tm 11) (.tm 15) (.kv (.bool false))),
 RM 14 17 16,
 GQ 15 18 (.fld 2 (.tm 1)) 17 true,
 GQ 16 19 (.load 1 false (.tm 18)) 17 true,
 GQ 17 20 (.call aA3 [(.tm 19),(ki 0),(ki 65535)]) 17 true,
 rq 18 21 (.pick (.tm 17) (.tm 20) (.kv (.bool false))),
 RM 19 2 21] 20 [2])
 .ret))
def aL3:List Cert:=[⟨[],[1]⟩,⟨[],[2]⟩]
def aJ6:List aW:=[.tm 2]
theorem aLS:aO Tryz.prog Tryz.f175 aL3=some (aJL,aJ6):=by kernel_rfl
theorem aMN:aN Tryz.prog aIP Tryz.f175 aJL aJ6:=
 aN.mk Tryz.func175 (by kernel_rfl) aLS
end Go.Proofs.YtegiblhkjfiooaaGreat
end
section
namespace Go.AM
open Go.RowKit
def aaS (e' e:Env):Prop:=∀t,e' t=e t∨e' t= .dead
theorem aaS.refl (e:Env):aaS e e:=fun _=>.inl rfl
theorem ER.le {c:Cf} {T:Nat} {e e':Env} {a:Act} (he:ER c T e a) (h:aaS e' e):ER c T e' a:=by
 refine⟨he.1,he.2.1,fun t=> ?_⟩
 rcases h t with h1|h1
 ·rw[h1];exact he.2.2 t
 ·rw[h1];exact trivial
section
variable {P : Program} {T : Nat} {e : Env} {H : aA} {nx : Nat} {Q : AQ}
theorem AWP.le {x:AC} {e':Env} (hE:aaS e' e) (h:AWP P T x e' H nx Q):AWP P T x e H nx Q:=
 fun code hc c a hs he hN=>h code hc c a hs (he.le hE) hN
theorem aM.le {x:AC} {zs:List AC} {e':Env} (hE:aaS e' e) (h:aM P T (x::zs) e' H nx Q):aM P T (x::zs) e H nx Q:=AWP.le hE h
theorem aB.ofH {f:FuncId} {fn:Func} {code:Code} {ac:AC} {rs:List aW} {cs cs':List Cert} {args:List D} {K:D→aA→Nat→Prop}
 (hok:qY P f=true) (hf:P.funcs[f]?=some fn) (hb:fn.body=some code) (hc:compile P fn.ntmps code cs=some (ac,cs')) (hr:AJ P fn.results.toList=some rs) (hl:args.length≤fn.ntmps)
 (h: ∀Q:AQ,(∀ex e' H' nx' d,ex= .normal∨ex= .ret→yT H' e' rs=some d→K d H' nx'→Q ex e' H' nx')→AWP P fn.ntmps ac (Env.args 0 args) H nx Q):aB P f args H nx K:=by
 refine⟨hok,fun c vs hs hN hlen hrel=> ?_⟩
 refine calls_of_wp hf hb ?_
 have hcm:=JA _ _ _ _ hc
 have her:ER c fn.ntmps (Env.args 0 args) {tmps:=vs.toArray++Array.replicate (fn.ntmps-vs.toArray.size) undef,defers:=[]}:=by
  refine⟨by simp;omega,rfl,fun t=> ?_⟩
  rw[Env.ML]
  simp only[Nat.zero_le,if_true,Nat.sub_zero]
  cases hd:args[t]? with
  |none=>exact trivial
  |some d=>
   have ht:t<vs.length:=by rw[hlen];exact(List.getElem?_eq_some_iff.1 hd).1
   have hv:(vs.toArray++Array.replicate (fn.ntmps-vs.toArray.size) undef).getD t undef=vs[t]:=by
    rw[Array.getD_eq_getD_getElem?,Array.getElem?_append]
    simp[ht]
   rw[hv]
   exact hrel t d _ hd (List.getElem?_eq_getElem ht)
 refine wp_mono (h _ (fun ex e' H' nx' d h1 h2 h4=>(⟨h1,d,h2,h4⟩:(ex= .normal∨ex= .ret)∧ ∃d,yT H' e' rs=some d∧K d H' nx')) code hcm c _ hs her hN) ?_
 rintro ex a w ⟨aex,e',H',nx',c',rfl,rfl,p1,p2,p3,p4,p5,p6,d,q1,q3⟩
 obtain⟨v,hv,hd⟩:=aa3 p1 p3 hr q1
 have hfin:a.defers=[]∧ ∃v,(results fn a.tmps).run P c'.w= .ok v c'.w∧ ∃v' c'' r H'' nx',Ending.returned v= .returned v'∧c''.w=c'.w∧St c'' H''∧Step c H c'' H''∧(∀i,c''.N i→c.N i∨(nx≤i∧i<nx'))∧nx≤nx'∧fD c'' r v'∧K r H'' nx':=
  ⟨p3.2.1,v,hv,v,c',d,H',nx',rfl,rfl,p1,p2,p4,p5,hd,q3⟩
 rcases p6 with rfl|rfl
 ·exact hfin
 ·exact hfin
def cJ (P:Program) (f:FuncId) (fn:Func) (ac:AC) (rs:List aW):Prop:=
 ∀{args:List D} {H:aA} {nx:Nat} {KK:D→aA→Nat→Prop} (_hl:Nat.ble args.length fn.ntmps=true)
  (_h: ∀Q:AQ,(∀ex e2 H2 nx2 d,ex= .normal∨ex= .ret→yT H2 e2 rs=some d→KK d H2 nx2→Q ex e2 H2 nx2)→aM P fn.ntmps [ac] (Env.args 0 args) H nx Q),aB P f args H nx KK
theorem cJ.mk {P:Program} {f:FuncId} {fn:Func} {ac:AC} {rs:List aW} {cs:List Cert}
 (hf:P.funcs[f]?=some fn) (hok:qY P f=true) (hc:aO P fn cs=some (ac,rs)):cJ P f fn ac rs:=by
 intro args H nx KK hl h
 unfold aO at hc
 split at hc
 ·rename_i b hb
  split at hc
  ·rename_i ac' cs' rs' h1 h2
   simp only[Option.some.injEq,Prod.mk.injEq] at hc
   obtain⟨rfl,rfl⟩:=hc
   exact aB.ofH hok hf hb h1 h2 (Nat.le_of_ble_eq_true hl) fun Q hQ=>(h Q hQ).run
  ·simp at hc
 ·simp at hc
end
def CvX (F:Nat→Prop) (nx:Nat) (H H':aA):Prop:=∀i o',H' i=some o'→¬F i∧ ∃o,H i=some o∧(o'=o∨CvO H F id nx o' o)
theorem MR {c:Cf} {nx:Nat} {I':Nat→Prop} (hI: ∀b,c.I b→I' b) (hN: ∀i,c.N i→i<nx) {d:D1} {x:Value} (h:Rel c d x):Rel (c.conv nx nx id I') d x:=by
 have h0: ∀d x,bY c d x→bY (c.conv nx nx id I') d x:=by
  intro d x h
  cases d<;>simp only[bY] at h ⊢ <;>first
   |exact h.wT hI (fun _ _=>rfl)
   |exact⟨h.1,h.2.imp (fun h=>h) fun⟨h1,h2,h3⟩=>⟨h1,.inl ⟨hN _ h2,h2⟩,h3⟩⟩
   |exact⟨.inl ⟨hN _ h.1,h.1⟩,h.2⟩
   |exact h
 cases d with
 |clo f caps=>obtain⟨vs,hx,hl,hf⟩:=h;exact⟨vs,hx,hl,fun i d u h1 h2=>h0 _ _ (hf i d u h1 h2)⟩
 |_=>simp only[Rel] at h ⊢;exact h0 _ _ h
theorem ac6 {c:Cf} {nx:Nat} {I':Nat→Prop} (hI: ∀b,c.I b→I' b) (hN: ∀i,c.N i→i<nx) {d:D} {x:Value} (h:fD c d x):fD (c.conv nx nx id I') d x:=by
 have hV: ∀d x,jZ c d x→jZ (c.conv nx nx id I') d x:=by
  intro d x h
  cases d with
  |c d=>exact MR hI hN h
  |agg cs=>obtain⟨vs,hx,hl,hf⟩:=h;exact⟨vs,hx,hl,fun i d u h1 h2=>MR hI hN (hf i d u h1 h2)⟩
 cases d with
 |one d=>exact hV d x h
 |tup ds=>obtain⟨vs,hx,hl,hf⟩:=h;exact⟨vs,hx,hl,fun i d u h1 h2=>hV d u (hf i d u h1 h2)⟩
 |dead=>trivial
theorem YO {c c0:Cf} {H H0 H':aA} {F:Nat→Prop} {nx:Nat} (hs:St c H) (hstep:Step c0 H0 c H) (hN: ∀i,c.N i→i<nx) (hH:CvX F nx H H'):
 St (c.conv nx nx id (c.frI H F)) H'∧Step c0 H0 (c.conv nx nx id (c.frI H F)) H':=by
 have hO: ∀{i:Nat} {o':bA},H' i=some o'→¬F i∧ ∃o,H i=some o∧o'.n=o.n∧o'.ext=o.ext∧o'.rows.length≤o.rows.length∧(o.n=0→o'.rows=[]→o.rows=[]):=by
  intro i o' h
  obtain⟨h1,o,h2,rfl|h3⟩:=hH i o' h
  ·exact⟨h1,_,h2,rfl,rfl,Nat.le_refl _,fun _ h=>h⟩
  ·exact⟨h1,o,h2,h3.1,h3.2.1,h3.2.2.1,h3.2.2.2.1⟩
 refine⟨?_,?_⟩
 ·refine {named:= ?_,wf:= ?_,blk:= ?_,cells:= ?_,sep:= ?_,imm:= ?_,old:= ?_}
  ·intro id o' h
   obtain⟨_,o,h2,_⟩:=hO h
   exact .inl ⟨hN _ (hs.named _ o h2),hs.named _ o h2⟩
  ·intro id o' h
   obtain⟨_,o,h2,rfl|⟨h3,h4,h5,_,h6⟩⟩:=hH id o' h
   ·exact hs.wf _ _ h2
   ·obtain⟨k1,k2⟩:=hs.wf _ o h2
    refine⟨by omega,fun i r hr=> ?_⟩
    obtain⟨r0,h7,h8⟩:=h6 i r hr
    rw[h8.1,k2 i r0 h7,h3]
  ·intro id o' h he
   obtain⟨_,o,h2,h3,h4,h5,h7⟩:=hO h
   exact(hs.blk _ o h2 (by omega)).arW h3 h4 fun h0=>⟨h7 h0,fun hr=>by rw[hr] at h5;exact List.length_eq_zero_iff.1 (by simpa using h5)⟩
  ·intro id o' i j r d h h1 h2
   obtain⟨_,o,k2,rfl|⟨k3,k4,k5,_,k6⟩⟩:=hH id o' h
   ·obtain⟨u,k9,k10⟩:=hs.cells _ _ i j r d k2 h1 h2
    exact⟨u,k9,MR (fun b h=>.inl h) hN k10⟩
   ·obtain⟨r0,k7,k8⟩:=k6 i r h1
    have hj:j<r0.length:=by rw[←k8.1];exact(List.getElem?_eq_some_iff.1 h2).1
    obtain⟨u,k9,k10⟩:=hs.cells _ o i j r0 _ k2 k7 (List.getElem?_eq_getElem hj)
    refine⟨u,by rw[k3];exact k9,?_⟩
    exact PM hs (fun b h=>.inl h) (fun id o h1 h2 h3=>.inr ⟨id,o,h1,h2,h3,rfl⟩) (fun _ _=>rfl) (k8.2 j d _ h2 (List.getElem?_eq_getElem hj)) k10
  ·intro i j o o' hi hj he he' hne
   obtain⟨_,o1,k2,k3,k4,_⟩:=hO hi
   obtain⟨_,o2,k6,k7,k8,_⟩:=hO hj
   exact hs.sep i j o1 o2 k2 k6 (by omega) (by omega) hne
  ·intro i o' h he
   obtain⟨hnF,o,h2,h3,h4,_⟩:=hO h
   rintro(hI|⟨id2,o2,k1,k2,k3,k4⟩)
   ·exact hs.imm _ o h2 (by omega) hI
   ·have hne:id2≠i:=by rintro rfl;exact hnF k1
    exact hs.sep id2 i o2 o k2 h2 k3 (by omega) hne k4
  ·rintro b (hI|⟨id2,o2,k1,k2,k3,rfl⟩)
   ·exact hs.old b hI
   ·exact(hs.blk id2 o2 k2 k3).lt
 ·exact {
   ρ:=fun i hid=>hstep.ρ i hid
   N:=fun i hid=>.inl ⟨hN i (hstep.N i hid),hstep.N i hid⟩
   I:=fun b hb=>.inl (hstep.I b hb)
   I':=by
    rintro b (hI|⟨id2,o2,k1,k2,k3,rfl⟩)
    ·exact hstep.I' b hI
    ·exact .inr (hstep.own _ ⟨id2,o2,k2,k3,rfl⟩)
   size:=hstep.size
   os:=hstep.os
   tape:=hstep.tape
   output:=hstep.output
   frame:=hstep.frame
   own:=by
    rintro b ⟨id,o',h,he,hb⟩
    obtain⟨_,o,h2,h3,h4,_⟩:=hO h
    exact hstep.own b ⟨id,o,h2,by omega,hb⟩}
theorem aK {nx:Nat} {H:aA}:CvX noF nx H H:=fun _ o h=>⟨fun h=>h,o,h,.inl rfl⟩
theorem aM.gP {P:Program} {T:Nat} {e:Env} {H:aA} {nx:Nat} {Q:AQ} {x:AC} {zs:List AC} {β:Type} (E:β→Env) (Φ:β→aA→Nat→Prop) (μ:β→Nat) (b0:β) (h0: ∃F H1,CvE H F id nx (E b0) e∧CvX F nx H H1∧Φ b0 H1 nx)
 (h: ∀b H1 nx1,nx≤nx1→Φ b H1 nx1→∀K:Env→aA→Nat→Prop,(∀e' H' nx' b' F H2,nx1≤nx'→μ b'<μ b→CvE H' F id nx' (E b') e'→CvX F nx' H' H2→Φ b' H2 nx'→K e' H' nx')→aM P T [x] (E b) H1 nx1 (AQ.then K Q)):aM P T (.loop x::zs) e H nx Q:=by
 intro code hc c a hs he hN
 obtain⟨F0,H0,g1,g2,g3⟩:=h0
 have hc0: ∀{c1:Cf} {H1 H2:aA} {nx1:Nat} {F:Nat→Prop} {e1 e2:Env} {a:Act},St c1 H1→Step c H c1 H1→(∀i,c1.N i→i<nx1)→ER c1 T e1 a→CvE H1 F id nx1 e2 e1→CvX F nx1 H1 H2→
  ∃c2:Cf,c2.w=c1.w∧St c2 H2∧Step c H c2 H2∧ER c2 T e2 a∧ ∀i,c2.N i→c1.N i:=by
  intro c1 H1 H2 nx1 F e1 e2 a k1 k2 k3 k4 k5 k6
  obtain⟨q1,q2⟩:=YO k1 k2 k3 k6
  refine⟨c1.conv nx1 nx1 id (c1.frI H1 F),rfl,q1,q2,⟨k4.1,k4.2.1,fun t=>zD k1 (fun b h=>.inl h) (fun id o h1 h2 h3=>.inr ⟨id,o,h1,h2,h3,rfl⟩) (fun _ _=>rfl) (k5 t) (k4.2.2 t)⟩,fun i hi=> ?_⟩
  rcases hi with⟨_,hi⟩|⟨h1,h2,h3⟩
  ·exact hi
  ·omega
 cases hc with
 |loop h1=>
  obtain⟨c1,r1,r2,r3,r4,r5⟩:=hc0 hs (Step.refl c H) hN he g1 g2
  refine wp_loop_ghost (fun n a w=>∃b c1 H1 nx1,μ b=n∧c1.w=w∧St c1 H1∧ER c1 T (E b) a∧Step c H c1 H1∧(∀i,c1.N i→c.N i∨(nx≤i∧i<nx1))∧nx≤nx1∧Φ b H1 nx1) (μ b0) ⟨b0,c1,H0,nx,rfl,r1,r2,r4,r3,fun i hi=>.inl (r5 i hi),Nat.le_refl _,g3⟩ ?_
  rintro n a w ⟨b,c1,H1,nx1,rfl,rfl,j1,j2,j3,j4,j5,j6⟩
  refine wp_mono (h b H1 nx1 j5 j6 (fun e' H' nx'=>∃b' F H2,nx1≤nx'∧μ b'<μ b∧CvE H' F id nx' (E b') e'∧CvX F nx' H' H2∧Φ b' H2 nx') (fun _ _ _ b' F H2 h1 h2 h3 h4 h5=>⟨b',F,H2,h1,h2,h3,h4,h5⟩) _ h1 c1 a j1 j2 fun i hi=> ?_) fun ex a' w' ⟨aex,e',H',nx',c',hp⟩=> ?_
  ·rcases j4 i hi with h|h
   ·have:=hN i h;omega
   ·omega
  ·obtain⟨rfl,rfl,p1,p2,p3,p4,p5,p6⟩:=hp
   have hNc: ∀i,c'.N i→c.N i∨(nx≤i∧i<nx'):=by
    intro i hi
    rcases p4 i hi with h|h
    ·rcases j4 i h with h|h
     ·exact .inl h
     ·exact .inr ⟨h.1,by omega⟩
    ·exact .inr ⟨by omega,h.2⟩
   cases aex with
   |normal=>
    obtain⟨b',F,H2,q1,q2,q3,q4,q5⟩:=p6
    obtain⟨c2,s1,s2,s3,s4,s5⟩:=hc0 p1 (j3.trans p2) (fun i hi=>by rcases hNc i hi with h|h;have:=hN i h;omega;exact h.2) p3 q3 q4
    exact⟨μ b',q2,b',c2,H2,nx',rfl,s1,s2,s4,s3,fun i hi=>hNc i (s5 i hi),by omega,q5⟩
   |exit id=>exact⟨.exit id,e',H',nx',c',rfl,rfl,p1,j3.trans p2,p3,hNc,by omega,p6⟩
   |ret=>exact⟨.ret,e',H',nx',c',rfl,rfl,p1,j3.trans p2,p3,hNc,by omega,p6⟩
theorem aB.tW {P:Program} {f:FuncId} {args:List D} {H:aA} {nx:Nat} {K:D→aA→Nat→Prop}
 (h:aB P f args H nx fun r H' n'=>∃r2 H2 F,CvD H' F id n' r2 r∧CvX F n' H' H2∧K r2 H2 n'):aB P f args H nx K:=by
 refine⟨h.1,fun c vs hs hN hl hr=> ?_⟩
 refine(h.2 c vs hs hN hl hr).mono ?_
 rintro x w' ⟨v,c2,r,H2,n2,rfl,rfl,p1,p2,p3,p4,p5,r2,H3,F,q1,q2,q3⟩
 have hN2: ∀i,c2.N i→i<n2:=fun i hi=>by
  rcases p3 i hi with h|h
  ·have:=hN i h;omega
  ·exact h.2
 obtain⟨k1,k2⟩:=YO p1 p2 hN2 q2
 refine⟨v,c2.conv n2 n2 id (c2.frI H2 F),r2,H3,n2,rfl,rfl,k1,k2,fun i hi=> ?_,p4,zD p1 (fun b h=>.inl h) (fun id o h1 h2 h3=>.inr ⟨id,o,h1,h2,h3,rfl⟩) (fun _ _=>rfl) q1 p5,q3⟩
 rcases hi with⟨_,hi⟩|⟨h1,h2,h3⟩
 ·exact p3 i hi
 ·omega
section
variable {P : Program} {T : Nat} {e : Env} {H : aA} {nx : Nat} {Q : AQ}
theorem AWP.tW {x:AC} (e':Env) (H':aA) (F:Nat→Prop) (hE: ∀t,e' t=e t∨CvD H F id nx (e' t) (e t)) (hH:CvX F nx H H') (h:AWP P T x e' H' nx Q):AWP P T x e H nx Q:=by
 intro code hc c a hs he hN
 obtain⟨k1,k2⟩:=YO hs (Step.refl c H) hN hH
 refine wp_mono (h code hc (c.conv nx nx id (c.frI H F)) a k1 ⟨he.1,he.2.1,fun t=> ?_⟩ fun i hi=> ?_) ?_
 ·rcases hE t with h1|h1
  ·rw[h1]
   exact ac6 (fun b h=>.inl h) hN (he.2.2 t)
  ·exact zD hs (fun b h=>.inl h) (fun id o h1 h2 h3=>.inr ⟨id,o,h1,h2,h3,rfl⟩) (fun _ _=>rfl) h1 (he.2.2 t)
 ·rcases hi with⟨_,hi⟩|⟨h1,h2,h3⟩
  ·exact hN i hi
  ·omega
 ·rintro ex a w ⟨aex,e',H',nx',c',rfl,rfl,p1,p2,p3,p4,p5,p6⟩
  refine⟨aex,e',H',nx',c',rfl,rfl,p1,k2.trans p2,p3,fun i hi=> ?_,p5,p6⟩
  rcases p4 i hi with h|h
  ·rcases h with⟨_,hi⟩|⟨h1,h2,h3⟩
   ·exact .inl hi
   ·omega
  ·exact .inr h
theorem aM.tW {x:AC} {zs:List AC} (e':Env) (H':aA) (F:Nat→Prop) (hE: ∀t,e' t=e t∨CvD H F id nx (e' t) (e t)) (hH:CvX F nx H H') (h:aM P T (x::zs) e' H' nx Q):aM P T (x::zs) e H nx Q:=AWP.tW e' H' F hE hH h
end
end Go.AM
end
