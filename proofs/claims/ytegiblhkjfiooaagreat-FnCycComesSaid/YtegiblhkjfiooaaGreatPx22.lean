/- Texts laid together by a program: rules, contracts and the walk that leads to the law. -/
import Derived.Test.YtegiblhkjfiooaaGreatPx3
import Derived.Test.YtegiblhkjfiooaaGreatPx6
import Derived.Test.YtegiblhkjfiooaaGreatPx21
import Derived.Test.YtegiblhkjfiooaaGreatPx18
set_option linter.unusedVariables false
set_option linter.unusedSimpArgs false
set_option linter.unusedSectionVars false
section
namespace Go.Proofs.YtegiblhkjfiooaaGreat
open Go Go.AM
set_option maxRecDepth 100000
def aI3:AC:=
 (.seq (.region [rq 0 2 (.box true (.tm 0)),
 rq 1 3 (.box true (.tm 1)),
 rq 2 4 (.move (.kv (.bool false)))] 3 [2,3])
 (.seq (.seq (.region [rq 0 7 (.load 3 true (.tm 2)),
 rq 1 8 (.load 5 true (.tm 3)),
 rq 2 9 (.call aI5 [(.tm 7),(.tm 8)]),
 rq 3 10 (.un .not (.tm 9))] 4 [2,3,10])
 (.cond (.tm 10)
 (.seq (.region [rq 0 4 (.move (.kv (.bool false)))] 1 [4])
 .ret)
 .skip))
 (.seq (.region [rq 0 5 (.move (ki 0))] 1 [2,3,5])
 (.seq (.seq (.region [rq 0 6 (.move (ki 0))] 1 [2,3,5,6])
 (.block 0
 (.loop
 (.seq (.seq (.region [RM 0 11 6,
 rq 1 12 (.bin .lss (.tm 11) (ki 3))] 2 [2,3,5,6,12])
 (.cond (.tm 12)
 .skip
 (.exit 0)))
 (.seq (.block 1
 (.region [RM 0 15 5,
 RF 1 16 2 2,
 RL 2 17 16,
 RM 3 18 6,
 rq 4 19 (.idx 1 (.tm 17) (.tm 18)),
 RL 5 20 19,
 rq 6 21 (.len false (.tm 20)),
 rq 7 22 (.bin .add (.tm 15) (.tm 21)),
 RM 8 5 22] 9 [2,3,5,6]))
 (.region [RM 0 13 6,
 rq 1 14 (.bin .add (.tm 13) (ki 1)),
 RM 2 6 14] 3 [2,3,5,6]))))))
 (.seq (.region [RF 0 23 4 3,
 RL 1 24 23,
 rq 2 25 (.len false (.tm 24)),
 RM 3 26 5,
 rq 4 27 (.bin .eql (.tm 25) (.tm 26)),
 RM 5 4 27] 6 [4])
 .ret)))))
def aKO:List Cert:=[⟨[],[2,3]⟩,⟨[],[2,3,10]⟩,⟨[],[4]⟩,⟨[],[2,3,5]⟩,⟨[],[2,3,5,6]⟩,⟨[],[2,3,5,6,12]⟩,⟨[],[2,3,5,6]⟩,⟨[],[2,3,5,6]⟩,⟨[],[4]⟩]
def aJU:List aW:=[.tm 4]
theorem aKN:aO Tryz.prog Tryz.f42 aKO=some (aI3,aJU):=by kernel_rfl
theorem aKQ:aN Tryz.prog aIO Tryz.f42 aI3 aJU:=
 aN.mk Tryz.func42 (by kernel_rfl) aKN
def aJO:AC:=
 (.seq (.region [rq 0 2 (.box true (.tm 0)),
 rq 1 3 (.box true (.tm 1)),
 rq 2 4 (.move (.kv (.bool false)))] 3 [2,3])
 (.seq (.seq (.region [rq 0 8 (.load 3 true (.tm 2)),
 rq 1 9 (.call aIV [(.tm 8)]),
 rq 2 10 (.un .not (.tm 9)),
 RM 3 11 10,
 GQ 4 12 (.fld 0 (.tm 3)) 11 false,
 GQ 5 13 (.load 2 true (.tm 12)) 11 false,
 GQ 6 14 (.call aIU [(.tm 13)]) 11 false,
 GQ 7 15 (.un .not (.tm 14)) 11 false,
 rq 8 16 (.pick (.tm 11) (.kv (.bool true)) (.tm 15)),
 RM 9 17 16,
 GQ 10 18 (.fld 2 (.tm 3)) 17 false,
 GQ 11 19 (.load 1 false (.tm 18)) 17 false,
 GQ 12 20 (.len false (.tm 19)) 17 false,
 GQ 13 21 (.bin .neq (.tm 20) (ki 3)) 17 false,
 rq 14 22 (.pick (.tm 17) (.kv (.bool true)) (.tm 21)),
 RM 15 23 22,
 GQ 16 24 (.fld 3 (.tm 3)) 23 false,
 GQ 17 25 (.load 1 false (.tm 24)) 23 false,
 GQ 18 26 (.len false (.tm 25)) 23 false,
 GQ 19 27 (.bin .neq (.tm 26) (ki 4)) 23 false,
 rq 20 28 (.pick (.tm 23) (.kv (.bool true)) (.tm 27))] 21 [2,3,28])
 (.cond (.tm 28)
 (.seq (.region [rq 0 4 (.move (.kv (.bool false)))] 1 [4])
 .ret)
 .skip))
 (.seq (.region [rq 0 5 (.move (ki 0))] 1 [2,3,5])
 (.seq (.seq (.region [rq 0 6 (.move (ki 0))] 1 [2,3,5,6])
 (.block 0
 (.loop
 (.seq (.seq (.region [RM 0 29 6,
 rq 1 30 (.bin .lss (.tm 29) (ki 3))] 2 [2,3,5,6,30])
 (.cond (.tm 30)
 .skip
 (.exit 0)))
 (.seq (.block 1
 (.seq (.seq (.region [rq 0 33 (.load 3 true (.tm 2)),
 rq 1 34 (.load 5 true (.tm 3)),
 RM 2 35 6,
 rq 3 36 (.call aIY [(.tm 33),(.tm 34),(.tm 35)]),
 rq 4 37 (.un .not (.tm 36))] 5 [2,3,5,6,37])
 (.cond (.tm 37)
 (.seq (.region [rq 0 4 (.move (.kv (.bool false)))] 1 [4])
 .ret)
 .skip))
 (.region [RM 0 38 5,
 RF 1 39 2 3,
 RL 2 40 39,
 RM 3 41 6,
 rq 4 42 (.idx 4 (.tm 40) (.tm 41)),
 RF 5 43 2 42,
 RL 6 44 43,
 rq 7 45 (.len false (.tm 44)),
 rq 8 46 (.bin .add (.tm 38) (.tm 45)),
 RM 9 5 46] 10 [2,3,5,6])))
 (.region [RM 0 31 6,
 rq 1 32 (.bin .add (.tm 31) (ki 1)),
 RM 2 6 32] 3 [2,3,5,6]))))))
 (.seq (.seq (.region [rq 0 7 (.move (ki 0))] 1 [2,3,5,7])
 (.block 2
 (.loop
 (.seq (.seq (.region [RM 0 47 7,
 rq 1 48 (.bin .leq (.tm 47) (ki 3))] 2 [2,3,5,7,48])
 (.cond (.tm 48)
 .skip
 (.exit 2)))
 (.seq (.block 3
 (.seq (.seq (.region [rq 0 51 (.load 3 true (.tm 2)),
 rq 1 52 (.load 5 true (.tm 3)),
 RM 2 53 7,
 rq 3 54 (.call aIT [(.tm 51),(.tm 52),(.tm 53)]),
 rq 4 55 (.un .not (.tm 54))] 5 [2,3,5,7,55])
 (.cond (.tm 55)
 (.seq (.region [rq 0 4 (.move (.kv (.bool false)))] 1 [4])
 .ret)
 .skip))
 (.region [RM 0 56 5,
 RF 1 57 3 3,
 RL 2 58 57,
 RM 3 59 7,
 rq 4 60 (.idx 3 (.tm 58) (.tm 59)),
 RF 5 61 0 60,
 RL 6 62 61,
 rq 7 63 (.len false (.tm 62)),
 rq 8 64 (.bin .sub (.tm 56) (.tm 63)),
 RF 9 65 3 3,
 RL 10 66 65,
 RM 11 67 7,
 rq 12 68 (.idx 3 (.tm 66) (.tm 67)),
 RF 13 69 1 68,
 RL 14 70 69,
 rq 15 71 (.len false (.tm 70)),
 rq 16 72 (.bin .sub (.tm 64) (.tm 71)),
 RM 17 5 72] 18 [2,3,5,7])))
 (.region [RM 0 49 7,
 rq 1 50 (.bin .add (.tm 49) (ki 1)),
 RM 2 7 50] 3 [2,3,5,7]))))))
 (.seq (.region [RM 0 73 5,
 rq 1 74 (.bin .eql (.tm 73) (ki 0)),
 RM 2 75 74,
 ⟨3,(some 76),.load 3 true (.tm 2),(some (75,true)),[],[],true⟩,
 GQ 4 77 (.load 5 true (.tm 3)) 75 true,
 ⟨5,(some 78),.call aIZ [(.tm 77)],(some (75,true)),[],[3],false⟩,
 GQ 6 79 (.call aI6 [(.tm 76),(.tm 78)]) 75 true,
 rq 7 80 (.pick (.tm 75) (.tm 79) (.kv (.bool false))),
 RM 8 4 80] 9 [4])
 .ret))))))
def aL6:List Cert:=[⟨[],[2,3]⟩,⟨[],[2,3,28]⟩,⟨[],[4]⟩,⟨[],[2,3,5]⟩,⟨[],[2,3,5,6]⟩,⟨[],[2,3,5,6,30]⟩,⟨[],[2,3,5,6,37]⟩,⟨[],[4]⟩,⟨[],[2,3,5,6]⟩,⟨[],[2,3,5,6]⟩,⟨[],[2,3,5,7]⟩,⟨[],[2,3,5,7,48]⟩,⟨[],[2,3,5,7,55]⟩,⟨[],[4]⟩,⟨[cz 0,cz 1,cz 2,cz 3,cz 4,cz 5,cz 6,cz 7,cz 8,cz 9,cz 10,cz 11,cz 12,cz 13,cz 14,cz 15,cz 16,cz 17],[2,3,5,7]⟩,⟨[],[2,3,5,7]⟩,⟨[cz 0,cz 1,cz 2,(3,[],[],true),cz 4,(5,[],[3],false),cz 6,cz 7,cz 8],[4]⟩]
def aJ9:List aW:=[.tm 4]
theorem aMD:aO Tryz.prog Tryz.f91 aL6=some (aJO,aJ9):=by kernel_rfl
theorem aLQ:aN Tryz.prog aI5 Tryz.f91 aJO aJ9:=
 aN.mk Tryz.func91 (by kernel_rfl) aMD
def aJG:AC:=
 (.seq (.region [rq 0 3 (.box true (.tm 0)),
 rq 1 4 (.box true (.tm 1)),
 rq 2 6 (.move (.kv (.bool false)))] 3 [2,3,4])
 (.seq (.region [RF 0 12 2 4,
 RL 1 13 12,
 RM 2 14 2,
 rq 3 15 (.idx 4 (.tm 13) (.tm 14)),
 rq 4 16 (.load 4 true (.tm 15)),
 rq 5 7 (.alloc [VZ,OZ,OZ,VZ]),
 rn 6 (.store 4 true (.tm 7) (.tm 16))] 7 [2,3,7])
 (.seq (.seq (.region [RF 0 17 0 7,
 RL 1 18 17,
 RF 2 19 2 3,
 RL 3 20 19,
 RM 4 21 2,
 rq 5 22 (.idx 1 (.tm 20) (.tm 21)),
 RL 6 23 22,
 rq 7 24 (.len false (.tm 23)),
 rq 8 25 (.call y2 [(.tm 18),(ki 0),(.tm 24)]),
 rq 9 26 (.un .not (.tm 25)),
 RM 10 27 26,
 GQ 11 28 (.fld 1 (.tm 7)) 27 false,
 GQ 12 29 (.load 1 false (.tm 28)) 27 false,
 GQ 13 30 (.len false (.tm 29)) 27 false,
 GQ 14 31 (.bin .gtr (.tm 30) (ki 2)) 27 false,
 rq 15 32 (.pick (.tm 27) (.kv (.bool true)) (.tm 31)),
 RM 16 33 32,
 GQ 17 34 (.fld 1 (.tm 7)) 33 false,
 GQ 18 35 (.load 1 false (.tm 34)) 33 false,
 GQ 19 36 (.len false (.tm 35)) 33 false,
 GQ 20 37 (.fld 0 (.tm 7)) 33 false,
 GQ 21 38 (.load 1 false (.tm 37)) 33 false,
 GQ 22 39 (.bin .gtr (.tm 36) (.tm 38)) 33 false,
 rq 23 40 (.pick (.tm 33) (.kv (.bool true)) (.tm 39)),
 RM 24 41 40,
 GQ 25 42 (.fld 2 (.tm 7)) 41 false,
 GQ 26 43 (.load 1 false (.tm 42)) 41 false,
 GQ 27 44 (.len false (.tm 43)) 41 false,
 GQ 28 45 (.bin .gtr (.tm 44) (ki 4)) 41 false,
 rq 29 46 (.pick (.tm 41) (.kv (.bool true)) (.tm 45)),
 RM 30 47 46,
 GQ 31 48 (.fld 3 (.tm 7)) 47 false,
 GQ 32 49 (.load 1 false (.tm 48)) 47 false,
 GQ 33 50 (.call y2 [(.tm 49),(ki 0),(ki 3)]) 47 false,
 GQ 34 51 (.un .not (.tm 50)) 47 false,
 rq 35 52 (.pick (.tm 47) (.kv (.bool true)) (.tm 51))] 36 [2,3,7,52])
 (.cond (.tm 52)
 (.seq (.region [rq 0 6 (.move (.kv (.bool false)))] 1 [6])
 .ret)
 .skip))
 (.seq (.seq (.region [rq 0 8 (.move (ki 0))] 1 [2,3,7,8])
 (.block 0
 (.loop
 (.seq (.seq (.region [RM 0 53 8,
 RF 1 54 1 7,
 RL 2 55 54,
 rq 3 56 (.len false (.tm 55)),
 rq 4 57 (.bin .lss (.tm 53) (.tm 56))] 5 [2,3,7,8,57])
 (.cond (.tm 57)
 .skip
 (.exit 0)))
 (.seq (.block 1
 (.seq (.region [RF 0 60 1 7,
 RL 1 61 60,
 RM 2 62 8,
 rq 3 63 (.idx 1 (.tm 61) (.tm 62)),
 RL 4 64 63,
 RF 5 65 0 7,
 RL 6 66 65,
 RF 7 67 1 7,
 RL 8 68 67,
 rq 9 69 (.len false (.tm 68)),
 rq 10 70 (.bin .sub (.tm 66) (.tm 69)),
 RM 11 71 8,
 rq 12 72 (.bin .add (.tm 70) (.tm 71)),
 rq 13 73 (.bin .neq (.tm 64) (.tm 72))] 14 [2,3,7,8,73])
 (.cond (.tm 73)
 (.seq (.region [rq 0 6 (.move (.kv (.bool false)))] 1 [6])
 .ret)
 .skip)))
 (.region [RM 0 58 8,
 rq 1 59 (.bin .add (.tm 58) (ki 1)),
 RM 2 8 59] 3 [2,3,7,8]))))))
 (.seq (.seq (.region [rq 0 9 (.move (ki 0))] 1 [2,3,7,9])
 (.block 2
 (.loop
 (.seq (.seq (.region [RM 0 74 9,
 RF 1 75 2 7,
 RL 2 76 75,
 rq 3 77 (.len false (.tm 76)),
 rq 4 78 (.bin .lss (.tm 74) (.tm 77))] 5 [2,3,7,9,78])
 (.cond (.tm 78)
 .skip
 (.exit 2)))
 (.seq (.block 3
 (.seq (.region [RF 0 81 2 7,
 RL 1 82 81,
 RM 2 83 9,
 rq 3 84 (.idx 3 (.tm 82) (.tm 83)),
 rq 4 85 (.load 3 true (.tm 84)),
 rq 5 10 (.alloc [VZ,VZ,VZ]),
 rn 6 (.store 3 true (.tm 10) (.tm 85))] 7 [2,3,7,9,10])
 (.seq (.seq (.region [RF 0 86 0 10,
 RL 1 87 86,
 RM 2 88 2,
 rq 3 89 (.bin .neq (.tm 87) (.tm 88)),
 RM 4 90 89,
 GQ 5 91 (.fld 1 (.tm 10)) 90 false,
 GQ 6 92 (.load 1 false (.tm 91)) 90 false,
 GQ 7 93 (.fld 0 (.tm 7)) 90 false,
 GQ 8 94 (.load 1 false (.tm 93)) 90 false,
 GQ 9 95 (.fld 1 (.tm 7)) 90 false,
 GQ 10 96 (.load 1 false (.tm 95)) 90 false,
 GQ 11 97 (.len false (.tm 96)) 90 false,
 GQ 12 98 (.bin .sub (.tm 94) (.tm 97)) 90 false,
 GQ 13 99 (.bin .sub (.tm 98) (ki 1)) 90 false,
 GQ 14 100 (.call y2 [(.tm 92),(ki 0),(.tm 99)]) 90 false,
 GQ 15 101 (.un .not (.tm 100)) 90 false,
 rq 16 102 (.pick (.tm 90) (.kv (.bool true)) (.tm 101)),
 RM 17 103 102,
 GQ 18 104 (.move (.tm 9)) 103 false,
 GQ 19 105 (.bin .gtr (.tm 104) (ki 0)) 103 false,
 GQ 20 106 (.move (.tm 105)) 103 false,
 GQ 21 107 (.fld 2 (.tm 7)) 106 true,
 GQ 22 108 (.load 1 false (.tm 107)) 106 true,
 GQ 23 109 (.move (.tm 9)) 106 true,
 GQ 24 110 (.bin .sub (.tm 109) (ki 1)) 106 true,
 GQ 25 111 (.idx 3 (.tm 108) (.tm 110)) 106 true,
 GQ 26 112 (.fld 1 (.tm 111)) 106 true,
 GQ 27 113 (.load 1 false (.tm 112)) 106 true,
 GQ 28 114 (.fld 1 (.tm 10)) 106 true,
 GQ 29 115 (.load 1 false (.tm 114)) 106 true,
 GQ 30 116 (.bin .geq (.tm 113) (.tm 115)) 106 true,
 GQ 31 117 (.pick (.tm 106) (.tm 116) (.kv (.bool false))) 103 false,
 rq 32 118 (.pick (.tm 103) (.kv (.bool true)) (.tm 117)),
 RM 33 119 118,
 GQ 34 120 (.fld 2 (.tm 10)) 119 false,
 ⟨35,(some 121),.load 1 false (.tm 120),(some (119,false)),[],[],true⟩,
 GQ 36 122 (.fld 0 (.tm 3)) 119 false,
 GQ 37 123 (.load 1 false (.tm 122)) 119 false,
 GQ 38 124 (.fld 2 (.tm 3)) 119 false,
 GQ 39 125 (.load 1 false (.tm 124)) 119 false,
 GQ 40 126 (.move (.tm 2)) 119 false,
 GQ 41 127 (.idx 1 (.tm 125) (.tm 126)) 119 false,
 GQ 42 128 (.load 1 false (.tm 127)) 119 false,
 GQ 43 129 (.fld 1 (.tm 10)) 119 false,
 GQ 44 130 (.load 1 false (.tm 129)) 119 false,
 GQ 45 131 (.idx 7 (.tm 128) (.tm 130)) 119 false,
 GQ 46 132 (.load 7 true (.tm 131)) 119 false,
 ⟨47,(some 133),.call y3 [(.tm 123),(.tm 132)],(some (119,false)),[],[35],false⟩,
 GQ 48 134 (.bin .neq (.tm 121) (.tm 133)) 119 false,
 rq 49 135 (.pick (.tm 119) (.kv (.bool true)) (.tm 134))] 50 [2,3,7,9,10,135])
 (.cond (.tm 135)
 (.seq (.region [rq 0 6 (.move (.kv (.bool false)))] 1 [6])
 .ret)
 .skip))
 (.seq (.region [rq 0 11 (.move (ki 0))] 1 [2,3,7,9,10,11])
 (.block 4
 (.loop
 (.seq (.seq (.region [RM 0 136 11,
 RM 1 137 9,
 rq 2 138 (.bin .lss (.tm 136) (.tm 137))] 3 [2,3,7,9,10,11,138])
 (.cond (.tm 138)
 .skip
 (.exit 4)))
 (.seq (.block 5
 (.seq (.region [RF 0 141 2 3,
 RL 1 142 141,
 RM 2 143 2,
 rq 3 144 (.idx 1 (.tm 142) (.tm 143)),
 RL 4 145 144,
 RF 5 146 2 7,
 RL 6 147 146,
 RM 7 148 11,
 rq 8 149 (.idx 3 (.tm 147) (.tm 148)),
 RF 9 150 1 149,
 RL 10 151 150,
 rq 11 152 (.idx 7 (.tm 145) (.tm 151)),
 RF 12 153 0 152,
 RL 13 154 153,
 RF 14 155 2 3,
 RL 15 156 155,
 RM 16 157 2,
 rq 17 158 (.idx 1 (.tm 156) (.tm 157)),
 RL 18 159 158,
 RF 19 160 1 10,
 RL 20 161 160,
 rq 21 162 (.idx 7 (.tm 159) (.tm 161)),
 RF 22 163 0 162,
 RL 23 164 163,
 rq 24 165 (.bin .eql (.tm 154) (.tm 164)),
 RM 25 166 165,
 GQ 26 167 (.fld 2 (.tm 7)) 166 true,
 GQ 27 168 (.load 1 false (.tm 167)) 166 true,
 GQ 28 169 (.move (.tm 11)) 166 true,
 GQ 29 170 (.idx 3 (.tm 168) (.tm 169)) 166 true,
 GQ 30 171 (.fld 2 (.tm 170)) 166 true,
 GQ 31 172 (.load 1 false (.tm 171)) 166 true,
 GQ 32 173 (.fld 2 (.tm 10)) 166 true,
 GQ 33 174 (.load 1 false (.tm 173)) 166 true,
 GQ 34 175 (.bin .neq (.tm 172) (.tm 174)) 166 true,
 rq 35 176 (.pick (.tm 166) (.tm 175) (.kv (.bool false)))] 36 [2,3,7,9,10,11,176])
 (.cond (.tm 176)
 (.seq (.region [rq 0 6 (.move (.kv (.bool false)))] 1 [6])
 .ret)
 .skip)))
 (.region [RM 0 139 11,
 rq 1 140 (.bin .add (.tm 139) (ki 1)),
 RM 2 11 140] 3 [2,3,7,9,10,11])))))))))
 (.region [RM 0 79 9,
 rq 1 80 (.bin .add (.tm 79) (ki 1)),
 RM 2 9 80] 3 [2,3,7,9]))))))
 (.seq (.region [rq 0 6 (.move (.kv (.bool true)))] 1 [6])
 .ret))))))
def aLM:List Cert:=[⟨[],[2,3,4]⟩,⟨[],[2,3,7]⟩,⟨[cz 0,cz 1,cz 2,cz 3,cz 4,cz 5,cz 6,cz 7,cz 8,cz 9,cz 10,cz 11,cz 12,cz 13,cz 14,cz 15,cz 16,cz 17,cz 18,cz 19,cz 20,cz 21,cz 22,cz 23,cz 24,cz 25,cz 26,cz 27,cz 28,cz 29,cz 30,cz 31,cz 32,cz 33,cz 34,cz 35],[2,3,7,52]⟩,⟨[],[6]⟩,⟨[],[2,3,7,8]⟩,⟨[],[2,3,7,8,57]⟩,⟨[cz 0,cz 1,cz 2,cz 3,cz 4,cz 5,cz 6,cz 7,cz 8,cz 9,cz 10,cz 11,cz 12,cz 13],[2,3,7,8,73]⟩,⟨[],[6]⟩,⟨[],[2,3,7,8]⟩,⟨[],[2,3,7,9]⟩,⟨[],[2,3,7,9,78]⟩,⟨[],[2,3,7,9,10]⟩,⟨[cz 0,cz 1,cz 2,cz 3,cz 4,cz 5,cz 6,cz 7,cz 8,cz 9,cz 10,cz 11,cz 12,cz 13,cz 14,cz 15,cz 16,cz 17,cz 18,cz 19,cz 20,cz 21,cz 22,cz 23,cz 24,cz 25,cz 26,cz 27,cz 28,cz 29,cz 30,cz 31,cz 32,cz 33,cz 34,(35,[],[],true),cz 36,cz 37,cz 38,cz 39,cz 40,cz 41,cz 42,cz 43,cz 44,cz 45,cz 46,(47,[],[35],false),cz 48,cz 49],[2,3,7,9,10,135]⟩,⟨[],[6]⟩,⟨[],[2,3,7,9,10,11]⟩,⟨[],[2,3,7,9,10,11,138]⟩,⟨[cz 0,cz 1,cz 2,cz 3,cz 4,cz 5,cz 6,cz 7,cz 8,cz 9,cz 10,cz 11,cz 12,cz 13,cz 14,cz 15,cz 16,cz 17,cz 18,cz 19,cz 20,cz 21,cz 22,cz 23,cz 24,cz 25,cz 26,cz 27,cz 28,cz 29,cz 30,cz 31,cz 32,cz 33,cz 34,cz 35],[2,3,7,9,10,11,176]⟩,⟨[],[6]⟩,⟨[],[2,3,7,9,10,11]⟩,⟨[],[2,3,7,9]⟩,⟨[],[6]⟩]
def aJ2:List aW:=[.tm 6]
theorem aLJ:aO Tryz.prog Tryz.f163 aLM=some (aJG,aJ2):=by kernel_rfl
theorem aLA:aN Tryz.prog aIY Tryz.f163 aJG aJ2:=
 aN.mk Tryz.func163 (by kernel_rfl) aLJ
def aI4:AC:=
 (.seq (.region [rq 0 3 (.box true (.tm 0)),
 rq 1 4 (.box true (.tm 1)),
 rq 2 6 (.move (.kv (.bool false)))] 3 [2,3,4])
 (.seq (.region [RF 0 15 3 4,
 RL 1 16 15,
 RM 2 17 2,
 rq 3 18 (.idx 3 (.tm 16) (.tm 17)),
 rq 4 19 (.load 3 true (.tm 18)),
 rq 5 7 (.alloc [OZ,OZ,VZ]),
 rn 6 (.store 3 true (.tm 7) (.tm 19))] 7 [2,3,4,7])
 (.seq (.seq (.region [RF 0 20 0 7,
 RL 1 21 20,
 rq 2 22 (.len false (.tm 21)),
 rq 3 23 (.bin .gtr (.tm 22) (ki 2)),
 RM 4 24 23,
 GQ 5 25 (.fld 1 (.tm 7)) 24 false,
 GQ 6 26 (.load 1 false (.tm 25)) 24 false,
 GQ 7 27 (.len false (.tm 26)) 24 false,
 GQ 8 28 (.bin .gtr (.tm 27) (ki 2)) 24 false,
 rq 9 29 (.pick (.tm 24) (.kv (.bool true)) (.tm 28)),
 RM 10 30 29,
 GQ 11 31 (.fld 2 (.tm 7)) 30 false,
 GQ 12 32 (.load 1 false (.tm 31)) 30 false,
 GQ 13 33 (.call y2 [(.tm 32),(ki 0),(ki 2)]) 30 false,
 GQ 14 34 (.un .not (.tm 33)) 30 false,
 rq 15 35 (.pick (.tm 30) (.kv (.bool true)) (.tm 34))] 16 [2,3,4,7,35])
 (.cond (.tm 35)
 (.seq (.region [rq 0 6 (.move (.kv (.bool false)))] 1 [6])
 .ret)
 .skip))
 (.seq (.region [rq 0 36 (.bC 5 0 [VZ,VZ,VZ,VZ,OZ] []),
 RM 1 8 36] 2 [2,3,4,7,8])
 (.seq (.seq (.region [rq 0 9 (.move (ki 0))] 1 [2,3,4,7,8,9])
 (.block 0
 (.loop
 (.seq (.seq (.region [RM 0 37 9,
 RF 1 38 1 7,
 RL 2 39 38,
 rq 3 40 (.len false (.tm 39)),
 rq 4 41 (.bin .lss (.tm 37) (.tm 40))] 5 [2,3,4,7,8,9,41])
 (.cond (.tm 41)
 .skip
 (.exit 0)))
 (.seq (.block 1
 (.seq (.region [RF 0 44 1 7,
 RL 1 45 44,
 RM 2 46 9,
 rq 3 47 (.idx 5 (.tm 45) (.tm 46)),
 rq 4 48 (.load 5 true (.tm 47)),
 rq 5 10 (.alloc [VZ,VZ,VZ,VZ,OZ]),
 rn 6 (.store 5 true (.tm 10) (.tm 48))] 7 [2,3,4,7,8,9,10])
 (.seq (.seq (.region [rq 0 49 (.load 5 true (.tm 4)),
 RF 1 50 0 10,
 RL 2 51 50,
 RF 3 52 1 10,
 RL 4 53 52,
 RM 5 54 2,
 rq 6 55 (.call aJX [(.tm 49),(.tm 51),(.tm 53),(.tm 54)]),
 rq 7 56 (.un .not (.tm 55)),
 RM 8 57 56,
 GQ 9 58 (.fld 2 (.tm 10)) 57 false,
 GQ 10 59 (.load 3 true (.tm 58)) 57 false,
 GQ 11 60 (.call aIP [(.tm 59)]) 57 false,
 GQ 12 61 (.un .not (.tm 60)) 57 false,
 rq 13 62 (.pick (.tm 57) (.kv (.bool true)) (.tm 61)),
 RM 14 63 62,
 GQ 15 64 (.fld 2 (.tm 10)) 63 false,
 GQ 16 65 (.fld 0 (.tm 64)) 63 false,
 GQ 17 66 (.load 1 false (.tm 65)) 63 false,
 GQ 18 67 (.fld 2 (.tm 3)) 63 false,
 GQ 19 68 (.load 1 false (.tm 67)) 63 false,
 GQ 20 69 (.fld 0 (.tm 10)) 63 false,
 GQ 21 70 (.load 1 false (.tm 69)) 63 false,
 GQ 22 71 (.idx 1 (.tm 68) (.tm 70)) 63 false,
 GQ 23 72 (.load 1 false (.tm 71)) 63 false,
 GQ 24 73 (.fld 1 (.tm 10)) 63 false,
 GQ 25 74 (.load 1 false (.tm 73)) 63 false,
 GQ 26 75 (.idx 7 (.tm 72) (.tm 74)) 63 false,
 GQ 27 76 (.fld 0 (.tm 75)) 63 false,
 GQ 28 77 (.load 1 false (.tm 76)) 63 false,
 GQ 29 78 (.bin .neq (.tm 66) (.tm 77)) 63 false,
 rq 30 79 (.pick (.tm 63) (.kv (.bool true)) (.tm 78))] 31 [2,3,4,7,8,9,10,79])
 (.cond (.tm 79)
 (.seq (.region [rq 0 6 (.move (.kv (.bool false)))] 1 [6])
 .ret)
 .skip))
 (.region [RM 0 80 8,
 RF 1 81 0 10,
 RL 2 82 81,
 RF 3 83 1 10,
 RL 4 84 83,
 rq 5 85 (.build [VZ,VZ,VZ,VZ,OZ] [(0,1,(.tm 82)),(1,1,(.tm 84))]),
 rq 6 86 (.bC 5 1 [VZ,VZ,VZ,VZ,OZ] [(0,5,(.tm 85))]),
 rq 7 87 (.append 5 (.tm 80) (.tm 86)),
 RM 8 8 87] 9 [2,3,4,7,8,9]))))
 (.region [RM 0 42 9,
 rq 1 43 (.bin .add (.tm 42) (ki 1)),
 RM 2 9 43] 3 [2,3,4,7,8,9]))))))
 (.seq (.seq (.region [rq 0 11 (.move (ki 0))] 1 [2,3,4,7,8,11])
 (.block 2
 (.loop
 (.seq (.seq (.region [RM 0 88 11,
 RF 1 89 0 7,
 RL 2 90 89,
 rq 3 91 (.len false (.tm 90)),
 rq 4 92 (.bin .lss (.tm 88) (.tm 91))] 5 [2,3,4,7,8,11,92])
 (.cond (.tm 92)
 .skip
 (.exit 2)))
 (.seq (.block 3
 (.seq (.region [RF 0 95 0 7,
 RL 1 96 95,
 RM 2 97 11,
 rq 3 98 (.idx 3 (.tm 96) (.tm 97)),
 rq 4 99 (.load 3 true (.tm 98)),
 rq 5 12 (.alloc [VZ,VZ,VZ]),
 rn 6 (.store 3 true (.tm 12) (.tm 99))] 7 [2,3,4,7,8,11,12])
 (.seq (.seq (.region [rq 0 100 (.load 5 true (.tm 4)),
 RF 1 101 0 12,
 RL 2 102 101,
 RF 3 103 1 12,
 RL 4 104 103,
 RM 5 105 2,
 rq 6 106 (.call aJX [(.tm 100),(.tm 102),(.tm 104),(.tm 105)]),
 rq 7 107 (.un .not (.tm 106)),
 RM 8 108 107,
 GQ 9 109 (.fld 2 (.tm 12)) 108 false,
 GQ 10 110 (.load 1 false (.tm 109)) 108 false,
 GQ 11 111 (.fld 1 (.tm 3)) 108 false,
 GQ 12 112 (.load 1 false (.tm 111)) 108 false,
 GQ 13 113 (.move (.tm 2)) 108 false,
 GQ 14 114 (.idx 1 (.tm 112) (.tm 113)) 108 false,
 GQ 15 115 (.load 1 false (.tm 114)) 108 false,
 GQ 16 116 (.call y2 [(.tm 110),(ki 0),(.tm 115)]) 108 false,
 GQ 17 117 (.un .not (.tm 116)) 108 false,
 rq 18 118 (.pick (.tm 108) (.kv (.bool true)) (.tm 117)),
 RM 19 119 118,
 GQ 20 120 (.move (.tm 11)) 119 false,
 GQ 21 121 (.bin .gtr (.tm 120) (ki 0)) 119 false,
 GQ 22 122 (.move (.tm 121)) 119 false,
 GQ 23 123 (.fld 2 (.tm 12)) 122 true,
 GQ 24 124 (.load 1 false (.tm 123)) 122 true,
 GQ 25 125 (.fld 1 (.tm 3)) 122 true,
 GQ 26 126 (.load 1 false (.tm 125)) 122 true,
 GQ 27 127 (.move (.tm 2)) 122 true,
 GQ 28 128 (.idx 1 (.tm 126) (.tm 127)) 122 true,
 GQ 29 129 (.load 1 false (.tm 128)) 122 true,
 GQ 30 130 (.bin .neq (.tm 124) (.tm 129)) 122 true,
 GQ 31 131 (.pick (.tm 122) (.tm 130) (.kv (.bool false))) 119 false,
 rq 32 132 (.pick (.tm 119) (.kv (.bool true)) (.tm 131))] 33 [2,3,4,7,8,11,12,132])
 (.cond (.tm 132)
 (.seq (.region [rq 0 6 (.move (.kv (.bool false)))] 1 [6])
 .ret)
 .skip))
 (.region [RM 0 133 8,
 RF 1 134 0 12,
 RL 2 135 134,
 RF 3 136 1 12,
 RL 4 137 136,
 rq 5 138 (.build [VZ,VZ,VZ,VZ,OZ] [(0,1,(.tm 135)),(1,1,(.tm 137))]),
 rq 6 139 (.bC 5 1 [VZ,VZ,VZ,VZ,OZ] [(0,5,(.tm 138))]),
 rq 7 140 (.append 5 (.tm 133) (.tm 139)),
 RM 8 8 140] 9 [2,3,4,7,8,11]))))
 (.region [RM 0 93 11,
 rq 1 94 (.bin .add (.tm 93) (ki 1)),
 RM 2 11 94] 3 [2,3,4,7,8,11]))))))
 (.seq (.seq (.region [rq 0 13 (.move (ki 0))] 1 [8,13])
 (.block 4
 (.loop
 (.seq (.seq (.region [RM 0 141 13,
 RM 1 142 8,
 rq 2 143 (.len false (.tm 142)),
 rq 3 144 (.bin .lss (.tm 141) (.tm 143))] 4 [8,13,144])
 (.cond (.tm 144)
 .skip
 (.exit 4)))
 (.seq (.block 5
 (.seq (.region [rq 0 14 (.move (ki 0))] 1 [8,13,14])
 (.block 6
 (.loop
 (.seq (.seq (.region [RM 0 147 14,
 RM 1 148 13,
 rq 2 149 (.bin .lss (.tm 147) (.tm 148))] 3 [8,13,14,149])
 (.cond (.tm 149)
 .skip
 (.exit 6)))
 (.seq (.block 7
 (.seq (.region [RM 0 152 8,
 RM 1 153 14,
 rq 2 154 (.idx 5 (.tm 152) (.tm 153)),
 RF 3 155 0 154,
 RL 4 156 155,
 RM 5 157 8,
 RM 6 158 13,
 rq 7 159 (.idx 5 (.tm 157) (.tm 158)),
 RF 8 160 0 159,
 RL 9 161 160,
 rq 10 162 (.bin .eql (.tm 156) (.tm 161)),
 RM 11 163 162,
 GQ 12 164 (.move (.tm 8)) 163 true,
 GQ 13 165 (.move (.tm 14)) 163 true,
 GQ 14 166 (.idx 5 (.tm 164) (.tm 165)) 163 true,
 GQ 15 167 (.fld 1 (.tm 166)) 163 true,
 GQ 16 168 (.load 1 false (.tm 167)) 163 true,
 GQ 17 169 (.move (.tm 8)) 163 true,
 GQ 18 170 (.move (.tm 13)) 163 true,
 GQ 19 171 (.idx 5 (.tm 169) (.tm 170)) 163 true,
 GQ 20 172 (.fld 1 (.tm 171)) 163 true,
 GQ 21 173 (.load 1 false (.tm 172)) 163 true,
 GQ 22 174 (.bin .geq (.tm 168) (.tm 173)) 163 true,
 rq 23 175 (.pick (.tm 163) (.tm 174) (.kv (.bool false)))] 24 [8,13,14,175])
 (.cond (.tm 175)
 (.seq (.region [rq 0 6 (.move (.kv (.bool false)))] 1 [6])
 .ret)
 .skip)))
 (.region [RM 0 150 14,
 rq 1 151 (.bin .add (.tm 150) (ki 1)),
 RM 2 14 151] 3 [8,13,14])))))))
 (.region [RM 0 145 13,
 rq 1 146 (.bin .add (.tm 145) (ki 1)),
 RM 2 13 146] 3 [8,13]))))))
 (.seq (.region [rq 0 6 (.move (.kv (.bool true)))] 1 [6])
 .ret))))))))
def aKR:List Cert:=[⟨[],[2,3,4]⟩,⟨[],[2,3,4,7]⟩,⟨[],[2,3,4,7,35]⟩,⟨[],[6]⟩,⟨[],[2,3,4,7,8]⟩,⟨[],[2,3,4,7,8,9]⟩,⟨[],[2,3,4,7,8,9,41]⟩,⟨[],[2,3,4,7,8,9,10]⟩,⟨[cz 0,cz 1,cz 2,cz 3,cz 4,cz 5,cz 6,cz 7,cz 8,cz 9,cz 10,cz 11,cz 12,cz 13,cz 14,cz 15,cz 16,cz 17,cz 18,cz 19,cz 20,cz 21,cz 22,cz 23,cz 24,cz 25,cz 26,cz 27,cz 28,cz 29,cz 30],[2,3,4,7,8,9,10,79]⟩,⟨[],[6]⟩,⟨[],[2,3,4,7,8,9]⟩,⟨[],[2,3,4,7,8,9]⟩,⟨[],[2,3,4,7,8,11]⟩,⟨[],[2,3,4,7,8,11,92]⟩,⟨[],[2,3,4,7,8,11,12]⟩,⟨[cz 0,cz 1,cz 2,cz 3,cz 4,cz 5,cz 6,cz 7,cz 8,cz 9,cz 10,cz 11,cz 12,cz 13,cz 14,cz 15,cz 16,cz 17,cz 18,cz 19,cz 20,cz 21,cz 22,cz 23,cz 24,cz 25,cz 26,cz 27,cz 28,cz 29,cz 30,cz 31,cz 32],[2,3,4,7,8,11,12,132]⟩,⟨[],[6]⟩,⟨[],[2,3,4,7,8,11]⟩,⟨[],[2,3,4,7,8,11]⟩,⟨[],[8,13]⟩,⟨[],[8,13,144]⟩,⟨[],[8,13,14]⟩,⟨[],[8,13,14,149]⟩,⟨[cz 0,cz 1,cz 2,cz 3,cz 4,cz 5,cz 6,cz 7,cz 8,cz 9,cz 10,cz 11,cz 12,cz 13,cz 14,cz 15,cz 16,cz 17,cz 18,cz 19,cz 20,cz 21,cz 22,cz 23],[8,13,14,175]⟩,⟨[],[6]⟩,⟨[],[8,13,14]⟩,⟨[],[8,13]⟩,⟨[],[6]⟩]
def aJT:List aW:=[.tm 6]
theorem aKM:aO Tryz.prog Tryz.f164 aKR=some (aI4,aJT):=by kernel_rfl
theorem aKP:aN Tryz.prog aIT Tryz.f164 aI4 aJT:=
 aN.mk Tryz.func164 (by kernel_rfl) aKM
def aJA:AC:=
 (.seq (.region [rq 0 1 (.box true (.tm 0)),
 rq 1 2 (.alloc [OZ,OZ,OZ,OZ,OZ,OZ])] 2 [1,2])
 (.seq (.region [RF 0 9 0 1,
 ⟨1,(some 10),.load 2 true (.tm 9),none,[7],[],false⟩,
 RF 3 12 4 1,
 ⟨4,(some 13),.load 1 false (.tm 12),none,[7],[],true⟩,
 rq 7 3 (.alloc [OZ,OZ,OZ,OZ,OZ,OZ]),
 ⟨2,(some 11),.call aIR [(.tm 10)],none,[7],[4],false⟩,
 ⟨5,(some 14),.call aIM [(.tm 13)],none,[7],[],false⟩,
 rq 6 15 (.build [OZ,OZ,OZ,OZ,OZ,OZ] [(0,2,(.tm 11)),(5,1,(.tm 14))]),
 rn 8 (.store 6 true (.tm 3) (.tm 15))] 9 [1,2,3])
 (.seq (.seq (.region [rq 0 4 (.move (ki 0))] 1 [1,2,3,4])
 (.block 0
 (.loop
 (.seq (.seq (.region [RM 0 16 4,
 RF 1 17 2 1,
 RL 2 18 17,
 rq 3 19 (.len false (.tm 18)),
 rq 4 20 (.bin .lss (.tm 16) (.tm 19))] 5 [1,2,3,4,20])
 (.cond (.tm 20)
 .skip
 (.exit 0)))
 (.seq (.block 1
 (.seq (.region [RF 0 23 2 3,
 ⟨1,(some 24),.load 1 false (.tm 23),none,[8],[],false⟩,
 RF 2 25 2 1,
 RL 3 26 25,
 RM 4 27 4,
 rq 5 28 (.idx 4 (.tm 26) (.tm 27)),
 RF 6 29 0 28,
 RL 7 30 29,
 rq 8 31 (.bC 1 1 [VZ] [(0,1,(.tm 30))]),
 rq 9 32 (.append 1 (.tm 24) (.tm 31)),
 RF 10 33 2 3,
 rn 11 (.store 1 false (.tm 33) (.tm 32))] 12 [1,2,3,4])
 (.seq (.region [rq 0 5 (.move (ki 0))] 1 [1,2,3,4,5])
 (.block 2
 (.loop
 (.seq (.seq (.region [RM 0 34 5,
 RF 1 35 2 1,
 RL 2 36 35,
 RM 3 37 4,
 rq 4 38 (.idx 4 (.tm 36) (.tm 37)),
 RF 5 39 1 38,
 RL 6 40 39,
 rq 7 41 (.len false (.tm 40)),
 rq 8 42 (.bin .lss (.tm 34) (.tm 41))] 9 [1,2,3,4,5,42])
 (.cond (.tm 42)
 .skip
 (.exit 2)))
 (.seq (.block 3
 (.region [RF 0 45 3 3,
 RL 1 46 45,
 RM 2 47 4,
 RF 3 48 2 1,
 RL 4 49 48,
 RM 5 50 4,
 rq 6 51 (.idx 4 (.tm 49) (.tm 50)),
 RF 7 52 1 51,
 RL 8 53 52,
 RM 9 54 5,
 rq 10 55 (.idx 1 (.tm 53) (.tm 54)),
 RL 11 56 55,
 rq 12 57 (.build [VZ,VZ,VZ,VZ,OZ] [(0,1,(.tm 47)),(1,1,(.tm 56))]),
 rq 13 58 (.call aJS [(.tm 46),(.tm 57)]),
 RF 14 59 3 3,
 rn 15 (.store 1 false (.tm 59) (.tm 58))] 16 [1,2,3,4,5]))
 (.region [RM 0 43 5,
 rq 1 44 (.bin .add (.tm 43) (ki 1)),
 RM 2 5 44] 3 [1,2,3,4,5]))))))))
 (.region [RM 0 21 4,
 rq 1 22 (.bin .add (.tm 21) (ki 1)),
 RM 2 4 22] 3 [1,2,3,4]))))))
 (.seq (.seq (.region [rq 0 6 (.move (ki 0))] 1 [1,2,3,6])
 (.block 4
 (.loop
 (.seq (.seq (.region [RM 0 60 6,
 RF 1 61 3 1,
 RL 2 62 61,
 rq 3 63 (.len false (.tm 62)),
 rq 4 64 (.bin .lss (.tm 60) (.tm 63))] 5 [1,2,3,6,64])
 (.cond (.tm 64)
 .skip
 (.exit 4)))
 (.seq (.block 5
 (.seq (.seq (.region [rq 0 7 (.move (ki 0))] 1 [1,2,3,6,7])
 (.block 6
 (.loop
 (.seq (.seq (.region [RM 0 67 7,
 RF 1 68 3 1,
 RL 2 69 68,
 RM 3 70 6,
 rq 4 71 (.idx 3 (.tm 69) (.tm 70)),
 RF 5 72 0 71,
 RL 6 73 72,
 rq 7 74 (.len false (.tm 73)),
 rq 8 75 (.bin .lss (.tm 67) (.tm 74))] 9 [1,2,3,6,7,75])
 (.cond (.tm 75)
 .skip
 (.exit 6)))
 (.seq (.block 7
 (.region [RF 0 78 3 3,
 RL 1 79 78,
 RF 2 80 3 1,
 RL 3 81 80,
 RM 4 82 6,
 rq 5 83 (.idx 3 (.tm 81) (.tm 82)),
 RF 6 84 0 83,
 RL 7 85 84,
 RM 8 86 7,
 rq 9 87 (.idx 3 (.tm 85) (.tm 86)),
 RF 10 88 0 87,
 RL 11 89 88,
 RF 12 90 3 1,
 RL 13 91 90,
 RM 14 92 6,
 rq 15 93 (.idx 3 (.tm 91) (.tm 92)),
 RF 16 94 0 93,
 RL 17 95 94,
 RM 18 96 7,
 rq 19 97 (.idx 3 (.tm 95) (.tm 96)),
 RF 20 98 1 97,
 RL 21 99 98,
 rq 22 100 (.build [VZ,VZ,VZ,VZ,OZ] [(0,1,(.tm 89)),(1,1,(.tm 99))]),
 rq 23 101 (.call aJS [(.tm 79),(.tm 100)]),
 RF 24 102 3 3,
 rn 25 (.store 1 false (.tm 102) (.tm 101))] 26 [1,2,3,6,7]))
 (.region [RM 0 76 7,
 rq 1 77 (.bin .add (.tm 76) (ki 1)),
 RM 2 7 77] 3 [1,2,3,6,7]))))))
 (.seq (.region [rq 0 8 (.move (ki 0))] 1 [1,2,3,6,8])
 (.block 8
 (.loop
 (.seq (.seq (.region [RM 0 103 8,
 RF 1 104 3 1,
 RL 2 105 104,
 RM 3 106 6,
 rq 4 107 (.idx 3 (.tm 105) (.tm 106)),
 RF 5 108 1 107,
 RL 6 109 108,
 rq 7 110 (.len false (.tm 109)),
 rq 8 111 (.bin .lss (.tm 103) (.tm 110))] 9 [1,2,3,6,8,111])
 (.cond (.tm 111)
 .skip
 (.exit 8)))
 (.seq (.block 9
 (.region [RF 0 114 4 3,
 RL 1 115 114,
 RF 2 116 3 1,
 RL 3 117 116,
 RM 4 118 6,
 rq 5 119 (.idx 3 (.tm 117) (.tm 118)),
 RF 6 120 1 119,
 RL 7 121 120,
 RM 8 122 8,
 rq 9 123 (.idx 5 (.tm 121) (.tm 122)),
 rq 10 124 (.load 5 true (.tm 123)),
 rq 11 125 (.call aJS [(.tm 115),(.tm 124)]),
 RF 12 126 4 3,
 rn 13 (.store 1 false (.tm 126) (.tm 125))] 14 [1,2,3,6,8]))
 (.region [RM 0 112 8,
 rq 1 113 (.bin .add (.tm 112) (ki 1)),
 RM 2 8 113] 3 [1,2,3,6,8]))))))))
 (.region [RM 0 65 6,
 rq 1 66 (.bin .add (.tm 65) (ki 1)),
 RM 2 6 66] 3 [1,2,3,6]))))))
 (.seq (.region [rq 0 127 (.load 6 true (.tm 3)),
 rq 1 128 (.call aI0 [(.tm 127)]),
 rn 2 (.store 6 true (.tm 2) (.tm 128))] 3 [2])
 .ret)))))
def aLF:List Cert:=[⟨[],[1,2]⟩,⟨[cz 0,(1,[7],[],false),cz 3,(4,[7],[],true),cz 7,(2,[7],[4],false),(5,[7],[],false),cz 6,cz 8],[1,2,3]⟩,⟨[],[1,2,3,4]⟩,⟨[],[1,2,3,4,20]⟩,⟨[cz 0,(1,[8],[],false),cz 2,cz 3,cz 4,cz 5,cz 6,cz 7,cz 8,cz 9,cz 10,cz 11],[1,2,3,4]⟩,⟨[],[1,2,3,4,5]⟩,⟨[],[1,2,3,4,5,42]⟩,⟨[cz 0,cz 1,cz 2,cz 3,cz 4,cz 5,cz 6,cz 7,cz 8,cz 9,cz 10,cz 11,cz 12,cz 13,cz 14,cz 15],[1,2,3,4,5]⟩,⟨[],[1,2,3,4,5]⟩,⟨[],[1,2,3,4]⟩,⟨[],[1,2,3,6]⟩,⟨[],[1,2,3,6,64]⟩,⟨[],[1,2,3,6,7]⟩,⟨[],[1,2,3,6,7,75]⟩,⟨[cz 0,cz 1,cz 2,cz 3,cz 4,cz 5,cz 6,cz 7,cz 8,cz 9,cz 10,cz 11,cz 12,cz 13,cz 14,cz 15,cz 16,cz 17,cz 18,cz 19,cz 20,cz 21,cz 22,cz 23,cz 24,cz 25],[1,2,3,6,7]⟩,⟨[],[1,2,3,6,7]⟩,⟨[],[1,2,3,6,8]⟩,⟨[],[1,2,3,6,8,111]⟩,⟨[cz 0,cz 1,cz 2,cz 3,cz 4,cz 5,cz 6,cz 7,cz 8,cz 9,cz 10,cz 11,cz 12,cz 13],[1,2,3,6,8]⟩,⟨[],[1,2,3,6,8]⟩,⟨[],[1,2,3,6]⟩,⟨[],[2]⟩]
def aJV:List aW:=[.cell 2 6 true]
theorem aK2:aO Tryz.prog Tryz.f165 aLF=some (aJA,aJV):=by kernel_rfl
theorem aLK:aN Tryz.prog aIZ Tryz.f165 aJA aJV:=
 aN.mk Tryz.func165 (by kernel_rfl) aK2
end Go.Proofs.YtegiblhkjfiooaaGreat
end
section
namespace Go.Proofs.YtegiblhkjfiooaaGreat
open Go Go.AM
set_option maxRecDepth 100000
set_option maxHeartbeats 1000000
attribute [go_sem] List.length_set
section
variable {H : aA} {nx : Nat} {K : D → aA → Nat → Prop}
end
end Go.Proofs.YtegiblhkjfiooaaGreat
end
section
namespace Go.Proofs.YtegiblhkjfiooaaGreat
open Go Go.AM
set_option maxRecDepth 100000
set_option maxHeartbeats 4000000
section
variable {H : aA} {nx : Nat} {K : D → aA → Nat → Prop}
def oSt (i0 i1 i2 i3 wc hc ac tc:Nat) (s:TSt):List D1:=[.osl 1 i0 0 64 wc,.osl 1 i1 0 6 hc,.osl 1 i2 0 3 ac,.isl (s.wait.map aS),.isl (s.done.map aS),.osl 5 i3 0 s.told.length tc]
theorem aoT {i0 i1 i2 i3 wc hc ac tc:Nat} {s:TSt}:(oSt i0 i1 i2 i3 wc hc ac tc s).length=6:=rfl
theorem ak4 {i0 i1 i2 i3 wc hc ac tc:Nat} {s:TSt}:(oSt i0 i1 i2 i3 wc hc ac tc s).take 6=oSt i0 i1 i2 i3 wc hc ac tc s:=rfl
theorem ajY {i0 i1 i2 i3 wc hc ac tc k:Nat} {s:TSt} {cs:List D1}:iA cs (k+1) (oSt i0 i1 i2 i3 wc hc ac tc s)=iA cs (k+1) [.osl 1 i0 0 64 wc,.osl 1 i1 0 6 hc,.osl 1 i2 0 3 ac,.isl (s.wait.map aS),.isl (s.done.map aS),.osl 5 i3 0 s.told.length tc]:=rfl
attribute [go_sem] aoT ak4 ajY
end
end Go.Proofs.YtegiblhkjfiooaaGreat
end
section
namespace Go.Proofs.YtegiblhkjfiooaaGreat
open Go Go.AM
set_option maxRecDepth 100000
set_option maxHeartbeats 4000000
section
variable {H : aA} {nx : Nat} {K : D → aA → Nat → Prop}
theorem aM8 {j:Job}:cI j.who::cI j.n::tG j.rsp=aS j:=rfl
theorem aL7 (w:List Int) (hl:w.length<2^20):aB Tryz.prog aIW [dA [.isl (w.map aJ)]] .nil 0 fun rr _ nn=>nn=0∧rr.imm=true∧rr=dA [.isl (w.map aJ)]:=by
 refine aKY rfl fun Q hQ=> ?_
 unfold aJE
 repeat' (first| (with_reducible first| (refine hK _ _ _ ?_;clear hK K)|refine Z1 ?_|refine fun(cap:Nat) (hcap:_≤cap)=> ?_|refine fun(hcp:_≤cap)=> ?_)| (with_reducible refine Y2 fun K hK=> ?_)<;>(simp only[go_sem])| ((with_reducible refine Y8 ?_);try simp only[AQ.then,AQ.blk,reduceIte,Nat.reduceEqDiff])|refine⟨by omega,?_⟩|fail)
 all_goals exact V4 hQ (dA [.isl (w.map aJ)]) _ rfl (aH (bW bF rfl rfl (by omega) trivial) eP) rfl rfl
theorem aMB {w:List Int} (hl:w.length<2^20) (h:K (dA [.isl (w.map aJ)]) H nx):aB Tryz.prog aIW [dA [.isl (w.map aJ)]] H nx K:=
 (aL7 w hl).fresh rfl (fun r hr=>hr▸h)
theorem aLP (w u:List Int) (hl:w.length<2^20) (hu:u.length<2^20):aB Tryz.prog aIR [dA [.isl (w.map aJ),.isl (u.map aJ)]] .nil 0 fun rr _ nn=>nn=0∧rr.imm=true∧rr=dA [.isl (w.map aJ),.isl (u.map aJ)]:=by
 refine aKW rfl fun Q hQ=> ?_
 unfold aJH
 repeat' (first| (with_reducible first| (refine hK _ _ _ ?_;clear hK K)|refine Z1 ?_|refine fun(cap:Nat) (hcap:_≤cap)=> ?_|refine fun(hcp:_≤cap)=> ?_)| (first| (with_reducible refine Y2 fun K hK=> ?_)| (with_reducible refine aMB hl ?_))<;>(simp only[go_sem])| ((with_reducible refine Y8 ?_);try simp only[AQ.then,AQ.blk,reduceIte,Nat.reduceEqDiff])|refine⟨by omega,?_⟩|fail)
 all_goals exact V4 hQ (dA [.isl (w.map aJ),.isl (u.map aJ)]) _ rfl (aH (bB rfl) (aH (bW bF rfl rfl (by omega) trivial) eP)) rfl rfl
theorem aKA {w:List Int} {u:List Int} (hl:w.length<2^20) (hu:u.length<2^20) (h:K (dA [.isl (w.map aJ),.isl (u.map aJ)]) H nx):aB Tryz.prog aIR [dA [.isl (w.map aJ),.isl (u.map aJ)]] H nx K:=
 (aLP w u hl hu).fresh rfl (fun r hr=>hr▸h)
theorem aMZ (r:Rsp) (hl:r.data.length<2^20):aB Tryz.prog aI8 [dA (tG r)] .nil 0 fun rr _ nn=>nn=0∧rr.imm=true∧rr=dA (tG r):=by
 refine aLO rfl fun Q hQ=> ?_
 unfold aJN
 repeat' (first| (with_reducible first| (refine hK _ _ _ ?_;clear hK K)|refine Z1 ?_|refine fun(cap:Nat) (hcap:_≤cap)=> ?_|refine fun(hcp:_≤cap)=> ?_)| (with_reducible refine Y2 fun K hK=> ?_)<;>(simp only[go_sem])| ((with_reducible refine Y8 ?_);try simp only[AQ.then,AQ.blk,reduceIte,Nat.reduceEqDiff])|refine⟨by omega,?_⟩|fail)
 all_goals exact V4 hQ (dA (tG r)) _ rfl (aH (bB rfl) (aH (bB rfl) (aH (bW bF rfl rfl (by omega) trivial) eP))) rfl rfl
theorem aMW {r:Rsp} (hl:r.data.length<2^20) (h:K (dA (tG r)) H nx):aB Tryz.prog aI8 [dA (tG r)] H nx K:=
 (aMZ r hl).fresh rfl (fun r hr=>hr▸h)
theorem aL1 (l:List Job) (hl:l.length<2^20) (hd: ∀j∈l,j.rsp.data.length<2^20):aB Tryz.prog aIM [dS (l.map aS)] .nil 0 fun rr _ nn=>nn=0∧rr.imm=true∧rr=dS (l.map aS):=by
 refine aLL rfl fun Q hQ=> ?_
 unfold aJF
 repeat' (first| (with_reducible first| (refine hK _ _ _ ?_;clear hK K)|refine Z1 ?_|refine Z3 fun KB hKB=> ?_)| (with_reducible refine Y2 fun K hK=> ?_)<;>(simp only[go_sem])|fail)
 (have hKX:=hKB;clear hKB)
 refine aM.sG 1 (β:=Nat×Nat) (fun b u=>en [(4,dI u.1),(3,dO 5 b u.1 u.2),(0,dS (l.map aS))])
  (fun b u=>hp [(b,⟨5,u.2,(l.take u.1).map aS⟩)]) (fun u=>u.1≤l.length∧u.1≤u.2) (fun u=>l.length-u.1) (0,0) (by(refine cR [1] (by omega) (by repeat' (first| (with_reducible first|exact C1|refine C2 ?_ ?_)| ((with_reducible refine C0 ?_);exact CC)| ((with_reducible refine D0 ?_);first|exact CA rfl|refine CJ ?_)|fail)) ⟨⟨by simp,by simp[sgL],_,rfl,bP (aG dZ _) rfl rfl⟩,trivial⟩ (by simp[sgL]))) ⟨by omega,by omega⟩ ?_
 rintro⟨k,cap⟩ ⟨hk,hc⟩ KL hKL
 dsimp only at hk hc
 have htt:(l.take k).take k=l.take k:=List.take_of_length_le (by simp;omega)
 by_cases hlt:k<l.length
 ·have hm:=hd _ (cC hlt)
  repeat' (first| (with_reducible first| (refine hK _ _ _ ?_;clear hK K)| (refine hA ?_;clear hA hB A B)|refine Z1 ?_|refine Z2 ?_|refine Z3 fun KB hKB=> ?_|refine Z4 (by omega) ?_|refine fun(cap:Nat) (hcap:_≤cap)=> ?_|refine fun(hcp:_≤cap)=> ?_)| (first| (with_reducible first|refine Y2 fun K hK=> ?_|refine Y3 fun A B hA hB=> ?_)| (with_reducible refine aMW hm ?_))<;>(simp only[go_sem,htt,aM8];try simp (disch:=omega) only[Iw])| ((with_reducible refine Y0 ?_);simp only[AQ.then,AQ.blk])|refine⟨by omega,?_⟩| (refine⟨by(rw[List.length_take];omega),?_⟩)| (with_reducible refine hKB _ _ _ ?_)|fail)
  all_goals exact hKL _ _ _ (k+1,cap) (by omega) (by(refine cR [28] (by omega) (by repeat' (first| (with_reducible first|exact C1|refine C2 ?_ ?_)| ((with_reducible refine C0 ?_);exact CQ (by omega) rfl rfl (by rfl) rfl)| ((with_reducible refine D0 ?_);first|exact CA rfl|refine CJ ?_)|fail)) ⟨⟨by simp,by simp[sgL],_,rfl,bP (aG dZ _) (by rw[nK hlt]) rfl⟩,trivial⟩ (by simp[sgL]))) ⟨by dsimp only;omega,by dsimp only;omega⟩ (by dsimp only;omega)
 ·repeat' (first| (with_reducible first| (refine hK _ _ _ ?_;clear hK K)| (refine hB ?_;clear hA hB A B)|refine Z1 ?_|refine Z5 (by omega) ?_|refine hKX _ _ _ ?_)| (with_reducible first|refine Y2 fun K hK=> ?_|refine Y3 fun A B hA hB=> ?_)<;>(simp only[go_sem])| ((with_reducible first|refine Y8 ?_|refine Y9 ?_);try simp only[AQ.then,AQ.blk,reduceIte,Nat.reduceEqDiff])|fail)
  have hk2:k=l.length:=by omega
  subst hk2
  exact V4 hQ (dS (l.map aS)) _ rfl (DJ (rows:=l.map aS) (aG dZ _) (by simp) trivial rfl rfl (by simp[List.take_of_length_le]) (by simp;omega)) rfl rfl
theorem aI1 {l:List Job} (hl:l.length<2^20) (hd: ∀j∈l,j.rsp.data.length<2^20) (h:K (dS (l.map aS)) H nx):aB Tryz.prog aIM [dS (l.map aS)] H nx K:=
 (aL1 l hl hd).fresh rfl (fun r hr=>hr▸h)
theorem aLT (c:Cfg) (s:TSt) (hb:aQ c) (hs:BA c s) (hd: ∀j∈s.wait++s.done++s.told,j.rsp.data.length<2^20):aB Tryz.prog aI0 [dA (eSt s)] .nil 0 fun rr _ nn=>nn=0∧rr.imm=true∧rr=dA (eSt s):=by
 refine aK9 rfl fun Q hQ=> ?_
 unfold aJB
 have hl:=hs.lens hb
 have hwl:=hs.atm.wl
 have hhl:=hs.atm.hl
 have hal:=hs.JI
 repeat' (first| (with_reducible first| (refine hK _ _ _ ?_;clear hK K)|refine Z1 ?_|refine fun(cap:Nat) (hcap:_≤cap)=> ?_|refine fun(hcp:_≤cap)=> ?_)| (first| (with_reducible refine Y2 fun K hK=> ?_)| (with_reducible refine aKA (by omega) (by omega) ?_)| (with_reducible refine aI1 (l:=s.wait) (by omega) (fun j hj=>hd j (by simp[hj])) ?_)| (with_reducible refine aI1 (l:=s.done) (by omega) (fun j hj=>hd j (by simp[hj])) ?_)| (with_reducible refine aI1 (l:=s.told) (by omega) (fun j hj=>hd j (by simp[hj])) ?_))<;>(simp only[go_sem])| ((with_reducible refine Y8 ?_);try simp only[AQ.then,AQ.blk,reduceIte,Nat.reduceEqDiff])|refine⟨by omega,?_⟩|fail)
 all_goals exact V4 hQ (dA (eSt s)) _ rfl (aH (bB rfl) (aH (bB rfl) (aH (bW bF rfl rfl (by omega) trivial) (aH (bB rfl) (aH (bB rfl) (aH (bB rfl) eP)))))) rfl rfl
theorem aLV {c:Cfg} {s:TSt} (hb:aQ c) (hs:BA c s) (hd: ∀j∈s.wait++s.done++s.told,j.rsp.data.length<2^20) (h:K (dA (eSt s)) H nx):aB Tryz.prog aI0 [dA (eSt s)] H nx K:=
 (aLT c s hb hs hd).fresh rfl (fun r hr=>hr▸h)
end
end Go.Proofs.YtegiblhkjfiooaaGreat
end
section
namespace Go.Proofs.YtegiblhkjfiooaaGreat
open Go Go.AM
set_option maxRecDepth 100000
set_option maxHeartbeats 8000000
structure aME (c:Cfg) (s:CSt):Prop where
 hb:aQ c
 cok:COk c s
 fin:Fin c s
section
variable {H : aA} {nx : Nat} {K : D → aA → Nat → Prop}
theorem aMF (c:Cfg) (s:CSt) (who:Nat) (hf:aME c s) (hw:who<3):aB Tryz.prog aIY [dA (cU c),dA (eI s),dI who] .nil 0 fun rr _ _=>rr.plain=true∧rr=dB true:=by
 refine aLA rfl fun Q hQ=> ?_
 unfold aJG
 obtain⟨hb,hs,hfin⟩:=hf
 obtain⟨hp3,hp12⟩:=hC hb
 have hpl:=hs.pl
 obtain⟨f1,f2,f3⟩:=hfin who hw
 have hlast:=(hs.port who hw).last
 have hpw:=hp12 who
 obtain⟨P,hP⟩: ∃P,P=aF s who:=⟨_,rfl⟩
 rw[←hP] at f1 f2 f3 hlast
 have hP':s.bM.getD who default=P:=hP.symm
 obtain⟨q1,q2,q3,q4⟩:=P
 dsimp only at f1 f2 f3 hlast
 subst f1;subst f2;subst f3
 have t1:(0≤((c.cP.getD who default).length:Int)∧((c.cP.getD who default).length:Int)≤((c.cP.getD who default).length:Int))=True:=eq_true (by omega)
 have t2:(0≤q4∧q4≤3)=True:=eq_true hlast
 have t3:((c.cP.getD who default).length<0)=False:=eq_false (by omega)
 have t4:(((c.cP.getD who default).length:Int)<0)=False:=eq_false (by omega)
 repeat' (first| (with_reducible first| (refine hK _ _ _ ?_;clear hK K)| (refine hB ?_;clear hA hB A B)|refine Z1 ?_|refine Z2 ?_|refine Z3 fun KB hKB=> ?_)| (first| (with_reducible first|refine Y2 fun K hK=> ?_|refine Y3 fun A B hA hB=> ?_|refine Y5 (by omega) ?_)| (with_reducible refine aBC ?_))<;>(simp only[go_sem,hp3,hpl,hP',t1,t2,t3,t4])|refine⟨by omega,?_⟩|fail)
 (have hKX:=hKB;clear hKB)
 refine aM.gP (β:=Unit) (fun _=>en [(8,dI 0),(7,.one (.c (.ptr 4 8 0 0))),(3,.one (.c (.ptr 3 0 0 0))),(2,dI who)]) (fun _ H1 _=>H1 8=some ⟨4,1,[cD ⟨(c.cP.getD who default).length,[],[],q4⟩]⟩) (fun _=>0) () ⟨noF,_,by repeat' (first| (with_reducible first|exact C1|refine C2 ?_ ?_)| ((with_reducible refine C0 ?_);exact CE (by omega) rfl)| ((with_reducible refine D0 ?_);first|exact CA rfl|refine CJ ?_)|fail),aK,rfl⟩ ?_
 rintro _ H1 nx1 hnx1 g8 KL hKL
 repeat' (first| (with_reducible first| (refine hK _ _ _ ?_;clear hK K)| (refine hB ?_;clear hA hB A B)|refine Z1 ?_|refine Z3 fun KB hKB=> ?_|refine Z5 (by omega) ?_|refine hKX _ _ _ ?_)| (with_reducible first|refine Y2 fun K hK=> ?_|refine Y3 fun A B hA hB=> ?_)<;>(simp only[go_sem,g8])| ((with_reducible refine Y9 ?_);try simp only[AQ.then,AQ.blk,reduceIte,Nat.reduceEqDiff])|fail)
 (have hKY:=hKB;clear hKB)
 refine aM.gP (β:=Unit) (fun _=>en [(9,dI 0),(7,.one (.c (.ptr 4 8 0 0))),(3,.one (.c (.ptr 3 0 0 0))),(2,dI who)]) (fun _ H1 _=>H1 8=some ⟨4,1,[cD ⟨(c.cP.getD who default).length,[],[],q4⟩]⟩) (fun _=>0) () ⟨noF,_,by repeat' (first| (with_reducible first|exact C1|refine C2 ?_ ?_)| ((with_reducible refine C0 ?_);exact CE (by omega) rfl)| ((with_reducible refine D0 ?_);first|exact CA rfl|refine CJ ?_)|fail),aK,g8⟩ ?_
 clear g8
 rintro _ H2 nx2 hnx2 g8 KM hKM
 repeat' (first| (with_reducible first| (refine hK _ _ _ ?_;clear hK K)| (refine hB ?_;clear hA hB A B)|refine Z1 ?_|refine Z5 (by omega) ?_|refine hKY _ _ _ ?_)| (with_reducible first|refine Y2 fun K hK=> ?_|refine Y3 fun A B hA hB=> ?_)<;>(simp only[go_sem,g8])| ((with_reducible first|refine Y8 ?_|refine Y9 ?_);try simp only[AQ.then,AQ.blk,reduceIte,Nat.reduceEqDiff])|fail)
 all_goals exact aZ hQ _ rfl rfl rfl
theorem aLY {c:Cfg} {s:CSt} {who:Nat} (hf:aME c s) (hw:who<3) (h:K (dB true) H nx):aB Tryz.prog aIY [dA (cU c),dA (eI s),dI who] H nx K:=
 (aMF c s who hf hw).pure rfl (aI ⟨aE rfl,aE rfl,aE rfl,trivial⟩) (fun r hr=>hr▸h)
theorem aKT (c:Cfg) (s:CSt) (st:Nat) (hf:aME c s) (hst:st<4):aB Tryz.prog aIT [dA (cU c),dA (eI s),dI st] .nil 0 fun rr _ _=>rr.plain=true∧rr=dB true:=by
 refine aKP rfl fun Q hQ=> ?_
 unfold aI4
 obtain⟨hb,hs,hfin⟩:=hf
 have hsl:=hs.sl
 obtain⟨f1,f2⟩:=WV hs hfin st hst
 have hlast:=(hs.slv st hst).last
 obtain⟨V,hV⟩: ∃V,V=aL s st:=⟨_,rfl⟩
 rw[←hV] at f1 f2 hlast
 have hV':s.dD.getD st default=V:=hV.symm
 obtain⟨q1,q2,q3⟩:=V
 dsimp only at f1 f2 hlast
 subst f1;subst f2
 have t2:(0≤q3∧q3≤2)=True:=eq_true hlast
 repeat' (first| (with_reducible first| (refine hK _ _ _ ?_;clear hK K)| (refine hB ?_;clear hA hB A B)|refine Z1 ?_|refine Z2 ?_|refine Z3 fun KB hKB=> ?_)| (first| (with_reducible first|refine Y2 fun K hK=> ?_|refine Y3 fun A B hA hB=> ?_|refine Y5 (by omega) ?_)| (with_reducible refine aBC ?_))<;>(simp only[go_sem,hsl,hV',t2])|refine⟨by omega,?_⟩|fail)
 (have hKX:=hKB;clear hKB)
 refine aM.gP (β:=Unit) (fun _=>en [(9,dI 0),(8,.one (.c (.osl 5 26 0 0 0))),(7,.one (.c (.ptr 3 8 0 0))),(4,.one (.c (.ptr 5 1 0 0))),(3,.one (.c (.ptr 3 0 0 0))),(2,dI st)]) (fun _ H1 _=>H1 8=some ⟨3,1,[gF ⟨[],[],q3⟩]⟩) (fun _=>0) () ⟨noF,_,by repeat' (first| (with_reducible first|exact C1|refine C2 ?_ ?_)| ((with_reducible refine C0 ?_);first|exact CC|exact CE (by omega) rfl)| ((with_reducible refine D0 ?_);first|exact CA rfl|refine CJ ?_)|fail),aK,rfl⟩ ?_
 rintro _ H1 nx1 hnx1 g8 KL hKL
 repeat' (first| (with_reducible first| (refine hK _ _ _ ?_;clear hK K)| (refine hB ?_;clear hA hB A B)|refine Z1 ?_|refine Z3 fun KB hKB=> ?_|refine Z5 (by omega) ?_|refine hKX _ _ _ ?_)| (with_reducible first|refine Y2 fun K hK=> ?_|refine Y3 fun A B hA hB=> ?_)<;>(simp only[go_sem,g8])| ((with_reducible refine Y9 ?_);try simp only[AQ.then,AQ.blk,reduceIte,Nat.reduceEqDiff])|fail)
 (have hKY:=hKB;clear hKB)
 refine aM.gP (β:=Unit) (fun _=>en [(11,dI 0),(8,.one (.c (.osl 5 26 0 0 0))),(7,.one (.c (.ptr 3 8 0 0))),(4,.one (.c (.ptr 5 1 0 0))),(3,.one (.c (.ptr 3 0 0 0))),(2,dI st)]) (fun _ H1 _=>H1 8=some ⟨3,1,[gF ⟨[],[],q3⟩]⟩) (fun _=>0) () ⟨noF,_,by repeat' (first| (with_reducible first|exact C1|refine C2 ?_ ?_)| ((with_reducible refine C0 ?_);first|exact CC|exact CE (by omega) rfl)| ((with_reducible refine D0 ?_);first|exact CA rfl|refine CJ ?_)|fail),aK,g8⟩ ?_
 clear g8
 rintro _ H2 nx2 hnx2 g8 KM hKM
 repeat' (first| (with_reducible first| (refine hK _ _ _ ?_;clear hK K)| (refine hB ?_;clear hA hB A B)|refine Z1 ?_|refine Z3 fun KB hKB=> ?_|refine Z5 (by omega) ?_|refine hKY _ _ _ ?_)| (with_reducible first|refine Y2 fun K hK=> ?_|refine Y3 fun A B hA hB=> ?_)<;>(simp only[go_sem,g8])| ((with_reducible refine Y9 ?_);try simp only[AQ.then,AQ.blk,reduceIte,Nat.reduceEqDiff])|fail)
 (have hKZ:=hKB;clear hKB)
 refine aM.gP (β:=Unit) (fun _=>en [(13,dI 0),(8,.one (.c (.osl 5 26 0 0 0)))]) (fun _ _ _=>True) (fun _=>0) () ⟨noF,_,by repeat' (first| (with_reducible first|exact C1|refine C2 ?_ ?_)| ((with_reducible refine C0 ?_);exact CC)| ((with_reducible refine D0 ?_);first|exact CA rfl|refine CJ ?_)|fail),aK,trivial⟩ ?_
 rintro _ H3 nx3 hnx3 _ KN hKN
 repeat' (first| (with_reducible first| (refine hK _ _ _ ?_;clear hK K)| (refine hB ?_;clear hA hB A B)|refine Z1 ?_|refine Z5 (by omega) ?_|refine hKZ _ _ _ ?_)| (with_reducible first|refine Y2 fun K hK=> ?_|refine Y3 fun A B hA hB=> ?_)<;>(simp only[go_sem])| ((with_reducible first|refine Y8 ?_|refine Y9 ?_);try simp only[AQ.then,AQ.blk,reduceIte,Nat.reduceEqDiff])|fail)
 all_goals exact aZ hQ _ rfl rfl rfl
theorem aK6 {c:Cfg} {s:CSt} {st:Nat} (hf:aME c s) (hst:st<4) (h:K (dB true) H nx):aB Tryz.prog aIT [dA (cU c),dA (eI s),dI st] H nx K:=
 (aKT c s st hf hst).pure rfl (aI ⟨aE rfl,aE rfl,aE rfl,trivial⟩) (fun r hr=>hr▸h)
end
end Go.Proofs.YtegiblhkjfiooaaGreat
end
section
namespace Go.Proofs.YtegiblhkjfiooaaGreat
open Go Go.AM
set_option maxRecDepth 100000
set_option maxHeartbeats 8000000
section
variable {H : aA} {nx : Nat} {K : D → aA → Nat → Prop}
theorem aMH (c:Cfg) (s:CSt) (hf:aME c s):aB Tryz.prog aIZ [dA (eI s)] .nil 0 fun rr _ nn=>nn=0∧rr.imm=true∧rr=dA (eSt (cX s)):=by
 refine aLK rfl fun Q hQ=> ?_
 unfold aJA
 obtain⟨hb,hs,hfin⟩:=hf
 have hpl:=hs.pl
 have hsl:=hs.sl
 have hfe:=WV hs hfin
 have hlens:=hs.st.lens hb
 have hST:(cX s).told=s.told:=rfl
 rw[hST] at hlens
 have hSr: ∀j∈s.told,j.rsp.data.length<2^20:=fun j hj=>by have:=(hs.st.R8 j (List.mem_append_right _ hj)).1.2.2.1;omega
 have hwl:=hs.atm.wl
 have hhl:=hs.atm.hl
 repeat' (first| (with_reducible first| (refine hK _ _ _ ?_;clear hK K)|refine Z1 ?_|refine Z3 fun KB hKB=> ?_)| (first| (with_reducible refine Y2 fun K hK=> ?_)| (refine aKA (w:=s.words) (u:=s.holds) (by omega) (by omega) ?_)| (refine aI1 (l:=s.told) (by omega) hSr ?_))<;>(simp only[go_sem,umB,umS,umM,muM])|fail)
 (have hKX:=hKB;clear hKB)
 refine aM.EJ 1 ?_
 refine aM.tW _ _ noF (fun t=>.inl rfl) (KO (i:=9) (o':=⟨6,1,[[.isl (s.words.map aJ),.isl (s.holds.map aJ),.osl 1 12 0 0 0,.osl 0 0 0 0 0,.osl 0 0 0 0 0,.isl (s.told.map aS)]]⟩) (by rw[aA.aC (by omega)];exact aA.bH) (aP (aH (bB rfl) (aH (bB rfl) (aH (.VS ..) (aH (.VS ..) (aH (.VS ..) (aH (bB rfl) eP)))))))) ?_
 refine aM.TF fun G0 hG0=> ?_
 have c0:G0 0=some ⟨5,1,[eI s]⟩:=by rw[hG0];rfl
 have c1:G0 1=some ⟨6,1,[[.osl 0 0 0 0 0,.osl 0 0 0 0 0,.osl 0 0 0 0 0,.osl 0 0 0 0 0,.osl 0 0 0 0 0,.osl 0 0 0 0 0]]⟩:=by rw[hG0];rfl
 have c9:G0 9=some ⟨6,1,[[.isl (s.words.map aJ),.isl (s.holds.map aJ),.osl 1 12 0 0 0,.osl 0 0 0 0 0,.osl 0 0 0 0 0,.isl (s.told.map aS)]]⟩:=by rw[hG0];exact aA.bH
 have c12:G0 12=some ⟨1,0,[]⟩:=by rw[hG0];rfl
 clear hG0
 obtain⟨A,hA0⟩: ∃A:Nat→List Int,A=fun k=>(s.bM.take k).map (·.next):=⟨_,rfl⟩
 have hAl: ∀k,k≤3→(A k).length=k:=fun k hk=>by rw[hA0];simp;omega
 have hAs: ∀k,k<3→A (k+1)=A k++[(s.bM.getD k default).next]:=fun k hk=>by
  rw[hA0]
  dsimp only
  rw[List.take_succ_eq_append_getElem (by omega),List.map_append]
  simp[List.getD,show k<s.bM.length by omega]
 have hA3:A 3=(cX s).asked:=by rw[hA0];dsimp only;rw[List.take_of_length_le (by omega)];rfl
 refine aM.gP (β:=Nat×Nat×Nat) (fun u=>en [(4,dI u.1),(3,.one (.c (.ptr 6 9 0 0))),(2,.one (.c (.ptr 6 1 0 0))),(1,.one (.c (.ptr 5 0 0 0)))])
  (fun u H1 n1=>u.1≤3∧H1 0=some ⟨5,1,[eI s]⟩∧H1 1=some ⟨6,1,[[.osl 0 0 0 0 0,.osl 0 0 0 0 0,.osl 0 0 0 0 0,.osl 0 0 0 0 0,.osl 0 0 0 0 0,.osl 0 0 0 0 0]]⟩∧H1 9=some ⟨6,1,[[.isl (s.words.map aJ),.isl (s.holds.map aJ),.osl 1 u.2.1 0 u.1 u.2.2,.osl 0 0 0 0 0,.osl 0 0 0 0 0,.isl (s.told.map aS)]]⟩∧(∃m,H1 u.2.1=some ⟨1,m,(A u.1).map aJ⟩∧u.1≤u.2.2∧u.2.2≤m)∧12≤u.2.1∧u.2.1<n1) (fun u=>3-u.1) (0,12,0)
  ⟨noF,_,by repeat' (first| (with_reducible first|exact C1|refine C2 ?_ ?_)| ((with_reducible refine C0 ?_);exact CE (by omega) rfl)| ((with_reducible refine D0 ?_);first|exact CA rfl|refine CJ ?_)|fail),aK,by dsimp only;omega,c0,c1,c9,⟨0,by rw[c12,hA0];rfl,Nat.le_refl _,Nat.le_refl _⟩,by dsimp only;omega,by dsimp only;omega⟩ ?_
 clear c0 c1 c9 c12
 rintro⟨k,ia,ca⟩ H1 nx1 hnx1 ⟨hk,g0,g1,g9,⟨m,ga,ga1,ga2⟩,hia1,hia2⟩ KL hKL
 dsimp only at hk g9 ga ga1 ga2 hia1 hia2
 have hA:bQ nx1 [0,1,9,ia]:=AM.apart (by simp;omega) (by simp;omega)
 simp only[bQ,eZ] at hA
 have hAk:=hAl k hk
 by_cases hlt:k<3
 ·obtain⟨P,hP⟩: ∃P,P=aF s k:=⟨_,rfl⟩
  have hP':s.bM.getD k default=P:=hP.symm
  have hPq:P.queue=[]:=by rw[hP];exact(hfin k hlt).2.1
  have a6: ∀G:aA,msk (nx1+5) [8] G 9=G 9:=fun G=>by unfold msk;rw[if_neg (by simp)]
  rw[←hAk] at g9 ga1
  repeat' (first| (with_reducible first| (refine hK _ _ _ ?_;clear hK K)| (refine hA ?_;clear hA hB A B)|refine Z1 ?_|refine Z2 ?_|refine Z3 fun KB hKB=> ?_|refine Z4 (by omega) ?_|refine fun(cap:Nat) (hcap:_≤cap)=> ?_|refine fun(hcp:_≤cap)=> ?_)| (with_reducible first|refine Y2 fun K hK=> ?_|refine Y3 fun A B hA hB=> ?_)<;>(simp only[go_sem,Nat.add_assoc,Nat.left_eq_add,Nat.add_eq_left,g0,g1,g9,a6,ga,hpl,hP',hA])|refine⟨by omega,?_⟩|fail)
  (have hKY:=hKB;clear hKB)
  refine aM.TF fun aHF hG1=> ?_
  have hc:A k++[P.next]=A (k+1):=by rw[hAs k hlt,hP']
  have d0:aHF 0=some ⟨5,1,[eI s]⟩:=by rw[hG1];simp[aA.set,aA.del,hA,g0]
  have d1:aHF 1=some ⟨6,1,[[.osl 0 0 0 0 0,.osl 0 0 0 0 0,.osl 0 0 0 0 0,.osl 0 0 0 0 0,.osl 0 0 0 0 0,.osl 0 0 0 0 0]]⟩:=by rw[hG1];simp[aA.set,aA.del,hA,g1]
  have aHG:aHF 9=some ⟨6,1,[[.isl (s.words.map aJ),.isl (s.holds.map aJ),.osl 1 (nx1+14) 0 (k+1) cap,.osl 0 0 0 0 0,.osl 0 0 0 0 0,.isl (s.told.map aS)]]⟩:=by rw[hG1,hAk];exact aA.bH
  have dA:aHF (nx1+14)=some ⟨1,cap,(A (k+1)).map aJ⟩:=by rw[hG1,aA.aC (by omega),←hc];exact aA.bH
  clear hG1 g0 g1 g9 ga hA
  refine aM.gP (β:=Unit) (fun _=>en [(5,dI 0),(4,dI k),(3,.one (.c (.ptr 6 9 0 0))),(2,.one (.c (.ptr 6 1 0 0))),(1,.one (.c (.ptr 5 0 0 0)))])
   (fun _ H2 _=>H2 0=some ⟨5,1,[eI s]⟩∧H2 1=some ⟨6,1,[[.osl 0 0 0 0 0,.osl 0 0 0 0 0,.osl 0 0 0 0 0,.osl 0 0 0 0 0,.osl 0 0 0 0 0,.osl 0 0 0 0 0]]⟩∧H2 9=some ⟨6,1,[[.isl (s.words.map aJ),.isl (s.holds.map aJ),.osl 1 (nx1+14) 0 (k+1) cap,.osl 0 0 0 0 0,.osl 0 0 0 0 0,.isl (s.told.map aS)]]⟩∧H2 (nx1+14)=some ⟨1,cap,(A (k+1)).map aJ⟩) (fun _=>0) ()
   ⟨noF,_,by repeat' (first| (with_reducible first|exact C1|refine C2 ?_ ?_)| ((with_reducible refine C0 ?_);exact CE (by omega) rfl)| ((with_reducible refine D0 ?_);first|exact CA rfl|refine CJ ?_)|fail),aK,d0,d1,aHG,dA⟩ ?_
  clear d0 d1 aHG dA
  rintro _ H2 nx2 hnx2 ⟨g0,g1,g9,ga⟩ KM hKM
  repeat' (first| (with_reducible first| (refine hK _ _ _ ?_;clear hK K)| (refine hB ?_;clear hA hB A B)|refine Z1 ?_|refine Z5 (by omega) ?_|refine hKY _ _ _ ?_)| (with_reducible first|refine Y2 fun K hK=> ?_|refine Y3 fun A B hA hB=> ?_)<;>(simp only[go_sem,g0,hpl,hP',hPq];try simp (disch:=omega) only[Iw])| ((with_reducible refine Y9 ?_);try simp only[AQ.then,AQ.blk,reduceIte,Nat.reduceEqDiff])| ((with_reducible refine Y0 ?_);simp only[AQ.then,AQ.blk])|refine⟨by omega,?_⟩| (with_reducible refine hKB _ _ _ ?_)|fail)
  exact hKL _ _ _ (k+1,nx1+14,cap) noF _ (by omega) (by dsimp only;omega) (by repeat' (first| (with_reducible first|exact C1|refine C2 ?_ ?_)| ((with_reducible refine C0 ?_);exact CE (by omega) rfl)| ((with_reducible refine D0 ?_);first|exact CA rfl|refine CJ ?_)|fail)) aK ⟨by dsimp only;omega,g0,g1,g9,⟨cap,ga,by dsimp only;omega,Nat.le_refl _⟩,by dsimp only;omega,by dsimp only;omega⟩
 ·have hk3:k=3:=by omega
  subst hk3
  repeat' (first| (with_reducible first| (refine hK _ _ _ ?_;clear hK K)| (refine hB ?_;clear hA hB A B)|refine Z1 ?_|refine Z3 fun KB hKB=> ?_|refine Z5 (by omega) ?_|refine hKX _ _ _ ?_)| (with_reducible first|refine Y2 fun K hK=> ?_|refine Y3 fun A B hA hB=> ?_)<;>(simp only[go_sem,g0,g1,g9])| ((with_reducible refine Y9 ?_);try simp only[AQ.then,AQ.blk,reduceIte,Nat.reduceEqDiff])|fail)
  (have hKY:=hKB;clear hKB)
  refine aM.gP (β:=Nat) (fun k=>en [(6,dI k),(3,.one (.c (.ptr 6 9 0 0))),(2,.one (.c (.ptr 6 1 0 0))),(1,.one (.c (.ptr 5 0 0 0)))])
   (fun k H2 _=>k≤4∧H2 0=some ⟨5,1,[eI s]⟩∧H2 1=some ⟨6,1,[[.osl 0 0 0 0 0,.osl 0 0 0 0 0,.osl 0 0 0 0 0,.osl 0 0 0 0 0,.osl 0 0 0 0 0,.osl 0 0 0 0 0]]⟩∧H2 9=some ⟨6,1,[[.isl (s.words.map aJ),.isl (s.holds.map aJ),.osl 1 ia 0 3 ca,.osl 0 0 0 0 0,.osl 0 0 0 0 0,.isl (s.told.map aS)]]⟩∧H2 ia=some ⟨1,m,(A 3).map aJ⟩) (fun k=>4-k) 0
   ⟨noF,_,by repeat' (first| (with_reducible first|exact C1|refine C2 ?_ ?_)| ((with_reducible refine C0 ?_);exact CE (by omega) rfl)| ((with_reducible refine D0 ?_);first|exact CA rfl|refine CJ ?_)|fail),aK,by omega,g0,g1,g9,ga⟩ ?_
  clear g0 g1 g9 ga hA
  rintro k H2 nx2 hnx2 ⟨hk4,g0,g1,g9,ga⟩ KM hKM
  have hA:bQ nx2 [0,1,9,ia]:=AM.apart (by simp;omega) (by simp;omega)
  simp only[bQ,eZ] at hA
  by_cases hlt4:k<4
  ·obtain⟨V,hV⟩: ∃V,V=aL s k:=⟨_,rfl⟩
   have hV':s.dD.getD k default=V:=hV.symm
   obtain⟨hV1,hV2⟩:=hfe k hlt4
   rw[←hV] at hV1 hV2
   repeat' (first| (with_reducible first| (refine hK _ _ _ ?_;clear hK K)| (refine hA ?_;clear hA hB A B)|refine Z1 ?_|refine Z2 ?_|refine Z3 fun KB hKB=> ?_|refine Z4 (by omega) ?_)| (with_reducible first|refine Y2 fun K hK=> ?_|refine Y3 fun A B hA hB=> ?_)<;>(simp only[go_sem,g0,g1,g9,hsl])|fail)
   (have hKZ:=hKB;clear hKB)
   refine aM.gP (β:=Unit) (fun _=>en [(7,dI 0),(6,dI k),(3,.one (.c (.ptr 6 9 0 0))),(2,.one (.c (.ptr 6 1 0 0))),(1,.one (.c (.ptr 5 0 0 0)))])
    (fun _ H3 _=>H3 0=some ⟨5,1,[eI s]⟩∧H3 1=some ⟨6,1,[[.osl 0 0 0 0 0,.osl 0 0 0 0 0,.osl 0 0 0 0 0,.osl 0 0 0 0 0,.osl 0 0 0 0 0,.osl 0 0 0 0 0]]⟩∧H3 9=some ⟨6,1,[[.isl (s.words.map aJ),.isl (s.holds.map aJ),.osl 1 ia 0 3 ca,.osl 0 0 0 0 0,.osl 0 0 0 0 0,.isl (s.told.map aS)]]⟩∧H3 ia=some ⟨1,m,(A 3).map aJ⟩) (fun _=>0) ()
    ⟨noF,_,by repeat' (first| (with_reducible first|exact C1|refine C2 ?_ ?_)| ((with_reducible refine C0 ?_);exact CE (by omega) rfl)| ((with_reducible refine D0 ?_);first|exact CA rfl|refine CJ ?_)|fail),aK,g0,g1,g9,ga⟩ ?_
   clear g0 g1 g9 ga
   rintro _ H3 nx3 hnx3 ⟨g0,g1,g9,ga⟩ KN hKN
   repeat' (first| (with_reducible first| (refine hK _ _ _ ?_;clear hK K)| (refine hB ?_;clear hA hB A B)|refine Z1 ?_|refine Z3 fun KB hKB=> ?_|refine Z5 (by omega) ?_|refine hKZ _ _ _ ?_)| (with_reducible first|refine Y2 fun K hK=> ?_|refine Y3 fun A B hA hB=> ?_)<;>(simp only[go_sem,g0,hsl,hV',hV1])| ((with_reducible refine Y9 ?_);try simp only[AQ.then,AQ.blk,reduceIte,Nat.reduceEqDiff])|refine⟨by omega,?_⟩|fail)
   (have hKW:=hKB;clear hKB)
   refine aM.gP (β:=Unit) (fun _=>en [(8,dI 0),(6,dI k),(3,.one (.c (.ptr 6 9 0 0))),(2,.one (.c (.ptr 6 1 0 0))),(1,.one (.c (.ptr 5 0 0 0)))])
    (fun _ H3 _=>H3 0=some ⟨5,1,[eI s]⟩∧H3 1=some ⟨6,1,[[.osl 0 0 0 0 0,.osl 0 0 0 0 0,.osl 0 0 0 0 0,.osl 0 0 0 0 0,.osl 0 0 0 0 0,.osl 0 0 0 0 0]]⟩∧H3 9=some ⟨6,1,[[.isl (s.words.map aJ),.isl (s.holds.map aJ),.osl 1 ia 0 3 ca,.osl 0 0 0 0 0,.osl 0 0 0 0 0,.isl (s.told.map aS)]]⟩∧H3 ia=some ⟨1,m,(A 3).map aJ⟩) (fun _=>0) ()
    ⟨noF,_,by repeat' (first| (with_reducible first|exact C1|refine C2 ?_ ?_)| ((with_reducible refine C0 ?_);exact CE (by omega) rfl)| ((with_reducible refine D0 ?_);first|exact CA rfl|refine CJ ?_)|fail),aK,g0,g1,g9,ga⟩ ?_
   clear g0 g1 g9 ga
   rintro _ H4 nx4 hnx4 ⟨g0,g1,g9,ga⟩ aNB hKO
   repeat' (first| (with_reducible first| (refine hK _ _ _ ?_;clear hK K)| (refine hB ?_;clear hA hB A B)|refine Z1 ?_|refine Z5 (by omega) ?_)| (with_reducible first|refine Y2 fun K hK=> ?_|refine Y3 fun A B hA hB=> ?_)<;>(simp only[go_sem,g0,hsl,hV',hV2])| ((with_reducible refine Y9 ?_);try simp only[AQ.then,AQ.blk,reduceIte,Nat.reduceEqDiff])|refine⟨by omega,?_⟩|fail)
   refine hKW _ _ _ ?_
   repeat' (first| (with_reducible (refine hK _ _ _ ?_;clear hK K))| (with_reducible refine Y2 fun K hK=> ?_)<;>(simp only[go_sem];try simp (disch:=omega) only[Iw])| ((with_reducible refine Y0 ?_);simp only[AQ.then,AQ.blk])| (with_reducible refine hKB _ _ _ ?_)|fail)
   exact hKM _ _ _ (k+1) noF _ (by omega) (by omega) (by repeat' (first| (with_reducible first|exact C1|refine C2 ?_ ?_)| ((with_reducible refine C0 ?_);exact CE (by omega) rfl)| ((with_reducible refine D0 ?_);first|exact CA rfl|refine CJ ?_)|fail)) aK ⟨by omega,g0,g1,g9,ga⟩
  ·obtain⟨hab1,hab2⟩:=afO hs hfin
   have hab3:(cX s).told=s.told:=rfl
   repeat' (first| (with_reducible first| (refine hK _ _ _ ?_;clear hK K)| (refine hB ?_;clear hA hB A B)|refine Z1 ?_|refine Z5 (by omega) ?_|refine hKY _ _ _ ?_)| (with_reducible first|refine Y2 fun K hK=> ?_|refine Y3 fun A B hA hB=> ?_)<;>(simp only[go_sem,g0,g1,g9,hA])| ((with_reducible refine Y9 ?_);try simp only[AQ.then,AQ.blk,reduceIte,Nat.reduceEqDiff])|fail)
   refine aB.ao4 (args':=[dA (eSt (cX s))]) (without (fun j=>j=ia) H2) (fun j=>j=ia) rfl (fun i d0 d h1 h2=> ?_) kS ?_
   ·cases i with
    |succ i=>simp at h1
    |zero=>
     simp only[List.getElem?_cons_zero,Option.some.injEq] at h1 h2
     subst h1;subst h2
     refine lY ?_
     show CvL _ _ _ _ [.isl (s.words.map aJ),.isl (s.holds.map aJ),.isl ((cX s).asked.map aJ),.isl ((cX s).wait.map aS),.isl ((cX s).done.map aS),.isl (s.told.map aS)] _
     rw[hab1,hab2,←hA3]
     exact aH (bB rfl) (aH (bB rfl) (aH (bW bF ga (by rw[hAl 3 (by omega)]) (by rw[hAl 3 (by omega)];exact ga1) rfl) (aH xG (aH xG (aH (bB rfl) eP)))))
   have w1:(without (fun j=>j=ia) H2) 1=some ⟨6,1,[[.osl 0 0 0 0 0,.osl 0 0 0 0 0,.osl 0 0 0 0 0,.osl 0 0 0 0 0,.osl 0 0 0 0 0,.osl 0 0 0 0 0]]⟩:=by rw[iI (F:=fun j=>j=ia) (by omega)];exact g1
   refine aLV (c:=c) (s:=cX s) hb hs.st (fun j hj=>by rw[hab1,hab2] at hj;simp only[List.nil_append] at hj;exact hSr j hj) ?_
   simp only[go_sem,w1]
   refine hK _ _ _ ?_
   clear hK K
   repeat' (first| ((with_reducible refine Y8 ?_);try simp only[AQ.then,AQ.blk,reduceIte,Nat.reduceEqDiff])|fail)
   exact V4 hQ (dA (eSt (cX s))) _ (fZ (m:=1) rfl aA.bH rfl) (aE rfl) rfl rfl
theorem aLW {c:Cfg} {s:CSt} (hf:aME c s) (h:K (dA (eSt (cX s))) H nx):aB Tryz.prog aIZ [dA (eI s)] H nx K:=
 (aMH c s hf).fresh rfl (fun r hr=>hr▸h)
end
end Go.Proofs.YtegiblhkjfiooaaGreat
end
