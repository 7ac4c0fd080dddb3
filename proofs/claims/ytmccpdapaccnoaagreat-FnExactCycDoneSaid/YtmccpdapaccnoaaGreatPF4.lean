/- Texts laid together by a program: rules, contracts and the walk that leads to the law. -/
import Derived.Test.YtmccpdapaccnoaaGreatPF3
set_option linter.unusedVariables false
set_option linter.unusedSimpArgs false
set_option linter.unusedSectionVars false
section
namespace Go.Proofs.YtmccpdapaccnoaaGreat
open Go Go.AM
set_option maxRecDepth 100000
def aJO:AC:=
 (.seq (.region [rq 0 2 (.box true (.tm 0)),
 rq 1 3 (.box true (.tm 1)),
 rq 2 4 (.move (.kv (.bool false)))] 3 [2,3])
 (.seq (.seq (.region [rq 0 8 (.load 3 true (.tm 2)),
 rq 1 9 (.call aIV [(.tm 8)]),
 rq 2 10 (.un .not (.tm 9)),
 RM 3 11 10,
 GQ 4 12 (.fld 0 (.tm 3)) 11 false,
 GQ 5 13 (.load 2 true (.tm 12)) 11 false,
 GQ 6 14 (.call aIU [(.tm 13)]) 11 false,
 GQ 7 15 (.un .not (.tm 14)) 11 false,
 rq 8 16 (.pick (.tm 11) (.kv (.bool true)) (.tm 15)),
 RM 9 17 16,
 GQ 10 18 (.fld 2 (.tm 3)) 17 false,
 GQ 11 19 (.load 1 false (.tm 18)) 17 false,
 GQ 12 20 (.len false (.tm 19)) 17 false,
 GQ 13 21 (.bin .neq (.tm 20) (ki 3)) 17 false,
 rq 14 22 (.pick (.tm 17) (.kv (.bool true)) (.tm 21)),
 RM 15 23 22,
 GQ 16 24 (.fld 3 (.tm 3)) 23 false,
 GQ 17 25 (.load 1 false (.tm 24)) 23 false,
 GQ 18 26 (.len false (.tm 25)) 23 false,
 GQ 19 27 (.bin .neq (.tm 26) (ki 4)) 23 false,
 rq 20 28 (.pick (.tm 23) (.kv (.bool true)) (.tm 27))] 21 [2,3,28])
 (.cond (.tm 28)
 (.seq (.region [rq 0 4 (.move (.kv (.bool false)))] 1 [4])
 .ret)
 .skip))
 (.seq (.region [rq 0 5 (.move (ki 0))] 1 [2,3,5])
 (.seq (.seq (.region [rq 0 6 (.move (ki 0))] 1 [2,3,5,6])
 (.block 0
 (.loop
 (.seq (.seq (.region [RM 0 29 6,
 rq 1 30 (.bin .lss (.tm 29) (ki 3))] 2 [2,3,5,6,30])
 (.cond (.tm 30)
 .skip
 (.exit 0)))
 (.seq (.block 1
 (.seq (.seq (.region [rq 0 33 (.load 3 true (.tm 2)),
 rq 1 34 (.load 5 true (.tm 3)),
 RM 2 35 6,
 rq 3 36 (.call aIY [(.tm 33),(.tm 34),(.tm 35)]),
 rq 4 37 (.un .not (.tm 36))] 5 [2,3,5,6,37])
 (.cond (.tm 37)
 (.seq (.region [rq 0 4 (.move (.kv (.bool false)))] 1 [4])
 .ret)
 .skip))
 (.region [RM 0 38 5,
 RF 1 39 2 3,
 RL 2 40 39,
 RM 3 41 6,
 rq 4 42 (.idx 4 (.tm 40) (.tm 41)),
 RF 5 43 2 42,
 RL 6 44 43,
 rq 7 45 (.len false (.tm 44)),
 rq 8 46 (.bin .add (.tm 38) (.tm 45)),
 RM 9 5 46] 10 [2,3,5,6])))
 (.region [RM 0 31 6,
 rq 1 32 (.bin .add (.tm 31) (ki 1)),
 RM 2 6 32] 3 [2,3,5,6]))))))
 (.seq (.seq (.region [rq 0 7 (.move (ki 0))] 1 [2,3,5,7])
 (.block 2
 (.loop
 (.seq (.seq (.region [RM 0 47 7,
 rq 1 48 (.bin .leq (.tm 47) (ki 3))] 2 [2,3,5,7,48])
 (.cond (.tm 48)
 .skip
 (.exit 2)))
 (.seq (.block 3
 (.seq (.seq (.region [rq 0 51 (.load 3 true (.tm 2)),
 rq 1 52 (.load 5 true (.tm 3)),
 RM 2 53 7,
 rq 3 54 (.call aIT [(.tm 51),(.tm 52),(.tm 53)]),
 rq 4 55 (.un .not (.tm 54))] 5 [2,3,5,7,55])
 (.cond (.tm 55)
 (.seq (.region [rq 0 4 (.move (.kv (.bool false)))] 1 [4])
 .ret)
 .skip))
 (.region [RM 0 56 5,
 RF 1 57 3 3,
 RL 2 58 57,
 RM 3 59 7,
 rq 4 60 (.idx 3 (.tm 58) (.tm 59)),
 RF 5 61 0 60,
 RL 6 62 61,
 rq 7 63 (.len false (.tm 62)),
 rq 8 64 (.bin .sub (.tm 56) (.tm 63)),
 RF 9 65 3 3,
 RL 10 66 65,
 RM 11 67 7,
 rq 12 68 (.idx 3 (.tm 66) (.tm 67)),
 RF 13 69 1 68,
 RL 14 70 69,
 rq 15 71 (.len false (.tm 70)),
 rq 16 72 (.bin .sub (.tm 64) (.tm 71)),
 RM 17 5 72] 18 [2,3,5,7])))
 (.region [RM 0 49 7,
 rq 1 50 (.bin .add (.tm 49) (ki 1)),
 RM 2 7 50] 3 [2,3,5,7]))))))
 (.seq (.region [RM 0 73 5,
 rq 1 74 (.bin .eql (.tm 73) (ki 0)),
 RM 2 75 74,
 ⟨3,(some 76),.load 3 true (.tm 2),(some (75,true)),[],[],true⟩,
 GQ 4 77 (.load 5 true (.tm 3)) 75 true,
 ⟨5,(some 78),.call aIZ [(.tm 77)],(some (75,true)),[],[3],false⟩,
 GQ 6 79 (.call aI6 [(.tm 76),(.tm 78)]) 75 true,
 rq 7 80 (.pick (.tm 75) (.tm 79) (.kv (.bool false))),
 RM 8 4 80] 9 [4])
 .ret))))))
def aL6:List Cert:=[⟨[],[2,3]⟩,⟨[],[2,3,28]⟩,⟨[],[4]⟩,⟨[],[2,3,5]⟩,⟨[],[2,3,5,6]⟩,⟨[],[2,3,5,6,30]⟩,⟨[],[2,3,5,6,37]⟩,⟨[],[4]⟩,⟨[],[2,3,5,6]⟩,⟨[],[2,3,5,6]⟩,⟨[],[2,3,5,7]⟩,⟨[],[2,3,5,7,48]⟩,⟨[],[2,3,5,7,55]⟩,⟨[],[4]⟩,⟨[cz 0,cz 1,cz 2,cz 3,cz 4,cz 5,cz 6,cz 7,cz 8,cz 9,cz 10,cz 11,cz 12,cz 13,cz 14,cz 15,cz 16,cz 17],[2,3,5,7]⟩,⟨[],[2,3,5,7]⟩,⟨[cz 0,cz 1,cz 2,(3,[],[],true),cz 4,(5,[],[3],false),cz 6,cz 7,cz 8],[4]⟩]
def aJ9:List aW:=[.tm 4]
theorem aMD:aO Tryz.prog Tryz.f33 aL6=some (aJO,aJ9):=by kernel_rfl
theorem aLQ:aN Tryz.prog aI5 Tryz.f33 aJO aJ9:=
 aN.mk Tryz.func33 (by kernel_rfl) aMD
def aI3:AC:=
 (.seq (.region [rq 0 2 (.box true (.tm 0)),
 rq 1 3 (.box true (.tm 1)),
 rq 2 4 (.move (.kv (.bool false)))] 3 [2,3])
 (.seq (.seq (.region [rq 0 7 (.load 3 true (.tm 2)),
 rq 1 8 (.load 5 true (.tm 3)),
 rq 2 9 (.call aI5 [(.tm 7),(.tm 8)]),
 rq 3 10 (.un .not (.tm 9))] 4 [2,3,10])
 (.cond (.tm 10)
 (.seq (.region [rq 0 4 (.move (.kv (.bool false)))] 1 [4])
 .ret)
 .skip))
 (.seq (.region [rq 0 5 (.move (ki 0))] 1 [2,3,5])
 (.seq (.seq (.region [rq 0 6 (.move (ki 0))] 1 [2,3,5,6])
 (.block 0
 (.loop
 (.seq (.seq (.region [RM 0 11 6,
 rq 1 12 (.bin .lss (.tm 11) (ki 3))] 2 [2,3,5,6,12])
 (.cond (.tm 12)
 .skip
 (.exit 0)))
 (.seq (.block 1
 (.region [RM 0 15 5,
 RF 1 16 2 2,
 RL 2 17 16,
 RM 3 18 6,
 rq 4 19 (.idx 1 (.tm 17) (.tm 18)),
 RL 5 20 19,
 rq 6 21 (.len false (.tm 20)),
 rq 7 22 (.bin .add (.tm 15) (.tm 21)),
 RM 8 5 22] 9 [2,3,5,6]))
 (.region [RM 0 13 6,
 rq 1 14 (.bin .add (.tm 13) (ki 1)),
 RM 2 6 14] 3 [2,3,5,6]))))))
 (.seq (.region [RF 0 23 4 3,
 RL 1 24 23,
 rq 2 25 (.len false (.tm 24)),
 RM 3 26 5,
 rq 4 27 (.bin .eql (.tm 25) (.tm 26)),
 RM 5 4 27] 6 [4])
 .ret)))))
def aKO:List Cert:=[⟨[],[2,3]⟩,⟨[],[2,3,10]⟩,⟨[],[4]⟩,⟨[],[2,3,5]⟩,⟨[],[2,3,5,6]⟩,⟨[],[2,3,5,6,12]⟩,⟨[],[2,3,5,6]⟩,⟨[],[2,3,5,6]⟩,⟨[],[4]⟩]
def aJU:List aW:=[.tm 4]
theorem aKN:aO Tryz.prog Tryz.f37 aKO=some (aI3,aJU):=by kernel_rfl
theorem aKQ:aN Tryz.prog aIO Tryz.f37 aI3 aJU:=
 aN.mk Tryz.func37 (by kernel_rfl) aKN
def aJG:AC:=
 (.seq (.region [rq 0 3 (.box true (.tm 0)),
 rq 1 4 (.box true (.tm 1)),
 rq 2 6 (.move (.kv (.bool false)))] 3 [2,3,4])
 (.seq (.region [RF 0 12 2 4,
 RL 1 13 12,
 RM 2 14 2,
 rq 3 15 (.idx 4 (.tm 13) (.tm 14)),
 rq 4 16 (.load 4 true (.tm 15)),
 rq 5 7 (.alloc [VZ,OZ,OZ,VZ]),
 rn 6 (.store 4 true (.tm 7) (.tm 16))] 7 [2,3,7])
 (.seq (.seq (.region [RF 0 17 0 7,
 RL 1 18 17,
 RF 2 19 2 3,
 RL 3 20 19,
 RM 4 21 2,
 rq 5 22 (.idx 1 (.tm 20) (.tm 21)),
 RL 6 23 22,
 rq 7 24 (.len false (.tm 23)),
 rq 8 25 (.call y2 [(.tm 18),(ki 0),(.tm 24)]),
 rq 9 26 (.un .not (.tm 25)),
 RM 10 27 26,
 GQ 11 28 (.fld 1 (.tm 7)) 27 false,
 GQ 12 29 (.load 1 false (.tm 28)) 27 false,
 GQ 13 30 (.len false (.tm 29)) 27 false,
 GQ 14 31 (.bin .gtr (.tm 30) (ki 2)) 27 false,
 rq 15 32 (.pick (.tm 27) (.kv (.bool true)) (.tm 31)),
 RM 16 33 32,
 GQ 17 34 (.fld 1 (.tm 7)) 33 false,
 GQ 18 35 (.load 1 false (.tm 34)) 33 false,
 GQ 19 36 (.len false (.tm 35)) 33 false,
 GQ 20 37 (.fld 0 (.tm 7)) 33 false,
 GQ 21 38 (.load 1 false (.tm 37)) 33 false,
 GQ 22 39 (.bin .gtr (.tm 36) (.tm 38)) 33 false,
 rq 23 40 (.pick (.tm 33) (.kv (.bool true)) (.tm 39)),
 RM 24 41 40,
 GQ 25 42 (.fld 2 (.tm 7)) 41 false,
 GQ 26 43 (.load 1 false (.tm 42)) 41 false,
 GQ 27 44 (.len false (.tm 43)) 41 false,
 GQ 28 45 (.bin .gtr (.tm 44) (ki 4)) 41 false,
 rq 29 46 (.pick (.tm 41) (.kv (.bool true)) (.tm 45)),
 RM 30 47 46,
 GQ 31 48 (.fld 3 (.tm 7)) 47 false,
 GQ 32 49 (.load 1 false (.tm 48)) 47 false,
 GQ 33 50 (.call y2 [(.tm 49),(ki 0),(ki 3)]) 47 false,
 GQ 34 51 (.un .not (.tm 50)) 47 false,
 rq 35 52 (.pick (.tm 47) (.kv (.bool true)) (.tm 51))] 36 [2,3,7,52])
 (.cond (.tm 52)
 (.seq (.region [rq 0 6 (.move (.kv (.bool false)))] 1 [6])
 .ret)
 .skip))
 (.seq (.seq (.region [rq 0 8 (.move (ki 0))] 1 [2,3,7,8])
 (.block 0
 (.loop
 (.seq (.seq (.region [RM 0 53 8,
 RF 1 54 1 7,
 RL 2 55 54,
 rq 3 56 (.len false (.tm 55)),
 rq 4 57 (.bin .lss (.tm 53) (.tm 56))] 5 [2,3,7,8,57])
 (.cond (.tm 57)
 .skip
 (.exit 0)))
 (.seq (.block 1
 (.seq (.region [RF 0 60 1 7,
 RL 1 61 60,
 RM 2 62 8,
 rq 3 63 (.idx 1 (.tm 61) (.tm 62)),
 RL 4 64 63,
 RF 5 65 0 7,
 RL 6 66 65,
 RF 7 67 1 7,
 RL 8 68 67,
 rq 9 69 (.len false (.tm 68)),
 rq 10 70 (.bin .sub (.tm 66) (.tm 69)),
 RM 11 71 8,
 rq 12 72 (.bin .add (.tm 70) (.tm 71)),
 rq 13 73 (.bin .neq (.tm 64) (.tm 72))] 14 [2,3,7,8,73])
 (.cond (.tm 73)
 (.seq (.region [rq 0 6 (.move (.kv (.bool false)))] 1 [6])
 .ret)
 .skip)))
 (.region [RM 0 58 8,
 rq 1 59 (.bin .add (.tm 58) (ki 1)),
 RM 2 8 59] 3 [2,3,7,8]))))))
 (.seq (.seq (.region [rq 0 9 (.move (ki 0))] 1 [2,3,7,9])
 (.block 2
 (.loop
 (.seq (.seq (.region [RM 0 74 9,
 RF 1 75 2 7,
 RL 2 76 75,
 rq 3 77 (.len false (.tm 76)),
 rq 4 78 (.bin .lss (.tm 74) (.tm 77))] 5 [2,3,7,9,78])
 (.cond (.tm 78)
 .skip
 (.exit 2)))
 (.seq (.block 3
 (.seq (.region [RF 0 81 2 7,
 RL 1 82 81,
 RM 2 83 9,
 rq 3 84 (.idx 3 (.tm 82) (.tm 83)),
 rq 4 85 (.load 3 true (.tm 84)),
 rq 5 10 (.alloc [VZ,VZ,VZ]),
 rn 6 (.store 3 true (.tm 10) (.tm 85))] 7 [2,3,7,9,10])
 (.seq (.seq (.region [RF 0 86 0 10,
 RL 1 87 86,
 RM 2 88 2,
 rq 3 89 (.bin .neq (.tm 87) (.tm 88)),
 RM 4 90 89,
 GQ 5 91 (.fld 1 (.tm 10)) 90 false,
 GQ 6 92 (.load 1 false (.tm 91)) 90 false,
 GQ 7 93 (.fld 0 (.tm 7)) 90 false,
 GQ 8 94 (.load 1 false (.tm 93)) 90 false,
 GQ 9 95 (.fld 1 (.tm 7)) 90 false,
 GQ 10 96 (.load 1 false (.tm 95)) 90 false,
 GQ 11 97 (.len false (.tm 96)) 90 false,
 GQ 12 98 (.bin .sub (.tm 94) (.tm 97)) 90 false,
 GQ 13 99 (.bin .sub (.tm 98) (ki 1)) 90 false,
 GQ 14 100 (.call y2 [(.tm 92),(ki 0),(.tm 99)]) 90 false,
 GQ 15 101 (.un .not (.tm 100)) 90 false,
 rq 16 102 (.pick (.tm 90) (.kv (.bool true)) (.tm 101)),
 RM 17 103 102,
 GQ 18 104 (.move (.tm 9)) 103 false,
 GQ 19 105 (.bin .gtr (.tm 104) (ki 0)) 103 false,
 GQ 20 106 (.move (.tm 105)) 103 false,
 GQ 21 107 (.fld 2 (.tm 7)) 106 true,
 GQ 22 108 (.load 1 false (.tm 107)) 106 true,
 GQ 23 109 (.move (.tm 9)) 106 true,
 GQ 24 110 (.bin .sub (.tm 109) (ki 1)) 106 true,
 GQ 25 111 (.idx 3 (.tm 108) (.tm 110)) 106 true,
 GQ 26 112 (.fld 1 (.tm 111)) 106 true,
 GQ 27 113 (.load 1 false (.tm 112)) 106 true,
 GQ 28 114 (.fld 1 (.tm 10)) 106 true,
 GQ 29 115 (.load 1 false (.tm 114)) 106 true,
 GQ 30 116 (.bin .geq (.tm 113) (.tm 115)) 106 true,
 GQ 31 117 (.pick (.tm 106) (.tm 116) (.kv (.bool false))) 103 false,
 rq 32 118 (.pick (.tm 103) (.kv (.bool true)) (.tm 117)),
 RM 33 119 118,
 GQ 34 120 (.fld 2 (.tm 10)) 119 false,
 ⟨35,(some 121),.load 1 false (.tm 120),(some (119,false)),[],[],true⟩,
 GQ 36 122 (.fld 0 (.tm 3)) 119 false,
 GQ 37 123 (.load 1 false (.tm 122)) 119 false,
 GQ 38 124 (.fld 2 (.tm 3)) 119 false,
 GQ 39 125 (.load 1 false (.tm 124)) 119 false,
 GQ 40 126 (.move (.tm 2)) 119 false,
 GQ 41 127 (.idx 1 (.tm 125) (.tm 126)) 119 false,
 GQ 42 128 (.load 1 false (.tm 127)) 119 false,
 GQ 43 129 (.fld 1 (.tm 10)) 119 false,
 GQ 44 130 (.load 1 false (.tm 129)) 119 false,
 GQ 45 131 (.idx 7 (.tm 128) (.tm 130)) 119 false,
 GQ 46 132 (.load 7 true (.tm 131)) 119 false,
 ⟨47,(some 133),.call y3 [(.tm 123),(.tm 132)],(some (119,false)),[],[35],false⟩,
 GQ 48 134 (.bin .neq (.tm 121) (.tm 133)) 119 false,
 rq 49 135 (.pick (.tm 119) (.kv (.bool true)) (.tm 134))] 50 [2,3,7,9,10,135])
 (.cond (.tm 135)
 (.seq (.region [rq 0 6 (.move (.kv (.bool false)))] 1 [6])
 .ret)
 .skip))
 (.seq (.region [rq 0 11 (.move (ki 0))] 1 [2,3,7,9,10,11])
 (.block 4
 (.loop
 (.seq (.seq (.region [RM 0 136 11,
 RM 1 137 9,
 rq 2 138 (.bin .lss (.tm 136) (.tm 137))] 3 [2,3,7,9,10,11,138])
 (.cond (.tm 138)
 .skip
 (.exit 4)))
 (.seq (.block 5
 (.seq (.region [RF 0 141 2 3,
 RL 1 142 141,
 RM 2 143 2,
 rq 3 144 (.idx 1 (.tm 142) (.tm 143)),
 RL 4 145 144,
 RF 5 146 2 7,
 RL 6 147 146,
 RM 7 148 11,
 rq 8 149 (.idx 3 (.tm 147) (.tm 148)),
 RF 9 150 1 149,
 RL 10 151 150,
 rq 11 152 (.idx 7 (.tm 145) (.tm 151)),
 RF 12 153 0 152,
 RL 13 154 153,
 RF 14 155 2 3,
 RL 15 156 155,
 RM 16 157 2,
 rq 17 158 (.idx 1 (.tm 156) (.tm 157)),
 RL 18 159 158,
 RF 19 160 1 10,
 RL 20 161 160,
 rq 21 162 (.idx 7 (.tm 159) (.tm 161)),
 RF 22 163 0 162,
 RL 23 164 163,
 rq 24 165 (.bin .eql (.tm 154) (.tm 164)),
 RM 25 166 165,
 GQ 26 167 (.fld 2 (.tm 7)) 166 true,
 GQ 27 168 (.load 1 false (.tm 167)) 166 true,
 GQ 28 169 (.move (.tm 11)) 166 true,
 GQ 29 170 (.idx 3 (.tm 168) (.tm 169)) 166 true,
 GQ 30 171 (.fld 2 (.tm 170)) 166 true,
 GQ 31 172 (.load 1 false (.tm 171)) 166 true,
 GQ 32 173 (.fld 2 (.tm 10)) 166 true,
 GQ 33 174 (.load 1 false (.tm 173)) 166 true,
 GQ 34 175 (.bin .neq (.tm 172) (.tm 174)) 166 true,
 rq 35 176 (.pick (.tm 166) (.tm 175) (.kv (.bool false)))] 36 [2,3,7,9,10,11,176])
 (.cond (.tm 176)
 (.seq (.region [rq 0 6 (.move (.kv (.bool false)))] 1 [6])
 .ret)
 .skip)))
 (.region [RM 0 139 11,
 rq 1 140 (.bin .add (.tm 139) (ki 1)),
 RM 2 11 140] 3 [2,3,7,9,10,11])))))))))
 (.region [RM 0 79 9,
 rq 1 80 (.bin .add (.tm 79) (ki 1)),
 RM 2 9 80] 3 [2,3,7,9]))))))
 (.seq (.region [rq 0 6 (.move (.kv (.bool true)))] 1 [6])
 .ret))))))
def aLM:List Cert:=[⟨[],[2,3,4]⟩,⟨[],[2,3,7]⟩,⟨[cz 0,cz 1,cz 2,cz 3,cz 4,cz 5,cz 6,cz 7,cz 8,cz 9,cz 10,cz 11,cz 12,cz 13,cz 14,cz 15,cz 16,cz 17,cz 18,cz 19,cz 20,cz 21,cz 22,cz 23,cz 24,cz 25,cz 26,cz 27,cz 28,cz 29,cz 30,cz 31,cz 32,cz 33,cz 34,cz 35],[2,3,7,52]⟩,⟨[],[6]⟩,⟨[],[2,3,7,8]⟩,⟨[],[2,3,7,8,57]⟩,⟨[cz 0,cz 1,cz 2,cz 3,cz 4,cz 5,cz 6,cz 7,cz 8,cz 9,cz 10,cz 11,cz 12,cz 13],[2,3,7,8,73]⟩,⟨[],[6]⟩,⟨[],[2,3,7,8]⟩,⟨[],[2,3,7,9]⟩,⟨[],[2,3,7,9,78]⟩,⟨[],[2,3,7,9,10]⟩,⟨[cz 0,cz 1,cz 2,cz 3,cz 4,cz 5,cz 6,cz 7,cz 8,cz 9,cz 10,cz 11,cz 12,cz 13,cz 14,cz 15,cz 16,cz 17,cz 18,cz 19,cz 20,cz 21,cz 22,cz 23,cz 24,cz 25,cz 26,cz 27,cz 28,cz 29,cz 30,cz 31,cz 32,cz 33,cz 34,(35,[],[],true),cz 36,cz 37,cz 38,cz 39,cz 40,cz 41,cz 42,cz 43,cz 44,cz 45,cz 46,(47,[],[35],false),cz 48,cz 49],[2,3,7,9,10,135]⟩,⟨[],[6]⟩,⟨[],[2,3,7,9,10,11]⟩,⟨[],[2,3,7,9,10,11,138]⟩,⟨[cz 0,cz 1,cz 2,cz 3,cz 4,cz 5,cz 6,cz 7,cz 8,cz 9,cz 10,cz 11,cz 12,cz 13,cz 14,cz 15,cz 16,cz 17,cz 18,cz 19,cz 20,cz 21,cz 22,cz 23,cz 24,cz 25,cz 26,cz 27,cz 28,cz 29,cz 30,cz 31,cz 32,cz 33,cz 34,cz 35],[2,3,7,9,10,11,176]⟩,⟨[],[6]⟩,⟨[],[2,3,7,9,10,11]⟩,⟨[],[2,3,7,9]⟩,⟨[],[6]⟩]
def aJ2:List aW:=[.tm 6]
theorem aLJ:aO Tryz.prog Tryz.f101 aLM=some (aJG,aJ2):=by kernel_rfl
theorem aLA:aN Tryz.prog aIY Tryz.f101 aJG aJ2:=
 aN.mk Tryz.func101 (by kernel_rfl) aLJ
def aI4:AC:=
 (.seq (.region [rq 0 3 (.box true (.tm 0)),
 rq 1 4 (.box true (.tm 1)),
 rq 2 6 (.move (.kv (.bool false)))] 3 [2,3,4])
 (.seq (.region [RF 0 15 3 4,
 RL 1 16 15,
 RM 2 17 2,
 rq 3 18 (.idx 3 (.tm 16) (.tm 17)),
 rq 4 19 (.load 3 true (.tm 18)),
 rq 5 7 (.alloc [OZ,OZ,VZ]),
 rn 6 (.store 3 true (.tm 7) (.tm 19))] 7 [2,3,4,7])
 (.seq (.seq (.region [RF 0 20 0 7,
 RL 1 21 20,
 rq 2 22 (.len false (.tm 21)),
 rq 3 23 (.bin .gtr (.tm 22) (ki 2)),
 RM 4 24 23,
 GQ 5 25 (.fld 1 (.tm 7)) 24 false,
 GQ 6 26 (.load 1 false (.tm 25)) 24 false,
 GQ 7 27 (.len false (.tm 26)) 24 false,
 GQ 8 28 (.bin .gtr (.tm 27) (ki 2)) 24 false,
 rq 9 29 (.pick (.tm 24) (.kv (.bool true)) (.tm 28)),
 RM 10 30 29,
 GQ 11 31 (.fld 2 (.tm 7)) 30 false,
 GQ 12 32 (.load 1 false (.tm 31)) 30 false,
 GQ 13 33 (.call y2 [(.tm 32),(ki 0),(ki 2)]) 30 false,
 GQ 14 34 (.un .not (.tm 33)) 30 false,
 rq 15 35 (.pick (.tm 30) (.kv (.bool true)) (.tm 34))] 16 [2,3,4,7,35])
 (.cond (.tm 35)
 (.seq (.region [rq 0 6 (.move (.kv (.bool false)))] 1 [6])
 .ret)
 .skip))
 (.seq (.region [rq 0 36 (.bC 5 0 [VZ,VZ,VZ,VZ,OZ] []),
 RM 1 8 36] 2 [2,3,4,7,8])
 (.seq (.seq (.region [rq 0 9 (.move (ki 0))] 1 [2,3,4,7,8,9])
 (.block 0
 (.loop
 (.seq (.seq (.region [RM 0 37 9,
 RF 1 38 1 7,
 RL 2 39 38,
 rq 3 40 (.len false (.tm 39)),
 rq 4 41 (.bin .lss (.tm 37) (.tm 40))] 5 [2,3,4,7,8,9,41])
 (.cond (.tm 41)
 .skip
 (.exit 0)))
 (.seq (.block 1
 (.seq (.region [RF 0 44 1 7,
 RL 1 45 44,
 RM 2 46 9,
 rq 3 47 (.idx 5 (.tm 45) (.tm 46)),
 rq 4 48 (.load 5 true (.tm 47)),
 rq 5 10 (.alloc [VZ,VZ,VZ,VZ,OZ]),
 rn 6 (.store 5 true (.tm 10) (.tm 48))] 7 [2,3,4,7,8,9,10])
 (.seq (.seq (.region [rq 0 49 (.load 5 true (.tm 4)),
 RF 1 50 0 10,
 RL 2 51 50,
 RF 3 52 1 10,
 RL 4 53 52,
 RM 5 54 2,
 rq 6 55 (.call aJX [(.tm 49),(.tm 51),(.tm 53),(.tm 54)]),
 rq 7 56 (.un .not (.tm 55)),
 RM 8 57 56,
 GQ 9 58 (.fld 2 (.tm 10)) 57 false,
 GQ 10 59 (.load 3 true (.tm 58)) 57 false,
 GQ 11 60 (.call aIP [(.tm 59)]) 57 false,
 GQ 12 61 (.un .not (.tm 60)) 57 false,
 rq 13 62 (.pick (.tm 57) (.kv (.bool true)) (.tm 61)),
 RM 14 63 62,
 GQ 15 64 (.fld 2 (.tm 10)) 63 false,
 GQ 16 65 (.fld 0 (.tm 64)) 63 false,
 GQ 17 66 (.load 1 false (.tm 65)) 63 false,
 GQ 18 67 (.fld 2 (.tm 3)) 63 false,
 GQ 19 68 (.load 1 false (.tm 67)) 63 false,
 GQ 20 69 (.fld 0 (.tm 10)) 63 false,
 GQ 21 70 (.load 1 false (.tm 69)) 63 false,
 GQ 22 71 (.idx 1 (.tm 68) (.tm 70)) 63 false,
 GQ 23 72 (.load 1 false (.tm 71)) 63 false,
 GQ 24 73 (.fld 1 (.tm 10)) 63 false,
 GQ 25 74 (.load 1 false (.tm 73)) 63 false,
 GQ 26 75 (.idx 7 (.tm 72) (.tm 74)) 63 false,
 GQ 27 76 (.fld 0 (.tm 75)) 63 false,
 GQ 28 77 (.load 1 false (.tm 76)) 63 false,
 GQ 29 78 (.bin .neq (.tm 66) (.tm 77)) 63 false,
 rq 30 79 (.pick (.tm 63) (.kv (.bool true)) (.tm 78))] 31 [2,3,4,7,8,9,10,79])
 (.cond (.tm 79)
 (.seq (.region [rq 0 6 (.move (.kv (.bool false)))] 1 [6])
 .ret)
 .skip))
 (.region [RM 0 80 8,
 RF 1 81 0 10,
 RL 2 82 81,
 RF 3 83 1 10,
 RL 4 84 83,
 rq 5 85 (.build [VZ,VZ,VZ,VZ,OZ] [(0,1,(.tm 82)),(1,1,(.tm 84))]),
 rq 6 86 (.bC 5 1 [VZ,VZ,VZ,VZ,OZ] [(0,5,(.tm 85))]),
 rq 7 87 (.append 5 (.tm 80) (.tm 86)),
 RM 8 8 87] 9 [2,3,4,7,8,9]))))
 (.region [RM 0 42 9,
 rq 1 43 (.bin .add (.tm 42) (ki 1)),
 RM 2 9 43] 3 [2,3,4,7,8,9]))))))
 (.seq (.seq (.region [rq 0 11 (.move (ki 0))] 1 [2,3,4,7,8,11])
 (.block 2
 (.loop
 (.seq (.seq (.region [RM 0 88 11,
 RF 1 89 0 7,
 RL 2 90 89,
 rq 3 91 (.len false (.tm 90)),
 rq 4 92 (.bin .lss (.tm 88) (.tm 91))] 5 [2,3,4,7,8,11,92])
 (.cond (.tm 92)
 .skip
 (.exit 2)))
 (.seq (.block 3
 (.seq (.region [RF 0 95 0 7,
 RL 1 96 95,
 RM 2 97 11,
 rq 3 98 (.idx 3 (.tm 96) (.tm 97)),
 rq 4 99 (.load 3 true (.tm 98)),
 rq 5 12 (.alloc [VZ,VZ,VZ]),
 rn 6 (.store 3 true (.tm 12) (.tm 99))] 7 [2,3,4,7,8,11,12])
 (.seq (.seq (.region [rq 0 100 (.load 5 true (.tm 4)),
 RF 1 101 0 12,
 RL 2 102 101,
 RF 3 103 1 12,
 RL 4 104 103,
 RM 5 105 2,
 rq 6 106 (.call aJX [(.tm 100),(.tm 102),(.tm 104),(.tm 105)]),
 rq 7 107 (.un .not (.tm 106)),
 RM 8 108 107,
 GQ 9 109 (.fld 2 (.tm 12)) 108 false,
 GQ 10 110 (.load 1 false (.tm 109)) 108 false,
 GQ 11 111 (.fld 1 (.tm 3)) 108 false,
 GQ 12 112 (.load 1 false (.tm 111)) 108 false,
 GQ 13 113 (.move (.tm 2)) 108 false,
 GQ 14 114 (.idx 1 (.tm 112) (.tm 113)) 108 false,
 GQ 15 115 (.load 1 false (.tm 114)) 108 false,
 GQ 16 116 (.call y2 [(.tm 110),(ki 0),(.tm 115)]) 108 false,
 GQ 17 117 (.un .not (.tm 116)) 108 false,
 rq 18 118 (.pick (.tm 108) (.kv (.bool true)) (.tm 117)),
 RM 19 119 118,
 GQ 20 120 (.move (.tm 11)) 119 false,
 GQ 21 121 (.bin .gtr (.tm 120) (ki 0)) 119 false,
 GQ 22 122 (.move (.tm 121)) 119 false,
 GQ 23 123 (.fld 2 (.tm 12)) 122 true,
 GQ 24 124 (.load 1 false (.tm 123)) 122 true,
 GQ 25 125 (.fld 1 (.tm 3)) 122 true,
 GQ 26 126 (.load 1 false (.tm 125)) 122 true,
 GQ 27 127 (.move (.tm 2)) 122 true,
 GQ 28 128 (.idx 1 (.tm 126) (.tm 127)) 122 true,
 GQ 29 129 (.load 1 false (.tm 128)) 122 true,
 GQ 30 130 (.bin .neq (.tm 124) (.tm 129)) 122 true,
 GQ 31 131 (.pick (.tm 122) (.tm 130) (.kv (.bool false))) 119 false,
 rq 32 132 (.pick (.tm 119) (.kv (.bool true)) (.tm 131))] 33 [2,3,4,7,8,11,12,132])
 (.cond (.tm 132)
 (.seq (.region [rq 0 6 (.move (.kv (.bool false)))] 1 [6])
 .ret)
 .skip))
 (.region [RM 0 133 8,
 RF 1 134 0 12,
 RL 2 135 134,
 RF 3 136 1 12,
 RL 4 137 136,
 rq 5 138 (.build [VZ,VZ,VZ,VZ,OZ] [(0,1,(.tm 135)),(1,1,(.tm 137))]),
 rq 6 139 (.bC 5 1 [VZ,VZ,VZ,VZ,OZ] [(0,5,(.tm 138))]),
 rq 7 140 (.append 5 (.tm 133) (.tm 139)),
 RM 8 8 140] 9 [2,3,4,7,8,11]))))
 (.region [RM 0 93 11,
 rq 1 94 (.bin .add (.tm 93) (ki 1)),
 RM 2 11 94] 3 [2,3,4,7,8,11]))))))
 (.seq (.seq (.region [rq 0 13 (.move (ki 0))] 1 [8,13])
 (.block 4
 (.loop
 (.seq (.seq (.region [RM 0 141 13,
 RM 1 142 8,
 rq 2 143 (.len false (.tm 142)),
 rq 3 144 (.bin .lss (.tm 141) (.tm 143))] 4 [8,13,144])
 (.cond (.tm 144)
 .skip
 (.exit 4)))
 (.seq (.block 5
 (.seq (.region [rq 0 14 (.move (ki 0))] 1 [8,13,14])
 (.block 6
 (.loop
 (.seq (.seq (.region [RM 0 147 14,
 RM 1 148 13,
 rq 2 149 (.bin .lss (.tm 147) (.tm 148))] 3 [8,13,14,149])
 (.cond (.tm 149)
 .skip
 (.exit 6)))
 (.seq (.block 7
 (.seq (.region [RM 0 152 8,
 RM 1 153 14,
 rq 2 154 (.idx 5 (.tm 152) (.tm 153)),
 RF 3 155 0 154,
 RL 4 156 155,
 RM 5 157 8,
 RM 6 158 13,
 rq 7 159 (.idx 5 (.tm 157) (.tm 158)),
 RF 8 160 0 159,
 RL 9 161 160,
 rq 10 162 (.bin .eql (.tm 156) (.tm 161)),
 RM 11 163 162,
 GQ 12 164 (.move (.tm 8)) 163 true,
 GQ 13 165 (.move (.tm 14)) 163 true,
 GQ 14 166 (.idx 5 (.tm 164) (.tm 165)) 163 true,
 GQ 15 167 (.fld 1 (.tm 166)) 163 true,
 GQ 16 168 (.load 1 false (.tm 167)) 163 true,
 GQ 17 169 (.move (.tm 8)) 163 true,
 GQ 18 170 (.move (.tm 13)) 163 true,
 GQ 19 171 (.idx 5 (.tm 169) (.tm 170)) 163 true,
 GQ 20 172 (.fld 1 (.tm 171)) 163 true,
 GQ 21 173 (.load 1 false (.tm 172)) 163 true,
 GQ 22 174 (.bin .geq (.tm 168) (.tm 173)) 163 true,
 rq 23 175 (.pick (.tm 163) (.tm 174) (.kv (.bool false)))] 24 [8,13,14,175])
 (.cond (.tm 175)
 (.seq (.region [rq 0 6 (.move (.kv (.bool false)))] 1 [6])
 .ret)
 .skip)))
 (.region [RM 0 150 14,
 rq 1 151 (.bin .add (.tm 150) (ki 1)),
 RM 2 14 151] 3 [8,13,14])))))))
 (.region [RM 0 145 13,
 rq 1 146 (.bin .add (.tm 145) (ki 1)),
 RM 2 13 146] 3 [8,13]))))))
 (.seq (.region [rq 0 6 (.move (.kv (.bool true)))] 1 [6])
 .ret))))))))
def aKR:List Cert:=[⟨[],[2,3,4]⟩,⟨[],[2,3,4,7]⟩,⟨[],[2,3,4,7,35]⟩,⟨[],[6]⟩,⟨[],[2,3,4,7,8]⟩,⟨[],[2,3,4,7,8,9]⟩,⟨[],[2,3,4,7,8,9,41]⟩,⟨[],[2,3,4,7,8,9,10]⟩,⟨[cz 0,cz 1,cz 2,cz 3,cz 4,cz 5,cz 6,cz 7,cz 8,cz 9,cz 10,cz 11,cz 12,cz 13,cz 14,cz 15,cz 16,cz 17,cz 18,cz 19,cz 20,cz 21,cz 22,cz 23,cz 24,cz 25,cz 26,cz 27,cz 28,cz 29,cz 30],[2,3,4,7,8,9,10,79]⟩,⟨[],[6]⟩,⟨[],[2,3,4,7,8,9]⟩,⟨[],[2,3,4,7,8,9]⟩,⟨[],[2,3,4,7,8,11]⟩,⟨[],[2,3,4,7,8,11,92]⟩,⟨[],[2,3,4,7,8,11,12]⟩,⟨[cz 0,cz 1,cz 2,cz 3,cz 4,cz 5,cz 6,cz 7,cz 8,cz 9,cz 10,cz 11,cz 12,cz 13,cz 14,cz 15,cz 16,cz 17,cz 18,cz 19,cz 20,cz 21,cz 22,cz 23,cz 24,cz 25,cz 26,cz 27,cz 28,cz 29,cz 30,cz 31,cz 32],[2,3,4,7,8,11,12,132]⟩,⟨[],[6]⟩,⟨[],[2,3,4,7,8,11]⟩,⟨[],[2,3,4,7,8,11]⟩,⟨[],[8,13]⟩,⟨[],[8,13,144]⟩,⟨[],[8,13,14]⟩,⟨[],[8,13,14,149]⟩,⟨[cz 0,cz 1,cz 2,cz 3,cz 4,cz 5,cz 6,cz 7,cz 8,cz 9,cz 10,cz 11,cz 12,cz 13,cz 14,cz 15,cz 16,cz 17,cz 18,cz 19,cz 20,cz 21,cz 22,cz 23],[8,13,14,175]⟩,⟨[],[6]⟩,⟨[],[8,13,14]⟩,⟨[],[8,13]⟩,⟨[],[6]⟩]
def aJT:List aW:=[.tm 6]
theorem aKM:aO Tryz.prog Tryz.f102 aKR=some (aI4,aJT):=by kernel_rfl
theorem aKP:aN Tryz.prog aIT Tryz.f102 aI4 aJT:=
 aN.mk Tryz.func102 (by kernel_rfl) aKM
def aJA:AC:=
 (.seq (.region [rq 0 1 (.box true (.tm 0)),
 rq 1 2 (.alloc [OZ,OZ,OZ,OZ,OZ,OZ])] 2 [1,2])
 (.seq (.region [RF 0 9 0 1,
 ⟨1,(some 10),.load 2 true (.tm 9),none,[7],[],false⟩,
 RF 3 12 4 1,
 ⟨4,(some 13),.load 1 false (.tm 12),none,[7],[],true⟩,
 rq 7 3 (.alloc [OZ,OZ,OZ,OZ,OZ,OZ]),
 ⟨2,(some 11),.call aIR [(.tm 10)],none,[7],[4],false⟩,
 ⟨5,(some 14),.call aIM [(.tm 13)],none,[7],[],false⟩,
 rq 6 15 (.build [OZ,OZ,OZ,OZ,OZ,OZ] [(0,2,(.tm 11)),(5,1,(.tm 14))]),
 rn 8 (.store 6 true (.tm 3) (.tm 15))] 9 [1,2,3])
 (.seq (.seq (.region [rq 0 4 (.move (ki 0))] 1 [1,2,3,4])
 (.block 0
 (.loop
 (.seq (.seq (.region [RM 0 16 4,
 RF 1 17 2 1,
 RL 2 18 17,
 rq 3 19 (.len false (.tm 18)),
 rq 4 20 (.bin .lss (.tm 16) (.tm 19))] 5 [1,2,3,4,20])
 (.cond (.tm 20)
 .skip
 (.exit 0)))
 (.seq (.block 1
 (.seq (.region [RF 0 23 2 3,
 ⟨1,(some 24),.load 1 false (.tm 23),none,[8],[],false⟩,
 RF 2 25 2 1,
 RL 3 26 25,
 RM 4 27 4,
 rq 5 28 (.idx 4 (.tm 26) (.tm 27)),
 RF 6 29 0 28,
 RL 7 30 29,
 rq 8 31 (.bC 1 1 [VZ] [(0,1,(.tm 30))]),
 rq 9 32 (.append 1 (.tm 24) (.tm 31)),
 RF 10 33 2 3,
 rn 11 (.store 1 false (.tm 33) (.tm 32))] 12 [1,2,3,4])
 (.seq (.region [rq 0 5 (.move (ki 0))] 1 [1,2,3,4,5])
 (.block 2
 (.loop
 (.seq (.seq (.region [RM 0 34 5,
 RF 1 35 2 1,
 RL 2 36 35,
 RM 3 37 4,
 rq 4 38 (.idx 4 (.tm 36) (.tm 37)),
 RF 5 39 1 38,
 RL 6 40 39,
 rq 7 41 (.len false (.tm 40)),
 rq 8 42 (.bin .lss (.tm 34) (.tm 41))] 9 [1,2,3,4,5,42])
 (.cond (.tm 42)
 .skip
 (.exit 2)))
 (.seq (.block 3
 (.region [RF 0 45 3 3,
 RL 1 46 45,
 RM 2 47 4,
 RF 3 48 2 1,
 RL 4 49 48,
 RM 5 50 4,
 rq 6 51 (.idx 4 (.tm 49) (.tm 50)),
 RF 7 52 1 51,
 RL 8 53 52,
 RM 9 54 5,
 rq 10 55 (.idx 1 (.tm 53) (.tm 54)),
 RL 11 56 55,
 rq 12 57 (.build [VZ,VZ,VZ,VZ,OZ] [(0,1,(.tm 47)),(1,1,(.tm 56))]),
 rq 13 58 (.call aJS [(.tm 46),(.tm 57)]),
 RF 14 59 3 3,
 rn 15 (.store 1 false (.tm 59) (.tm 58))] 16 [1,2,3,4,5]))
 (.region [RM 0 43 5,
 rq 1 44 (.bin .add (.tm 43) (ki 1)),
 RM 2 5 44] 3 [1,2,3,4,5]))))))))
 (.region [RM 0 21 4,
 rq 1 22 (.bin .add (.tm 21) (ki 1)),
 RM 2 4 22] 3 [1,2,3,4]))))))
 (.seq (.seq (.region [rq 0 6 (.move (ki 0))] 1 [1,2,3,6])
 (.block 4
 (.loop
 (.seq (.seq (.region [RM 0 60 6,
 RF 1 61 3 1,
 RL 2 62 61,
 rq 3 63 (.len false (.tm 62)),
 rq 4 64 (.bin .lss (.tm 60) (.tm 63))] 5 [1,2,3,6,64])
 (.cond (.tm 64)
 .skip
 (.exit 4)))
 (.seq (.block 5
 (.seq (.seq (.region [rq 0 7 (.move (ki 0))] 1 [1,2,3,6,7])
 (.block 6
 (.loop
 (.seq (.seq (.region [RM 0 67 7,
 RF 1 68 3 1,
 RL 2 69 68,
 RM 3 70 6,
 rq 4 71 (.idx 3 (.tm 69) (.tm 70)),
 RF 5 72 0 71,
 RL 6 73 72,
 rq 7 74 (.len false (.tm 73)),
 rq 8 75 (.bin .lss (.tm 67) (.tm 74))] 9 [1,2,3,6,7,75])
 (.cond (.tm 75)
 .skip
 (.exit 6)))
 (.seq (.block 7
 (.region [RF 0 78 3 3,
 RL 1 79 78,
 RF 2 80 3 1,
 RL 3 81 80,
 RM 4 82 6,
 rq 5 83 (.idx 3 (.tm 81) (.tm 82)),
 RF 6 84 0 83,
 RL 7 85 84,
 RM 8 86 7,
 rq 9 87 (.idx 3 (.tm 85) (.tm 86)),
 RF 10 88 0 87,
 RL 11 89 88,
 RF 12 90 3 1,
 RL 13 91 90,
 RM 14 92 6,
 rq 15 93 (.idx 3 (.tm 91) (.tm 92)),
 RF 16 94 0 93,
 RL 17 95 94,
 RM 18 96 7,
 rq 19 97 (.idx 3 (.tm 95) (.tm 96)),
 RF 20 98 1 97,
 RL 21 99 98,
 rq 22 100 (.build [VZ,VZ,VZ,VZ,OZ] [(0,1,(.tm 89)),(1,1,(.tm 99))]),
 rq 23 101 (.call aJS [(.tm 79),(.tm 100)]),
 RF 24 102 3 3,
 rn 25 (.store 1 false (.tm 102) (.tm 101))] 26 [1,2,3,6,7]))
 (.region [RM 0 76 7,
 rq 1 77 (.bin .add (.tm 76) (ki 1)),
 RM 2 7 77] 3 [1,2,3,6,7]))))))
 (.seq (.region [rq 0 8 (.move (ki 0))] 1 [1,2,3,6,8])
 (.block 8
 (.loop
 (.seq (.seq (.region [RM 0 103 8,
 RF 1 104 3 1,
 RL 2 105 104,
 RM 3 106 6,
 rq 4 107 (.idx 3 (.tm 105) (.tm 106)),
 RF 5 108 1 107,
 RL 6 109 108,
 rq 7 110 (.len false (.tm 109)),
 rq 8 111 (.bin .lss (.tm 103) (.tm 110))] 9 [1,2,3,6,8,111])
 (.cond (.tm 111)
 .skip
 (.exit 8)))
 (.seq (.block 9
 (.region [RF 0 114 4 3,
 RL 1 115 114,
 RF 2 116 3 1,
 RL 3 117 116,
 RM 4 118 6,
 rq 5 119 (.idx 3 (.tm 117) (.tm 118)),
 RF 6 120 1 119,
 RL 7 121 120,
 RM 8 122 8,
 rq 9 123 (.idx 5 (.tm 121) (.tm 122)),
 rq 10 124 (.load 5 true (.tm 123)),
 rq 11 125 (.call aJS [(.tm 115),(.tm 124)]),
 RF 12 126 4 3,
 rn 13 (.store 1 false (.tm 126) (.tm 125))] 14 [1,2,3,6,8]))
 (.region [RM 0 112 8,
 rq 1 113 (.bin .add (.tm 112) (ki 1)),
 RM 2 8 113] 3 [1,2,3,6,8]))))))))
 (.region [RM 0 65 6,
 rq 1 66 (.bin .add (.tm 65) (ki 1)),
 RM 2 6 66] 3 [1,2,3,6]))))))
 (.seq (.region [rq 0 127 (.load 6 true (.tm 3)),
 rq 1 128 (.call aI0 [(.tm 127)]),
 rn 2 (.store 6 true (.tm 2) (.tm 128))] 3 [2])
 .ret)))))
def aLF:List Cert:=[⟨[],[1,2]⟩,⟨[cz 0,(1,[7],[],false),cz 3,(4,[7],[],true),cz 7,(2,[7],[4],false),(5,[7],[],false),cz 6,cz 8],[1,2,3]⟩,⟨[],[1,2,3,4]⟩,⟨[],[1,2,3,4,20]⟩,⟨[cz 0,(1,[8],[],false),cz 2,cz 3,cz 4,cz 5,cz 6,cz 7,cz 8,cz 9,cz 10,cz 11],[1,2,3,4]⟩,⟨[],[1,2,3,4,5]⟩,⟨[],[1,2,3,4,5,42]⟩,⟨[cz 0,cz 1,cz 2,cz 3,cz 4,cz 5,cz 6,cz 7,cz 8,cz 9,cz 10,cz 11,cz 12,cz 13,cz 14,cz 15],[1,2,3,4,5]⟩,⟨[],[1,2,3,4,5]⟩,⟨[],[1,2,3,4]⟩,⟨[],[1,2,3,6]⟩,⟨[],[1,2,3,6,64]⟩,⟨[],[1,2,3,6,7]⟩,⟨[],[1,2,3,6,7,75]⟩,⟨[cz 0,cz 1,cz 2,cz 3,cz 4,cz 5,cz 6,cz 7,cz 8,cz 9,cz 10,cz 11,cz 12,cz 13,cz 14,cz 15,cz 16,cz 17,cz 18,cz 19,cz 20,cz 21,cz 22,cz 23,cz 24,cz 25],[1,2,3,6,7]⟩,⟨[],[1,2,3,6,7]⟩,⟨[],[1,2,3,6,8]⟩,⟨[],[1,2,3,6,8,111]⟩,⟨[cz 0,cz 1,cz 2,cz 3,cz 4,cz 5,cz 6,cz 7,cz 8,cz 9,cz 10,cz 11,cz 12,cz 13],[1,2,3,6,8]⟩,⟨[],[1,2,3,6,8]⟩,⟨[],[1,2,3,6]⟩,⟨[],[2]⟩]
def aJV:List aW:=[.cell 2 6 true]
theorem aK2:aO Tryz.prog Tryz.f103 aLF=some (aJA,aJV):=by kernel_rfl
theorem aLK:aN Tryz.prog aIZ Tryz.f103 aJA aJV:=
 aN.mk Tryz.func103 (by kernel_rfl) aK2
def a3F:AC:=
 (.seq (.region [rq 0 4 (.box true (.tm 0)),
 rq 1 8 (.move (.kv (.bool false)))] 2 [1,2,3,4])
 (.seq (.seq (.region [RM 0 11 1,
 rq 1 12 (.call y2 [(.tm 11),(ki 0),(ki 2)]),
 rq 2 13 (.un .not (.tm 12))] 3 [1,2,3,4,13])
 (.cond (.tm 13)
 (.seq (.region [rq 0 8 (.move (.kv (.bool false)))] 1 [8])
 .ret)
 .skip))
 (.seq (.region [RF 0 14 2 4,
 RL 1 15 14,
 RM 2 16 1,
 rq 3 17 (.idx 4 (.tm 15) (.tm 16)),
 RF 4 18 2 17,
 RL 5 19 18,
 RM 6 9 19] 7 [2,3,9])
 (.seq (.seq (.region [rq 0 10 (.move (ki 0))] 1 [2,3,9,10])
 (.block 0
 (.loop
 (.seq (.seq (.region [RM 0 20 10,
 RM 1 21 9,
 rq 2 22 (.len false (.tm 21)),
 rq 3 23 (.bin .lss (.tm 20) (.tm 22))] 4 [2,3,9,10,23])
 (.cond (.tm 23)
 .skip
 (.exit 0)))
 (.seq (.block 1
 (.seq (.region [RM 0 26 9,
 RM 1 27 10,
 rq 2 28 (.idx 3 (.tm 26) (.tm 27)),
 RF 3 29 1 28,
 RL 4 30 29,
 RM 5 31 2,
 rq 6 32 (.bin .eql (.tm 30) (.tm 31)),
 RM 7 33 32,
 GQ 8 34 (.move (.tm 9)) 33 true,
 GQ 9 35 (.move (.tm 10)) 33 true,
 GQ 10 36 (.idx 3 (.tm 34) (.tm 35)) 33 true,
 GQ 11 37 (.fld 2 (.tm 36)) 33 true,
 GQ 12 38 (.load 1 false (.tm 37)) 33 true,
 GQ 13 39 (.move (.tm 3)) 33 true,
 GQ 14 40 (.bin .eql (.tm 38) (.tm 39)) 33 true,
 rq 15 41 (.pick (.tm 33) (.tm 40) (.kv (.bool false)))] 16 [2,3,9,10,41])
 (.cond (.tm 41)
 (.seq (.region [rq 0 8 (.move (.kv (.bool true)))] 1 [8])
 .ret)
 .skip)))
 (.region [RM 0 24 10,
 rq 1 25 (.bin .add (.tm 24) (ki 1)),
 RM 2 10 25] 3 [2,3,9,10]))))))
 (.seq (.region [rq 0 8 (.move (.kv (.bool false)))] 1 [8])
 .ret)))))
def bdB:List Cert:=[⟨[],[1,2,3,4]⟩,⟨[],[1,2,3,4,13]⟩,⟨[],[8]⟩,⟨[],[2,3,9]⟩,⟨[],[2,3,9,10]⟩,⟨[],[2,3,9,10,23]⟩,⟨[],[2,3,9,10,41]⟩,⟨[],[8]⟩,⟨[],[2,3,9,10]⟩,⟨[],[8]⟩]
def a5H:List aW:=[.tm 8]
theorem bc0:aO Tryz.prog Tryz.f186 bdB=some (a3F,a5H):=by kernel_rfl
theorem bcJ:aN Tryz.prog aJX Tryz.f186 a3F a5H:=
 aN.mk Tryz.func186 (by kernel_rfl) bc0
end Go.Proofs.YtmccpdapaccnoaaGreat
end
section
namespace Go.Proofs.YtmccpdapaccnoaaGreat
open Go Go.AM
set_option maxRecDepth 100000
def aA7:AC:=
 (.seq (.region [rq 0 3 (.box true (.tm 1)),
 rq 1 4 (.move (ki 0))] 2 [0,3])
 (.seq (.seq (.region [RM 0 6 0,
 rq 1 7 (.call aBG [(.tm 6)]),
 rq 2 8 (.un .not (.tm 7)),
 RM 3 9 8,
 GQ 4 10 (.load 7 true (.tm 3)) 9 false,
 GQ 5 11 (.call aBF [(.tm 10)]) 9 false,
 GQ 6 12 (.un .not (.tm 11)) 9 false,
 rq 7 13 (.pick (.tm 9) (.kv (.bool true)) (.tm 12))] 8 [0,3,13])
 (.cond (.tm 13)
 (.seq (.region [rq 0 4 (.move (.kv (.int .i64 (-1))))] 1 [4])
 .ret)
 .skip))
 (.seq (.region [RM 0 14 0,
 RF 1 15 2 3,
 RL 2 16 15,
 RF 3 17 3 3,
 RL 4 18 17,
 RF 5 19 4 3,
 RL 6 20 19,
 rq 7 21 (.call aAY [(.tm 16),(.tm 18),(.tm 20)]),
 rq 8 22 (.call aA4 [(.tm 14),(.tm 21)]),
 RM 9 5 22] 10 [0,5])
 (.seq (.seq (.region [RM 0 23 5,
 rq 1 24 (.bin .lss (.tm 23) (ki 0))] 2 [0,5,24])
 (.cond (.tm 24)
 (.seq (.region [rq 0 4 (.move (ki 3))] 1 [4])
 .ret)
 .skip))
 (.seq (.region [RM 0 25 0,
 RM 1 26 5,
 rq 2 27 (.idx 4 (.tm 25) (.tm 26)),
 RF 3 28 2 27,
 RL 4 29 28,
 RM 5 4 29] 6 [4])
 .ret)))))
def aCK:List Cert:=[⟨[],[0,3]⟩,⟨[],[0,3,13]⟩,⟨[],[4]⟩,⟨[],[0,5]⟩,⟨[],[0,5,24]⟩,⟨[],[4]⟩,⟨[],[4]⟩]
def aBU:List aW:=[.tm 4]
theorem aCT:aO Tryz.prog Tryz.f185 aCK=some (aA7,aBU):=by kernel_rfl
theorem aCQ:aN Tryz.prog y3 Tryz.f185 aA7 aBU:=
 aN.mk Tryz.func185 (by kernel_rfl) aCT
end Go.Proofs.YtmccpdapaccnoaaGreat
end
section
namespace Go.Proofs.YtmccpdapaccnoaaGreat
open Go Go.AM
set_option maxRecDepth 100000
end Go.Proofs.YtmccpdapaccnoaaGreat
end
section
namespace Go.AM
open Go.RowKit
def aaS (e' e:Env):Prop:=∀t,e' t=e t∨e' t= .dead
theorem aaS.refl (e:Env):aaS e e:=fun _=>.inl rfl
theorem ER.le {c:Cf} {T:Nat} {e e':Env} {a:Act} (he:ER c T e a) (h:aaS e' e):ER c T e' a:=by
 refine⟨he.1,he.2.1,fun t=> ?_⟩
 rcases h t with h1|h1
 ·rw[h1];exact he.2.2 t
 ·rw[h1];exact trivial
section
variable {P : Program} {T : Nat} {e : Env} {H : aA} {nx : Nat} {Q : AQ}
theorem AWP.le {x:AC} {e':Env} (hE:aaS e' e) (h:AWP P T x e' H nx Q):AWP P T x e H nx Q:=
 fun code hc c a hs he hN=>h code hc c a hs (he.le hE) hN
theorem aM.le {x:AC} {zs:List AC} {e':Env} (hE:aaS e' e) (h:aM P T (x::zs) e' H nx Q):aM P T (x::zs) e H nx Q:=AWP.le hE h
theorem aB.ofH {f:FuncId} {fn:Func} {code:Code} {ac:AC} {rs:List aW} {cs cs':List Cert} {args:List D} {K:D→aA→Nat→Prop}
 (hok:qY P f=true) (hf:P.funcs[f]?=some fn) (hb:fn.body=some code) (hc:compile P fn.ntmps code cs=some (ac,cs')) (hr:AJ P fn.results.toList=some rs) (hl:args.length≤fn.ntmps)
 (h: ∀Q:AQ,(∀ex e' H' nx' d,ex= .normal∨ex= .ret→yT H' e' rs=some d→K d H' nx'→Q ex e' H' nx')→AWP P fn.ntmps ac (Env.args 0 args) H nx Q):aB P f args H nx K:=by
 refine⟨hok,fun c vs hs hN hlen hrel=> ?_⟩
 refine calls_of_wp hf hb ?_
 have hcm:=JA _ _ _ _ hc
 have her:ER c fn.ntmps (Env.args 0 args) {tmps:=vs.toArray++Array.replicate (fn.ntmps-vs.toArray.size) undef,defers:=[]}:=by
  refine⟨by simp;omega,rfl,fun t=> ?_⟩
  rw[Env.ML]
  simp only[Nat.zero_le,if_true,Nat.sub_zero]
  cases hd:args[t]? with
  |none=>exact trivial
  |some d=>
   have ht:t<vs.length:=by rw[hlen];exact(List.getElem?_eq_some_iff.1 hd).1
   have hv:(vs.toArray++Array.replicate (fn.ntmps-vs.toArray.size) undef).getD t undef=vs[t]:=by
    rw[Array.getD_eq_getD_getElem?,Array.getElem?_append]
    simp[ht]
   rw[hv]
   exact hrel t d _ hd (List.getElem?_eq_getElem ht)
 refine wp_mono (h _ (fun ex e' H' nx' d h1 h2 h4=>(⟨h1,d,h2,h4⟩:(ex= .normal∨ex= .ret)∧ ∃d,yT H' e' rs=some d∧K d H' nx')) code hcm c _ hs her hN) ?_
 rintro ex a w ⟨aex,e',H',nx',c',rfl,rfl,p1,p2,p3,p4,p5,p6,d,q1,q3⟩
 obtain⟨v,hv,hd⟩:=aa3 p1 p3 hr q1
 have hfin:a.defers=[]∧ ∃v,(results fn a.tmps).run P c'.w= .ok v c'.w∧ ∃v' c'' r H'' nx',Ending.returned v= .returned v'∧c''.w=c'.w∧St c'' H''∧Step c H c'' H''∧(∀i,c''.N i→c.N i∨(nx≤i∧i<nx'))∧nx≤nx'∧fD c'' r v'∧K r H'' nx':=
  ⟨p3.2.1,v,hv,v,c',d,H',nx',rfl,rfl,p1,p2,p4,p5,hd,q3⟩
 rcases p6 with rfl|rfl
 ·exact hfin
 ·exact hfin
def cJ (P:Program) (f:FuncId) (fn:Func) (ac:AC) (rs:List aW):Prop:=
 ∀{args:List D} {H:aA} {nx:Nat} {KK:D→aA→Nat→Prop} (_hl:Nat.ble args.length fn.ntmps=true)
  (_h: ∀Q:AQ,(∀ex e2 H2 nx2 d,ex= .normal∨ex= .ret→yT H2 e2 rs=some d→KK d H2 nx2→Q ex e2 H2 nx2)→aM P fn.ntmps [ac] (Env.args 0 args) H nx Q),aB P f args H nx KK
theorem cJ.mk {P:Program} {f:FuncId} {fn:Func} {ac:AC} {rs:List aW} {cs:List Cert}
 (hf:P.funcs[f]?=some fn) (hok:qY P f=true) (hc:aO P fn cs=some (ac,rs)):cJ P f fn ac rs:=by
 intro args H nx KK hl h
 unfold aO at hc
 split at hc
 ·rename_i b hb
  split at hc
  ·rename_i ac' cs' rs' h1 h2
   simp only[Option.some.injEq,Prod.mk.injEq] at hc
   obtain⟨rfl,rfl⟩:=hc
   exact aB.ofH hok hf hb h1 h2 (Nat.le_of_ble_eq_true hl) fun Q hQ=>(h Q hQ).run
  ·simp at hc
 ·simp at hc
end
def CvX (F:Nat→Prop) (nx:Nat) (H H':aA):Prop:=∀i o',H' i=some o'→¬F i∧ ∃o,H i=some o∧(o'=o∨CvO H F id nx o' o)
theorem MR {c:Cf} {nx:Nat} {I':Nat→Prop} (hI: ∀b,c.I b→I' b) (hN: ∀i,c.N i→i<nx) {d:D1} {x:Value} (h:Rel c d x):Rel (c.conv nx nx id I') d x:=by
 have h0: ∀d x,bY c d x→bY (c.conv nx nx id I') d x:=by
  intro d x h
  cases d<;>simp only[bY] at h ⊢ <;>first
   |exact h.wT hI (fun _ _=>rfl)
   |exact⟨h.1,h.2.imp (fun h=>h) fun⟨h1,h2,h3⟩=>⟨h1,.inl ⟨hN _ h2,h2⟩,h3⟩⟩
   |exact⟨.inl ⟨hN _ h.1,h.1⟩,h.2⟩
   |exact h
 cases d with
 |clo f caps=>obtain⟨vs,hx,hl,hf⟩:=h;exact⟨vs,hx,hl,fun i d u h1 h2=>h0 _ _ (hf i d u h1 h2)⟩
 |_=>simp only[Rel] at h ⊢;exact h0 _ _ h
theorem ac6 {c:Cf} {nx:Nat} {I':Nat→Prop} (hI: ∀b,c.I b→I' b) (hN: ∀i,c.N i→i<nx) {d:D} {x:Value} (h:fD c d x):fD (c.conv nx nx id I') d x:=by
 have hV: ∀d x,jZ c d x→jZ (c.conv nx nx id I') d x:=by
  intro d x h
  cases d with
  |c d=>exact MR hI hN h
  |agg cs=>obtain⟨vs,hx,hl,hf⟩:=h;exact⟨vs,hx,hl,fun i d u h1 h2=>MR hI hN (hf i d u h1 h2)⟩
 cases d with
 |one d=>exact hV d x h
 |tup ds=>obtain⟨vs,hx,hl,hf⟩:=h;exact⟨vs,hx,hl,fun i d u h1 h2=>hV d u (hf i d u h1 h2)⟩
 |dead=>trivial
theorem YO {c c0:Cf} {H H0 H':aA} {F:Nat→Prop} {nx:Nat} (hs:St c H) (hstep:Step c0 H0 c H) (hN: ∀i,c.N i→i<nx) (hH:CvX F nx H H'):
 St (c.conv nx nx id (c.frI H F)) H'∧Step c0 H0 (c.conv nx nx id (c.frI H F)) H':=by
 have hO: ∀{i:Nat} {o':bA},H' i=some o'→¬F i∧ ∃o,H i=some o∧o'.n=o.n∧o'.ext=o.ext∧o'.rows.length≤o.rows.length∧(o.n=0→o'.rows=[]→o.rows=[]):=by
  intro i o' h
  obtain⟨h1,o,h2,rfl|h3⟩:=hH i o' h
  ·exact⟨h1,_,h2,rfl,rfl,Nat.le_refl _,fun _ h=>h⟩
  ·exact⟨h1,o,h2,h3.1,h3.2.1,h3.2.2.1,h3.2.2.2.1⟩
 refine⟨?_,?_⟩
 ·refine {named:= ?_,wf:= ?_,blk:= ?_,cells:= ?_,sep:= ?_,imm:= ?_,old:= ?_}
  ·intro id o' h
   obtain⟨_,o,h2,_⟩:=hO h
   exact .inl ⟨hN _ (hs.named _ o h2),hs.named _ o h2⟩
  ·intro id o' h
   obtain⟨_,o,h2,rfl|⟨h3,h4,h5,_,h6⟩⟩:=hH id o' h
   ·exact hs.wf _ _ h2
   ·obtain⟨k1,k2⟩:=hs.wf _ o h2
    refine⟨by omega,fun i r hr=> ?_⟩
    obtain⟨r0,h7,h8⟩:=h6 i r hr
    rw[h8.1,k2 i r0 h7,h3]
  ·intro id o' h he
   obtain⟨_,o,h2,h3,h4,h5,h7⟩:=hO h
   exact(hs.blk _ o h2 (by omega)).arW h3 h4 fun h0=>⟨h7 h0,fun hr=>by rw[hr] at h5;exact List.length_eq_zero_iff.1 (by simpa using h5)⟩
  ·intro id o' i j r d h h1 h2
   obtain⟨_,o,k2,rfl|⟨k3,k4,k5,_,k6⟩⟩:=hH id o' h
   ·obtain⟨u,k9,k10⟩:=hs.cells _ _ i j r d k2 h1 h2
    exact⟨u,k9,MR (fun b h=>.inl h) hN k10⟩
   ·obtain⟨r0,k7,k8⟩:=k6 i r h1
    have hj:j<r0.length:=by rw[←k8.1];exact(List.getElem?_eq_some_iff.1 h2).1
    obtain⟨u,k9,k10⟩:=hs.cells _ o i j r0 _ k2 k7 (List.getElem?_eq_getElem hj)
    refine⟨u,by rw[k3];exact k9,?_⟩
    exact PM hs (fun b h=>.inl h) (fun id o h1 h2 h3=>.inr ⟨id,o,h1,h2,h3,rfl⟩) (fun _ _=>rfl) (k8.2 j d _ h2 (List.getElem?_eq_getElem hj)) k10
  ·intro i j o o' hi hj he he' hne
   obtain⟨_,o1,k2,k3,k4,_⟩:=hO hi
   obtain⟨_,o2,k6,k7,k8,_⟩:=hO hj
   exact hs.sep i j o1 o2 k2 k6 (by omega) (by omega) hne
  ·intro i o' h he
   obtain⟨hnF,o,h2,h3,h4,_⟩:=hO h
   rintro(hI|⟨id2,o2,k1,k2,k3,k4⟩)
   ·exact hs.imm _ o h2 (by omega) hI
   ·have hne:id2≠i:=by rintro rfl;exact hnF k1
    exact hs.sep id2 i o2 o k2 h2 k3 (by omega) hne k4
  ·rintro b (hI|⟨id2,o2,k1,k2,k3,rfl⟩)
   ·exact hs.old b hI
   ·exact(hs.blk id2 o2 k2 k3).lt
 ·exact {
   ρ:=fun i hid=>hstep.ρ i hid
   N:=fun i hid=>.inl ⟨hN i (hstep.N i hid),hstep.N i hid⟩
   I:=fun b hb=>.inl (hstep.I b hb)
   I':=by
    rintro b (hI|⟨id2,o2,k1,k2,k3,rfl⟩)
    ·exact hstep.I' b hI
    ·exact .inr (hstep.own _ ⟨id2,o2,k2,k3,rfl⟩)
   size:=hstep.size
   os:=hstep.os
   tape:=hstep.tape
   output:=hstep.output
   frame:=hstep.frame
   own:=by
    rintro b ⟨id,o',h,he,hb⟩
    obtain⟨_,o,h2,h3,h4,_⟩:=hO h
    exact hstep.own b ⟨id,o,h2,by omega,hb⟩}
theorem aK {nx:Nat} {H:aA}:CvX noF nx H H:=fun _ o h=>⟨fun h=>h,o,h,.inl rfl⟩
theorem aM.gP {P:Program} {T:Nat} {e:Env} {H:aA} {nx:Nat} {Q:AQ} {x:AC} {zs:List AC} {β:Type} (E:β→Env) (Φ:β→aA→Nat→Prop) (μ:β→Nat) (b0:β) (h0: ∃F H1,CvE H F id nx (E b0) e∧CvX F nx H H1∧Φ b0 H1 nx)
 (h: ∀b H1 nx1,nx≤nx1→Φ b H1 nx1→∀K:Env→aA→Nat→Prop,(∀e' H' nx' b' F H2,nx1≤nx'→μ b'<μ b→CvE H' F id nx' (E b') e'→CvX F nx' H' H2→Φ b' H2 nx'→K e' H' nx')→aM P T [x] (E b) H1 nx1 (AQ.then K Q)):aM P T (.loop x::zs) e H nx Q:=by
 intro code hc c a hs he hN
 obtain⟨F0,H0,g1,g2,g3⟩:=h0
 have hc0: ∀{c1:Cf} {H1 H2:aA} {nx1:Nat} {F:Nat→Prop} {e1 e2:Env} {a:Act},St c1 H1→Step c H c1 H1→(∀i,c1.N i→i<nx1)→ER c1 T e1 a→CvE H1 F id nx1 e2 e1→CvX F nx1 H1 H2→
  ∃c2:Cf,c2.w=c1.w∧St c2 H2∧Step c H c2 H2∧ER c2 T e2 a∧ ∀i,c2.N i→c1.N i:=by
  intro c1 H1 H2 nx1 F e1 e2 a k1 k2 k3 k4 k5 k6
  obtain⟨q1,q2⟩:=YO k1 k2 k3 k6
  refine⟨c1.conv nx1 nx1 id (c1.frI H1 F),rfl,q1,q2,⟨k4.1,k4.2.1,fun t=>zD k1 (fun b h=>.inl h) (fun id o h1 h2 h3=>.inr ⟨id,o,h1,h2,h3,rfl⟩) (fun _ _=>rfl) (k5 t) (k4.2.2 t)⟩,fun i hi=> ?_⟩
  rcases hi with⟨_,hi⟩|⟨h1,h2,h3⟩
  ·exact hi
  ·omega
 cases hc with
 |loop h1=>
  obtain⟨c1,r1,r2,r3,r4,r5⟩:=hc0 hs (Step.refl c H) hN he g1 g2
  refine wp_loop_ghost (fun n a w=>∃b c1 H1 nx1,μ b=n∧c1.w=w∧St c1 H1∧ER c1 T (E b) a∧Step c H c1 H1∧(∀i,c1.N i→c.N i∨(nx≤i∧i<nx1))∧nx≤nx1∧Φ b H1 nx1) (μ b0) ⟨b0,c1,H0,nx,rfl,r1,r2,r4,r3,fun i hi=>.inl (r5 i hi),Nat.le_refl _,g3⟩ ?_
  rintro n a w ⟨b,c1,H1,nx1,rfl,rfl,j1,j2,j3,j4,j5,j6⟩
  refine wp_mono (h b H1 nx1 j5 j6 (fun e' H' nx'=>∃b' F H2,nx1≤nx'∧μ b'<μ b∧CvE H' F id nx' (E b') e'∧CvX F nx' H' H2∧Φ b' H2 nx') (fun _ _ _ b' F H2 h1 h2 h3 h4 h5=>⟨b',F,H2,h1,h2,h3,h4,h5⟩) _ h1 c1 a j1 j2 fun i hi=> ?_) fun ex a' w' ⟨aex,e',H',nx',c',hp⟩=> ?_
  ·rcases j4 i hi with h|h
   ·have:=hN i h;omega
   ·omega
  ·obtain⟨rfl,rfl,p1,p2,p3,p4,p5,p6⟩:=hp
   have hNc: ∀i,c'.N i→c.N i∨(nx≤i∧i<nx'):=by
    intro i hi
    rcases p4 i hi with h|h
    ·rcases j4 i h with h|h
     ·exact .inl h
     ·exact .inr ⟨h.1,by omega⟩
    ·exact .inr ⟨by omega,h.2⟩
   cases aex with
   |normal=>
    obtain⟨b',F,H2,q1,q2,q3,q4,q5⟩:=p6
    obtain⟨c2,s1,s2,s3,s4,s5⟩:=hc0 p1 (j3.trans p2) (fun i hi=>by rcases hNc i hi with h|h;have:=hN i h;omega;exact h.2) p3 q3 q4
    exact⟨μ b',q2,b',c2,H2,nx',rfl,s1,s2,s4,s3,fun i hi=>hNc i (s5 i hi),by omega,q5⟩
   |exit id=>exact⟨.exit id,e',H',nx',c',rfl,rfl,p1,j3.trans p2,p3,hNc,by omega,p6⟩
   |ret=>exact⟨.ret,e',H',nx',c',rfl,rfl,p1,j3.trans p2,p3,hNc,by omega,p6⟩
theorem aB.tW {P:Program} {f:FuncId} {args:List D} {H:aA} {nx:Nat} {K:D→aA→Nat→Prop}
 (h:aB P f args H nx fun r H' n'=>∃r2 H2 F,CvD H' F id n' r2 r∧CvX F n' H' H2∧K r2 H2 n'):aB P f args H nx K:=by
 refine⟨h.1,fun c vs hs hN hl hr=> ?_⟩
 refine(h.2 c vs hs hN hl hr).mono ?_
 rintro x w' ⟨v,c2,r,H2,n2,rfl,rfl,p1,p2,p3,p4,p5,r2,H3,F,q1,q2,q3⟩
 have hN2: ∀i,c2.N i→i<n2:=fun i hi=>by
  rcases p3 i hi with h|h
  ·have:=hN i h;omega
  ·exact h.2
 obtain⟨k1,k2⟩:=YO p1 p2 hN2 q2
 refine⟨v,c2.conv n2 n2 id (c2.frI H2 F),r2,H3,n2,rfl,rfl,k1,k2,fun i hi=> ?_,p4,zD p1 (fun b h=>.inl h) (fun id o h1 h2 h3=>.inr ⟨id,o,h1,h2,h3,rfl⟩) (fun _ _=>rfl) q1 p5,q3⟩
 rcases hi with⟨_,hi⟩|⟨h1,h2,h3⟩
 ·exact p3 i hi
 ·omega
section
variable {P : Program} {T : Nat} {e : Env} {H : aA} {nx : Nat} {Q : AQ}
theorem AWP.tW {x:AC} (e':Env) (H':aA) (F:Nat→Prop) (hE: ∀t,e' t=e t∨CvD H F id nx (e' t) (e t)) (hH:CvX F nx H H') (h:AWP P T x e' H' nx Q):AWP P T x e H nx Q:=by
 intro code hc c a hs he hN
 obtain⟨k1,k2⟩:=YO hs (Step.refl c H) hN hH
 refine wp_mono (h code hc (c.conv nx nx id (c.frI H F)) a k1 ⟨he.1,he.2.1,fun t=> ?_⟩ fun i hi=> ?_) ?_
 ·rcases hE t with h1|h1
  ·rw[h1]
   exact ac6 (fun b h=>.inl h) hN (he.2.2 t)
  ·exact zD hs (fun b h=>.inl h) (fun id o h1 h2 h3=>.inr ⟨id,o,h1,h2,h3,rfl⟩) (fun _ _=>rfl) h1 (he.2.2 t)
 ·rcases hi with⟨_,hi⟩|⟨h1,h2,h3⟩
  ·exact hN i hi
  ·omega
 ·rintro ex a w ⟨aex,e',H',nx',c',rfl,rfl,p1,p2,p3,p4,p5,p6⟩
  refine⟨aex,e',H',nx',c',rfl,rfl,p1,k2.trans p2,p3,fun i hi=> ?_,p5,p6⟩
  rcases p4 i hi with h|h
  ·rcases h with⟨_,hi⟩|⟨h1,h2,h3⟩
   ·exact .inl hi
   ·omega
  ·exact .inr h
theorem aM.tW {x:AC} {zs:List AC} (e':Env) (H':aA) (F:Nat→Prop) (hE: ∀t,e' t=e t∨CvD H F id nx (e' t) (e t)) (hH:CvX F nx H H') (h:aM P T (x::zs) e' H' nx Q):aM P T (x::zs) e H nx Q:=AWP.tW e' H' F hE hH h
theorem umS {b i:Nat} {l:List Nat} {H G:aA} {o:bA}:dT b l (H.set i o) G=if i∈l.map (b+ ·) then (dT b l H G).set i o else dT b l H G:=by
 split
 ·rename_i h
  funext j;simp only[dT,aA.set]
  by_cases hj:j=i
  ·subst hj;simp only[h,if_true]
  ·simp only[hj,if_false]
 ·rename_i h
  funext j;simp only[dT,aA.set]
  by_cases hj:j=i
  ·subst hj;simp only[h,if_false]
  ·simp only[hj,if_false]
theorem umB {b:Nat} {l:List Nat} {G:aA}:dT b l G G=G:=by
 funext j;simp only[dT];split<;>rfl
end
end Go.AM
end
