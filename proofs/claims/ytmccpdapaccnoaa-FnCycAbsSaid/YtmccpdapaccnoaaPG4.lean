/- Texts laid together by a program: rules, contracts and the walk that leads to the law. -/
import Derived.Test.YtmccpdapaccnoaaPG3
set_option linter.unusedVariables false
set_option linter.unusedSimpArgs false
set_option linter.unusedSectionVars false
section
namespace Go.Proofs.Ytmccpdapaccnoaa
open Go Go.AM
set_option maxRecDepth 100000
def bgK:AC:=
 (.seq (.region [rq 0 2 (.alloc [OZ,OZ,OZ,OZ,OZ])] 1 [0,2])
 (.seq (.region [RM 0 6 0,
 rq 1 7 (.call kN [(.tm 6)]),
 rq 2 8 (.call bgS [(.tm 7),(ki 9)]),
 RM 3 5 8,
 rq 4 9 (.ext (.tm 5) 0),
 rq 5 10 (.ext (.tm 5) 1),
 rq 6 3 (.alloc [OZ,OZ,OZ]),
 rq 7 4 (.alloc [OZ,OZ,OZ,OZ,OZ]),
 rn 8 (.store 3 true (.tm 3) (.tm 9)),
 rn 9 (.store 5 true (.tm 4) (.tm 10))] 10 [2,4])
 (.seq (.region [rq 0 11 (.load 5 true (.tm 4)),
 rn 1 (.store 5 true (.tm 2) (.tm 11))] 2 [2])
 .ret)))
def bh0:List Cert:=[⟨[],[0,2]⟩,⟨[],[2,4]⟩,⟨[],[2]⟩]
def bg3:List aW:=[.cell 2 5 true]
theorem bh1:aO Try.prog Try.f4 bh0=some (bgK,bg3):=by kernel_rfl
def bgP:AC:=
 (.seq (.region [rq 0 4 (.alloc [OZ,OZ,OZ]),
 rq 1 5 (.alloc [OZ,OZ,OZ,OZ,OZ])] 2 [0,1,4,5])
 (.seq (.region [RM 0 10 0,
 rq 1 11 (.call bhC [(.tm 10)]),
 RM 2 9 11,
 rq 3 12 (.ext (.tm 9) 0),
 rq 4 13 (.ext (.tm 9) 1),
 rq 5 6 (.alloc [OZ,OZ,OZ]),
 rq 6 7 (.alloc [OZ,OZ,OZ,OZ,OZ]),
 rn 7 (.store 3 true (.tm 6) (.tm 12)),
 rn 8 (.store 5 true (.tm 7) (.tm 13))] 9 [0,1,4,5,6,7])
 (.seq (.seq (.region [RM 0 14 0,
 RM 1 15 1,
 rq 2 16 (.call kE [(.tm 14),(.tm 15)])] 3 [0,4,5,6,7,16])
 (.cond (.tm 16)
 (.seq (.region [RM 0 17 0,
 rq 1 18 (.call aD [(.tm 17),(ki 3)]),
 RM 2 8 18] 3 [0,4,5,6,7,8])
 (.seq (.region [RM 0 19 0,
 rq 1 20 (.call aD [(.tm 19),(ki 11)])] 2 [0,4,5,6,7,8,20])
 (.block 0
 (.seq (.region [rq 0 24 (.bin .eql (.tm 20) (ki 0)),
 RM 1 23 24] 2 [0,4,5,6,7,8,20,23])
 (.cond (.tm 23)
 (.region [RM 0 25 0,
 rq 1 26 (.call aVK [(.tm 25),(ki 2)]),
 RF 2 27 0 7,
 rn 3 (.store 2 true (.tm 27) (.tm 26))] 4 [4,5,6,7])
 (.seq (.region [rq 0 29 (.bin .eql (.tm 20) (ki 1)),
 RM 1 28 29] 2 [0,4,5,6,7,8,20,28])
 (.cond (.tm 28)
 (.region [RF 0 30 2 7,
 ⟨1,(some 31),.load 1 false (.tm 30),none,[],[],true⟩,
 RM 2 32 8,
 RF 3 33 2 7,
 ⟨4,(some 34),.load 1 false (.tm 33),none,[],[],true⟩,
 RM 5 35 8,
 rq 6 36 (.idx 4 (.tm 34) (.tm 35)),
 RF 7 37 0 36,
 ⟨8,(some 38),.load 1 false (.tm 37),none,[],[],true⟩,
 RM 9 39 0,
 ⟨10,(some 40),.call aD [(.tm 39),(ki 3)],none,[],[1,4,8],false⟩,
 rq 11 41 (.bin .add (.tm 38) (.tm 40)),
 rq 12 42 (.bin .sub (.tm 41) (ki 1)),
 rq 13 43 (.idx 4 (.tm 31) (.tm 32)),
 RF 14 44 0 43,
 rn 15 (.store 1 false (.tm 44) (.tm 42))] 16 [4,5,6,7])
 (.seq (.region [rq 0 46 (.bin .eql (.tm 20) (ki 2)),
 RM 1 45 46] 2 [0,4,5,6,7,8,20,45])
 (.cond (.tm 45)
 (.region [RF 0 47 2 7,
 ⟨1,(some 48),.load 1 false (.tm 47),none,[11],[],true⟩,
 RM 2 49 8,
 RF 3 50 2 7,
 ⟨4,(some 51),.load 1 false (.tm 50),none,[11],[],true⟩,
 RM 5 52 8,
 rq 6 53 (.idx 4 (.tm 51) (.tm 52)),
 RF 7 54 1 53,
 ⟨8,(some 55),.load 1 false (.tm 54),none,[11],[],true⟩,
 RM 9 56 0,
 ⟨10,(some 57),.call aD [(.tm 56),(ki 4)],none,[],[1,4,8],false⟩,
 rq 11 58 (.bC 1 1 [VZ] [(0,1,(.tm 57))]),
 ⟨12,(some 59),.append 1 (.tm 55) (.tm 58),none,[],[1],false⟩,
 rq 13 60 (.idx 4 (.tm 48) (.tm 49)),
 RF 14 61 1 60,
 rn 15 (.store 1 false (.tm 61) (.tm 59))] 16 [4,5,6,7])
 (.seq (.region [rq 0 63 (.bin .eql (.tm 20) (ki 3)),
 RM 1 62 63] 2 [0,4,5,6,7,8,20,62])
 (.cond (.tm 62)
 (.region [RF 0 64 2 7,
 ⟨1,(some 65),.load 1 false (.tm 64),none,[15],[],true⟩,
 RM 2 66 8,
 RF 3 67 2 7,
 ⟨4,(some 68),.load 1 false (.tm 67),none,[15],[],true⟩,
 RM 5 69 8,
 rq 6 70 (.idx 4 (.tm 68) (.tm 69)),
 RF 7 71 2 70,
 ⟨8,(some 72),.load 1 false (.tm 71),none,[15],[],true⟩,
 RM 9 73 8,
 RM 10 74 0,
 RM 12 76 0,
 ⟨11,(some 75),.call aD [(.tm 74),(ki 4)],none,[],[1,4,8],false⟩,
 ⟨13,(some 77),.call aD [(.tm 76),(ki 4)],none,[],[1,4,8],false⟩,
 rq 14 78 (.build [VZ,VZ,VZ] [(0,1,(.tm 73)),(1,1,(.tm 75)),(2,1,(.tm 77))]),
 rq 15 79 (.bC 3 1 [VZ,VZ,VZ] [(0,3,(.tm 78))]),
 ⟨16,(some 80),.append 3 (.tm 72) (.tm 79),none,[],[1],false⟩,
 rq 17 81 (.idx 4 (.tm 65) (.tm 66)),
 RF 18 82 2 81,
 rn 19 (.store 1 false (.tm 82) (.tm 80))] 20 [4,5,6,7])
 (.seq (.region [rq 0 84 (.bin .eql (.tm 20) (ki 4)),
 RM 1 83 84] 2 [0,4,5,6,7,8,20,83])
 (.cond (.tm 83)
 (.region [RF 0 85 2 7,
 ⟨1,(some 86),.load 1 false (.tm 85),none,[3],[],true⟩,
 RM 2 87 8,
 rq 3 88 (.bC 1 3 [VZ] [(0,1,(.kv (.int .i64 (-1)))),(1,1,(ki 4)),(2,1,(ki 2))]),
 RM 4 89 0,
 ⟨5,(some 90),.call aD [(.tm 89),(ki 3)],none,[3],[1],false⟩,
 rq 6 91 (.idx 1 (.tm 88) (.tm 90)),
 RL 7 92 91,
 rq 8 93 (.idx 4 (.tm 86) (.tm 87)),
 RF 9 94 3 93,
 rn 10 (.store 1 false (.tm 94) (.tm 92))] 11 [4,5,6,7])
 (.seq (.region [rq 0 96 (.bin .eql (.tm 20) (ki 5)),
 RM 1 95 96] 2 [0,4,5,6,7,8,20,95])
 (.cond (.tm 95)
 (.region [RF 0 97 3 7,
 ⟨1,(some 98),.load 1 false (.tm 97),none,[3],[],true⟩,
 RM 2 99 8,
 rq 3 100 (.bC 1 3 [VZ] [(0,1,(.kv (.int .i64 (-1)))),(1,1,(ki 3)),(2,1,(ki 1))]),
 RM 4 101 0,
 ⟨5,(some 102),.call aD [(.tm 101),(ki 3)],none,[3],[1],false⟩,
 rq 6 103 (.idx 1 (.tm 100) (.tm 102)),
 RL 7 104 103,
 rq 8 105 (.idx 3 (.tm 98) (.tm 99)),
 RF 9 106 2 105,
 rn 10 (.store 1 false (.tm 106) (.tm 104))] 11 [4,5,6,7])
 (.seq (.region [rq 0 108 (.bin .eql (.tm 20) (ki 6)),
 RM 1 107 108] 2 [0,4,5,6,7,8,20,107])
 (.cond (.tm 107)
 (.region [RF 0 109 3 7,
 ⟨1,(some 110),.load 1 false (.tm 109),none,[17],[],true⟩,
 RM 2 111 8,
 RF 3 112 3 7,
 ⟨4,(some 113),.load 1 false (.tm 112),none,[17],[],true⟩,
 RM 5 114 8,
 rq 6 115 (.idx 3 (.tm 113) (.tm 114)),
 RF 7 116 0 115,
 ⟨8,(some 117),.load 1 false (.tm 116),none,[17],[],true⟩,
 RM 9 118 0,
 RM 12 121 0,
 RM 14 123 0,
 ⟨10,(some 119),.call aD [(.tm 118),(ki 4)],none,[],[1,4,8],false⟩,
 rq 11 120 (.bin .sub (.tm 119) (ki 1)),
 ⟨13,(some 122),.call aD [(.tm 121),(ki 4)],none,[],[1,4,8],false⟩,
 ⟨15,(some 124),.call aD [(.tm 123),(ki 3)],none,[],[1,4,8],false⟩,
 rq 16 125 (.build [VZ,VZ,VZ] [(0,1,(.tm 120)),(1,1,(.tm 122)),(2,1,(.tm 124))]),
 rq 17 126 (.bC 3 1 [VZ,VZ,VZ] [(0,3,(.tm 125))]),
 ⟨18,(some 127),.append 3 (.tm 117) (.tm 126),none,[],[1],false⟩,
 rq 19 128 (.idx 3 (.tm 110) (.tm 111)),
 RF 20 129 0 128,
 rn 21 (.store 1 false (.tm 129) (.tm 127))] 22 [4,5,6,7])
 (.seq (.region [rq 0 131 (.bin .eql (.tm 20) (ki 7)),
 RM 1 130 131] 2 [0,4,5,6,7,8,20,130])
 (.cond (.tm 130)
 (.region [RF 0 132 3 7,
 ⟨1,(some 133),.load 1 false (.tm 132),none,[17],[],true⟩,
 RM 2 134 8,
 RF 3 135 3 7,
 ⟨4,(some 136),.load 1 false (.tm 135),none,[17],[],true⟩,
 RM 5 137 8,
 rq 6 138 (.idx 3 (.tm 136) (.tm 137)),
 RF 7 139 1 138,
 ⟨8,(some 140),.load 1 false (.tm 139),none,[17],[],true⟩,
 RM 9 141 0,
 RM 12 144 0,
 RM 14 146 0,
 ⟨10,(some 142),.call aD [(.tm 141),(ki 4)],none,[],[1,4,8],false⟩,
 rq 11 143 (.bin .sub (.tm 142) (ki 1)),
 ⟨13,(some 145),.call aD [(.tm 144),(ki 4)],none,[],[1,4,8],false⟩,
 ⟨15,(some 147),.call aVA [(.tm 146),(ki 2)],none,[],[1,4,8],false⟩,
 rq 16 148 (.build [VZ,VZ,VZ,VZ,OZ] [(0,1,(.tm 143)),(1,1,(.tm 145)),(2,3,(.tm 147))]),
 rq 17 149 (.bC 5 1 [VZ,VZ,VZ,VZ,OZ] [(0,5,(.tm 148))]),
 ⟨18,(some 150),.append 5 (.tm 140) (.tm 149),none,[],[1],false⟩,
 rq 19 151 (.idx 3 (.tm 133) (.tm 134)),
 RF 20 152 1 151,
 rn 21 (.store 1 false (.tm 152) (.tm 150))] 22 [4,5,6,7])
 (.seq (.region [rq 0 154 (.bin .eql (.tm 20) (ki 8)),
 RM 1 153 154] 2 [0,4,5,6,7,20,153])
 (.cond (.tm 153)
 (.region [RF 0 155 4 7,
 ⟨1,(some 156),.load 1 false (.tm 155),none,[10],[],true⟩,
 RM 2 157 0,
 RM 5 160 0,
 RM 7 162 0,
 ⟨3,(some 158),.call aD [(.tm 157),(ki 4)],none,[],[1],false⟩,
 rq 4 159 (.bin .sub (.tm 158) (ki 1)),
 ⟨6,(some 161),.call aD [(.tm 160),(ki 4)],none,[],[1],false⟩,
 ⟨8,(some 163),.call aVA [(.tm 162),(ki 3)],none,[],[1],false⟩,
 rq 9 164 (.build [VZ,VZ,VZ,VZ,OZ] [(0,1,(.tm 159)),(1,1,(.tm 161)),(2,3,(.tm 163))]),
 rq 10 165 (.bC 5 1 [VZ,VZ,VZ,VZ,OZ] [(0,5,(.tm 164))]),
 rq 11 166 (.append 5 (.tm 156) (.tm 165)),
 RF 12 167 4 7,
 rn 13 (.store 1 false (.tm 167) (.tm 166))] 14 [4,5,6,7])
 (.seq (.region [rq 0 169 (.bin .eql (.tm 20) (ki 9)),
 RM 1 168 169] 2 [0,4,5,6,7,168])
 (.cond (.tm 168)
 (.region [RF 0 170 3 7,
 RL 1 171 170,
 rq 2 172 (.slc 3 (.tm 171) (some (ki 1)) none none),
 RF 3 173 3 7,
 rn 4 (.store 1 false (.tm 173) (.tm 172))] 5 [4,5,6,7])
 (.region [RM 0 21 0,
 rq 1 22 (.call aNJ [(.tm 21),(ki 1)]),
 rn 2 (.store 3 true (.tm 6) (.tm 22))] 3 [4,5,6,7]))))))))))))))))))))))))
 .skip))
 (.seq (.region [rq 0 174 (.load 3 true (.tm 6)),
 ⟨1,(some 175),.load 5 true (.tm 7),none,[],[],true⟩,
 ⟨2,none,.store 3 true (.tm 4) (.tm 174),none,[],[1],false⟩,
 rn 3 (.store 5 true (.tm 5) (.tm 175))] 4 [4,5])
 .ret))))
def biA:List Cert:=[⟨[],[0,1,4,5]⟩,⟨[],[0,1,4,5,6,7]⟩,⟨[],[0,4,5,6,7,16]⟩,⟨[],[0,4,5,6,7,8]⟩,⟨[],[0,4,5,6,7,8,20]⟩,⟨[],[0,4,5,6,7,8,20,23]⟩,⟨[],[4,5,6,7]⟩,⟨[],[0,4,5,6,7,8,20,28]⟩,⟨[cz 0,(1,[],[],true),cz 2,cz 3,(4,[],[],true),cz 5,cz 6,cz 7,(8,[],[],true),cz 9,(10,[],[1,4,8],false),cz 11,cz 12,cz 13,cz 14,cz 15],[4,5,6,7]⟩,⟨[],[0,4,5,6,7,8,20,45]⟩,⟨[cz 0,(1,[11],[],true),cz 2,cz 3,(4,[11],[],true),cz 5,cz 6,cz 7,(8,[11],[],true),cz 9,(10,[],[1,4,8],false),cz 11,(12,[],[1],false),cz 13,cz 14,cz 15],[4,5,6,7]⟩,⟨[],[0,4,5,6,7,8,20,62]⟩,⟨[cz 0,(1,[15],[],true),cz 2,cz 3,(4,[15],[],true),cz 5,cz 6,cz 7,(8,[15],[],true),cz 9,cz 10,cz 12,(11,[],[1,4,8],false),(13,[],[1,4,8],false),cz 14,cz 15,(16,[],[1],false),cz 17,cz 18,cz 19],[4,5,6,7]⟩,⟨[],[0,4,5,6,7,8,20,83]⟩,⟨[cz 0,(1,[3],[],true),cz 2,cz 3,cz 4,(5,[3],[1],false),cz 6,cz 7,cz 8,cz 9,cz 10],[4,5,6,7]⟩,⟨[],[0,4,5,6,7,8,20,95]⟩,⟨[cz 0,(1,[3],[],true),cz 2,cz 3,cz 4,(5,[3],[1],false),cz 6,cz 7,cz 8,cz 9,cz 10],[4,5,6,7]⟩,⟨[],[0,4,5,6,7,8,20,107]⟩,⟨[cz 0,(1,[17],[],true),cz 2,cz 3,(4,[17],[],true),cz 5,cz 6,cz 7,(8,[17],[],true),cz 9,cz 12,cz 14,(10,[],[1,4,8],false),cz 11,(13,[],[1,4,8],false),(15,[],[1,4,8],false),cz 16,cz 17,(18,[],[1],false),cz 19,cz 20,cz 21],[4,5,6,7]⟩,⟨[],[0,4,5,6,7,8,20,130]⟩,⟨[cz 0,(1,[17],[],true),cz 2,cz 3,(4,[17],[],true),cz 5,cz 6,cz 7,(8,[17],[],true),cz 9,cz 12,cz 14,(10,[],[1,4,8],false),cz 11,(13,[],[1,4,8],false),(15,[],[1,4,8],false),cz 16,cz 17,(18,[],[1],false),cz 19,cz 20,cz 21],[4,5,6,7]⟩,⟨[],[0,4,5,6,7,20,153]⟩,⟨[cz 0,(1,[10],[],true),cz 2,cz 5,cz 7,(3,[],[1],false),cz 4,(6,[],[1],false),(8,[],[1],false),cz 9,cz 10,cz 11,cz 12,cz 13],[4,5,6,7]⟩,⟨[],[0,4,5,6,7,168]⟩,⟨[],[4,5,6,7]⟩,⟨[],[4,5,6,7]⟩,⟨[cz 0,(1,[],[],true),(2,[],[1],false),cz 3],[4,5]⟩]
def bhE:List aW:=[.cell 4 3 true,.cell 5 5 true]
theorem bh8:aO Try.prog Try.f10 biA=some (bgP,bhE):=by kernel_rfl
end Go.Proofs.Ytmccpdapaccnoaa
end
section
namespace Go.Proofs.Ytmccpdapaccnoaa
open Go Go.AM
set_option maxRecDepth 100000
def yD:AC:=
 (.seq (.region [rq 0 4 (.move (.kv (.slice none 0 0)))] 1 [0,1])
 (.seq (.region [rq 0 8 (.bC 3 0 [OZ,OZ,OZ] []),
 RM 1 5 8] 2 [0,1,5])
 (.seq (.region [rq 0 9 (.bC 1 4 [VZ] [(0,1,(ki 2)),(1,1,(ki 3)),(2,1,(ki 5)),(3,1,(ki 20))]),
 RM 1 10 0,
 rq 2 11 (.call aD [(.tm 10),(ki 4)]),
 rq 3 12 (.idx 1 (.tm 9) (.tm 11)),
 RL 4 13 12,
 RM 5 6 13] 6 [0,1,5,6])
 (.seq (.seq (.region [RM 0 14 0,
 RM 1 15 1,
 rq 2 16 (.call aD [(.tm 14),(.tm 15)]),
 RM 3 7 16] 4 [0,5,6,7])
 (.block 0
 (.loop
 (.seq (.seq (.region [RM 0 17 7,
 rq 1 18 (.bin .gtr (.tm 17) (ki 0))] 2 [0,5,6,7,18])
 (.cond (.tm 18)
 .skip
 (.exit 0)))
 (.seq (.block 1
 (.region [RM 0 21 5,
 RM 1 22 0,
 RM 2 23 6,
 rq 3 24 (.call B9 [(.tm 22),(.tm 23)]),
 rq 4 25 (.bC 3 1 [OZ,OZ,OZ] [(0,3,(.tm 24))]),
 rq 5 26 (.append 3 (.tm 21) (.tm 25)),
 RM 6 5 26] 7 [0,5,6,7]))
 (.region [RM 0 19 7,
 rq 1 20 (.bin .sub (.tm 19) (ki 1)),
 RM 2 7 20] 3 [0,5,6,7]))))))
 (.seq (.region [RM 0 27 5,
 RM 1 4 27] 2 [4])
 .ret)))))
def R9:List Cert:=[⟨[],[0,1]⟩,⟨[],[0,1,5]⟩,⟨[],[0,1,5,6]⟩,⟨[],[0,5,6,7]⟩,⟨[],[0,5,6,7,18]⟩,⟨[],[0,5,6,7]⟩,⟨[],[0,5,6,7]⟩,⟨[],[4]⟩]
def FE:List aW:=[.tm 4]
theorem R1:aO Try.prog Try.f41 R9=some (yD,FE):=by kernel_rfl
def z9:AC:=
 (.seq (.region [rq 0 4 (.alloc [OZ,OZ,OZ])] 1 [0,1,4])
 (.seq (.region [rq 0 8 (.call CS []),
 rq 1 5 (.alloc [OZ,OZ,OZ]),
 rn 2 (.store 3 true (.tm 5) (.tm 8))] 3 [0,1,4,5])
 (.seq (.seq (.region [rq 0 6 (.move (ki 0))] 1 [0,1,4,5,6])
 (.block 0
 (.loop
 (.seq (.seq (.region [RM 0 9 6,
 rq 1 10 (.bin .lss (.tm 9) (ki 3))] 2 [0,1,4,5,6,10])
 (.cond (.tm 10)
 .skip
 (.exit 0)))
 (.seq (.block 1
 (.seq (.region [RF 0 13 0 5,
 ⟨1,(some 14),.load 1 false (.tm 13),none,[],[],true⟩,
 RM 2 15 6,
 RM 3 16 0,
 RM 4 17 1,
 ⟨5,(some 18),.call aD [(.tm 16),(.tm 17)],none,[],[1],false⟩,
 rq 6 19 (.bin .gtr (.tm 18) (ki 0)),
 rq 7 20 (.idx 1 (.tm 14) (.tm 15)),
 rn 8 (.store 1 false (.tm 20) (.tm 19))] 9 [0,1,4,5,6])
 (.region [RF 0 21 2 5,
 ⟨1,(some 22),.load 1 false (.tm 21),none,[],[],true⟩,
 RM 2 23 6,
 RM 3 24 0,
 RM 4 25 1,
 ⟨5,(some 26),.call aD [(.tm 24),(.tm 25)],none,[],[1],false⟩,
 rq 6 27 (.bin .gtr (.tm 26) (ki 0)),
 rq 7 28 (.idx 1 (.tm 22) (.tm 23)),
 rn 8 (.store 1 false (.tm 28) (.tm 27))] 9 [0,1,4,5,6])))
 (.region [RM 0 11 6,
 rq 1 12 (.bin .add (.tm 11) (ki 1)),
 RM 2 6 12] 3 [0,1,4,5,6]))))))
 (.seq (.seq (.region [rq 0 7 (.move (ki 0))] 1 [0,1,4,5,7])
 (.block 2
 (.loop
 (.seq (.seq (.region [RM 0 29 7,
 rq 1 30 (.bin .leq (.tm 29) (ki 3))] 2 [0,1,4,5,7,30])
 (.cond (.tm 30)
 .skip
 (.exit 2)))
 (.seq (.block 3
 (.region [RF 0 33 1 5,
 ⟨1,(some 34),.load 1 false (.tm 33),none,[],[],true⟩,
 RM 2 35 7,
 RM 3 36 0,
 RM 4 37 1,
 ⟨5,(some 38),.call aD [(.tm 36),(.tm 37)],none,[],[1],false⟩,
 rq 6 39 (.bin .eql (.tm 38) (ki 0)),
 rq 7 40 (.idx 1 (.tm 34) (.tm 35)),
 rn 8 (.store 1 false (.tm 40) (.tm 39))] 9 [0,1,4,5,7]))
 (.region [RM 0 31 7,
 rq 1 32 (.bin .add (.tm 31) (ki 1)),
 RM 2 7 32] 3 [0,1,4,5,7]))))))
 (.seq (.region [rq 0 41 (.load 3 true (.tm 5)),
 rn 1 (.store 3 true (.tm 4) (.tm 41))] 2 [4])
 .ret)))))
def VG:List Cert:=[⟨[],[0,1,4]⟩,⟨[],[0,1,4,5]⟩,⟨[],[0,1,4,5,6]⟩,⟨[],[0,1,4,5,6,10]⟩,⟨[cz 0,(1,[],[],true),cz 2,cz 3,cz 4,(5,[],[1],false),cz 6,cz 7,cz 8],[0,1,4,5,6]⟩,⟨[cz 0,(1,[],[],true),cz 2,cz 3,cz 4,(5,[],[1],false),cz 6,cz 7,cz 8],[0,1,4,5,6]⟩,⟨[],[0,1,4,5,6]⟩,⟨[],[0,1,4,5,7]⟩,⟨[],[0,1,4,5,7,30]⟩,⟨[cz 0,(1,[],[],true),cz 2,cz 3,cz 4,(5,[],[1],false),cz 6,cz 7,cz 8],[0,1,4,5,7]⟩,⟨[],[0,1,4,5,7]⟩,⟨[],[4]⟩]
def I6:List aW:=[.cell 4 3 true]
theorem U3:aO Try.prog Try.f54 VG=some (z9,I6):=by kernel_rfl
def zW:AC:=
 (.seq (.region [rq 0 0 (.alloc [OZ,OZ,OZ])] 1 [0])
 (.seq (.region [rq 0 1 (.bC 1 3 [(.v (.bool false))] [(0,1,(.kv (.bool true))),(1,1,(.kv (.bool true))),(2,1,(.kv (.bool true)))]),
 rq 1 2 (.bC 1 4 [(.v (.bool false))] [(0,1,(.kv (.bool false))),(1,1,(.kv (.bool false))),(2,1,(.kv (.bool false))),(3,1,(.kv (.bool false)))]),
 rq 2 3 (.bC 1 3 [(.v (.bool false))] [(0,1,(.kv (.bool true))),(1,1,(.kv (.bool true))),(2,1,(.kv (.bool true)))]),
 rq 3 4 (.build [OZ,OZ,OZ] [(0,1,(.tm 1)),(1,1,(.tm 2)),(2,1,(.tm 3))]),
 rn 4 (.store 3 true (.tm 0) (.tm 4))] 5 [0])
 .ret))
def TO:List Cert:=[⟨[],[0]⟩,⟨[],[0]⟩]
def IZ:List aW:=[.cell 0 3 true]
theorem UW:aO Try.prog Try.f64 TO=some (zW,IZ):=by kernel_rfl
end Go.Proofs.Ytmccpdapaccnoaa
end
section
namespace Go.Proofs.Ytmccpdapaccnoaa
open Go Go.AM
set_option maxRecDepth 100000
def CP:AC:=
 (.seq (.region [rq 0 0 (.move (.kv (.bool false)))] 1 [])
 (.seq (.region [rq 0 1 (.call nI [(ki 5),(ki 1),(.kv (.bool false))]),
 RM 1 0 1] 2 [0])
 .ret))
def XP:List Cert:=[⟨[],[]⟩,⟨[],[0]⟩]
def LO:List aW:=[.tm 0]
theorem WZ:aO Try.prog Try.f9 XP=some (CP,LO):=by kernel_rfl
theorem XX:aN Try.prog E2 Try.f9 CP LO:=
 aN.mk Try.func9 (by kernel_rfl) WZ
def oT:AC:=
 (.seq (.region [rq 0 2 (.move (.kv (.pointer none)))] 1 [0])
 (.seq (.seq (.region [RM 0 3 0,
 rq 1 4 (.len false (.tm 3)),
 rq 2 5 (.bin .gtr (.tm 4) (ki 2000))] 3 [0,5])
 (.cond (.tm 5)
 (.region [RM 0 6 0,
 rq 1 7 (.slc 1 (.tm 6) none (some (ki 2000)) none),
 RM 2 0 7] 3 [0])
 .skip))
 (.seq (.region [RM 0 8 0,
 rq 1 9 (.build [OZ,VZ] [(0,1,(.tm 8))]),
 rq 2 10 (.box true (.tm 9)),
 RM 3 2 10] 4 [2])
 .ret)))
def N1:List Cert:=[⟨[],[0]⟩,⟨[],[0,5]⟩,⟨[],[0]⟩,⟨[],[2]⟩]
def DN:List aW:=[.tm 2]
theorem OT:aO Try.prog Try.f11 N1=some (oT,DN):=by kernel_rfl
theorem DY:aN Try.prog kN Try.f11 oT DN:=
 aN.mk Try.func11 (by kernel_rfl) OT
def nP:AC:=
 (.seq (.region [rq 0 2 (.box true (.tm 0)),
 rq 1 3 (.box true (.tm 1)),
 rq 2 4 (.move (ki 0))] 3 [2,3])
 (.seq (.region [RF 0 5 0 2,
 RL 1 6 5,
 RF 2 7 0 3,
 RL 3 8 7,
 RF 5 10 1 2,
 ⟨6,(some 11),.load 1 false (.tm 10),none,[10],[],true⟩,
 RF 7 12 1 3,
 ⟨8,(some 13),.load 1 false (.tm 12),none,[10],[],true⟩,
 ⟨4,(some 9),.call jC [(.tm 6),(.tm 8)],none,[],[6,8],false⟩,
 rq 9 14 (.call jC [(.tm 11),(.tm 13)]),
 rq 10 15 (.bC 1 2 [VZ] [(0,1,(.tm 9)),(1,1,(.tm 14))]),
 rq 11 16 (.call wC [(.tm 15)]),
 RM 12 4 16] 13 [4])
 .ret))
def HO:List Cert:=[⟨[],[2,3]⟩,⟨[cz 0,cz 1,cz 2,cz 3,cz 5,(6,[10],[],true),cz 7,(8,[10],[],true),(4,[],[6,8],false),cz 9,cz 10,cz 11,cz 12],[4]⟩]
def vV:List aW:=[.tm 4]
theorem HE:aO Try.prog Try.f13 HO=some (nP,vV):=by kernel_rfl
theorem HI:aN Try.prog bJ Try.f13 nP vV:=
 aN.mk Try.func13 (by kernel_rfl) HE
def kD:AC:=
 (.seq (.region [rq 0 1 (.box true (.tm 0)),
 rq 1 2 (.alloc [OZ,OZ,OZ,OZ,OZ,OZ])] 2 [1,2])
 (.seq (.region [RF 0 3 0 1,
 rq 1 4 (.load 2 true (.tm 3)),
 RF 3 6 2 1,
 ⟨4,(some 7),.load 1 false (.tm 6),none,[],[],true⟩,
 RF 6 9 3 1,
 ⟨7,(some 10),.load 1 false (.tm 9),none,[],[],true⟩,
 RF 9 12 4 1,
 ⟨10,(some 13),.load 1 false (.tm 12),none,[],[],true⟩,
 RF 12 15 5 1,
 ⟨13,(some 16),.load 1 false (.tm 15),none,[],[],true⟩,
 ⟨2,(some 5),.call fL [(.tm 4)],none,[],[4,7,10,13],false⟩,
 ⟨5,(some 8),.call eX [(.tm 7)],none,[],[7,10,13],false⟩,
 ⟨8,(some 11),.call eO [(.tm 10)],none,[],[10,13],false⟩,
 ⟨11,(some 14),.call eO [(.tm 13)],none,[],[13],false⟩,
 rq 14 17 (.call eO [(.tm 16)]),
 rq 15 18 (.build [OZ,OZ,OZ,OZ,OZ,OZ] [(0,2,(.tm 5)),(2,1,(.tm 8)),(3,1,(.tm 11)),(4,1,(.tm 14)),(5,1,(.tm 17))]),
 rn 16 (.store 6 true (.tm 2) (.tm 18))] 17 [2])
 .ret))
def BO:List Cert:=[⟨[],[1,2]⟩,⟨[cz 0,cz 1,cz 3,(4,[],[],true),cz 6,(7,[],[],true),cz 9,(10,[],[],true),cz 12,(13,[],[],true),(2,[],[4,7,10,13],false),(5,[],[7,10,13],false),(8,[],[10,13],false),(11,[],[13],false),cz 14,cz 15,cz 16],[2]⟩]
def pT:List aW:=[.cell 2 6 true]
theorem A3:aO Try.prog Try.f14 BO=some (kD,pT):=by kernel_rfl
theorem AY:aN Try.prog iG Try.f14 kD pT:=
 aN.mk Try.func14 (by kernel_rfl) A3
def aJH:AC:=
 (.seq (.region [rq 0 1 (.box true (.tm 0)),
 rq 1 2 (.alloc [OZ,OZ])] 2 [1,2])
 (.seq (.region [RF 0 3 0 1,
 ⟨1,(some 4),.load 1 true (.tm 3),none,[3],[],false⟩,
 rq 3 6 (.bC 1 0 [VZ] []),
 RF 4 7 1 1,
 ⟨5,(some 8),.load 1 false (.tm 7),none,[3],[],true⟩,
 ⟨2,(some 5),.call aIW [(.tm 4)],none,[3],[5],false⟩,
 rq 6 9 (.append 1 (.tm 6) (.tm 8)),
 rq 7 10 (.build [OZ,OZ] [(0,1,(.tm 5)),(1,1,(.tm 9))]),
 rn 8 (.store 2 true (.tm 2) (.tm 10))] 9 [2])
 .ret))
def aKX:List Cert:=[⟨[],[1,2]⟩,⟨[cz 0,(1,[3],[],false),cz 3,cz 4,(5,[3],[],true),(2,[3],[5],false),cz 6,cz 7,cz 8],[2]⟩]
def aJ4:List aW:=[.cell 2 2 true]
theorem aLG:aO Try.prog Try.f17 aKX=some (aJH,aJ4):=by kernel_rfl
theorem aKW:aN Try.prog aIR Try.f17 aJH aJ4:=
 aN.mk Try.func17 (by kernel_rfl) aLG
def aJF:AC:=
 (.seq (.region [rq 0 2 (.move (.kv (.slice none 0 0)))] 1 [0])
 (.seq (.region [rq 0 5 (.bC 5 0 [VZ,VZ,VZ,VZ,OZ] []),
 RM 1 3 5] 2 [0,3])
 (.seq (.seq (.region [rq 0 4 (.move (ki 0))] 1 [0,3,4])
 (.block 0
 (.loop
 (.seq (.seq (.region [RM 0 6 4,
 RM 1 7 0,
 rq 2 8 (.len false (.tm 7)),
 rq 3 9 (.bin .lss (.tm 6) (.tm 8))] 4 [0,3,4,9])
 (.cond (.tm 9)
 .skip
 (.exit 0)))
 (.seq (.block 1
 (.region [RM 0 12 3,
 RM 1 13 0,
 RM 2 14 4,
 rq 3 15 (.idx 5 (.tm 13) (.tm 14)),
 RF 4 16 0 15,
 ⟨5,(some 17),.load 1 false (.tm 16),none,[18],[],true⟩,
 RM 6 18 0,
 RM 7 19 4,
 rq 8 20 (.idx 5 (.tm 18) (.tm 19)),
 RF 9 21 1 20,
 ⟨10,(some 22),.load 1 false (.tm 21),none,[18],[],true⟩,
 RM 11 23 0,
 RM 12 24 4,
 rq 13 25 (.idx 5 (.tm 23) (.tm 24)),
 RF 14 26 2 25,
 rq 15 27 (.load 3 true (.tm 26)),
 ⟨16,(some 28),.call aI8 [(.tm 27)],none,[],[5,10],false⟩,
 rq 17 29 (.build [VZ,VZ,VZ,VZ,OZ] [(0,1,(.tm 17)),(1,1,(.tm 22)),(2,3,(.tm 28))]),
 rq 18 30 (.bC 5 1 [VZ,VZ,VZ,VZ,OZ] [(0,5,(.tm 29))]),
 rq 19 31 (.append 5 (.tm 12) (.tm 30)),
 RM 20 3 31] 21 [0,3,4]))
 (.region [RM 0 10 4,
 rq 1 11 (.bin .add (.tm 10) (ki 1)),
 RM 2 4 11] 3 [0,3,4]))))))
 (.seq (.region [RM 0 32 3,
 RM 1 2 32] 2 [2])
 .ret))))
def aLB:List Cert:=[⟨[],[0]⟩,⟨[],[0,3]⟩,⟨[],[0,3,4]⟩,⟨[],[0,3,4,9]⟩,⟨[cz 0,cz 1,cz 2,cz 3,cz 4,(5,[18],[],true),cz 6,cz 7,cz 8,cz 9,(10,[18],[],true),cz 11,cz 12,cz 13,cz 14,cz 15,(16,[],[5,10],false),cz 17,cz 18,cz 19,cz 20],[0,3,4]⟩,⟨[],[0,3,4]⟩,⟨[],[2]⟩]
def aJZ:List aW:=[.tm 2]
theorem aLH:aO Try.prog Try.f18 aLB=some (aJF,aJZ):=by kernel_rfl
theorem aLL:aN Try.prog aIM Try.f18 aJF aJZ:=
 aN.mk Try.func18 (by kernel_rfl) aLH
def aN3:AC:=
 (.seq (.region [rq 0 3 (.box true (.tm 1)),
 rq 1 4 (.move (.kv (.slice none 0 0)))] 2 [0,3])
 (.seq (.region [rq 0 8 (.bC 5 0 [VZ,VZ,VZ,VZ,OZ] []),
 RM 1 5 8] 2 [0,3,5])
 (.seq (.region [rq 0 6 (.move (.kv (.bool false)))] 1 [0,3,5,6])
 (.seq (.seq (.region [rq 0 7 (.move (ki 0))] 1 [0,3,5,6,7])
 (.block 0
 (.loop
 (.seq (.seq (.region [RM 0 9 7,
 RM 1 10 0,
 rq 2 11 (.len false (.tm 10)),
 rq 3 12 (.bin .lss (.tm 9) (.tm 11))] 4 [0,3,5,6,7,12])
 (.cond (.tm 12)
 .skip
 (.exit 0)))
 (.seq (.block 1
 (.seq (.seq (.region [RM 0 15 6,
 rq 1 16 (.un .not (.tm 15)),
 RM 2 17 16,
 GQ 3 18 (.load 5 true (.tm 3)) 17 true,
 GQ 4 19 (.move (.tm 0)) 17 true,
 GQ 5 20 (.move (.tm 7)) 17 true,
 GQ 6 21 (.idx 5 (.tm 19) (.tm 20)) 17 true,
 GQ 7 22 (.load 5 true (.tm 21)) 17 true,
 GQ 8 23 (.call aKL [(.tm 18),(.tm 22)]) 17 true,
 rq 9 24 (.pick (.tm 17) (.tm 23) (.kv (.bool false)))] 10 [0,3,5,6,7,24])
 (.cond (.tm 24)
 (.seq (.region [RM 0 25 5,
 rq 1 26 (.load 5 true (.tm 3)),
 rq 2 27 (.bC 5 1 [VZ,VZ,VZ,VZ,OZ] [(0,5,(.tm 26))]),
 rq 3 28 (.append 5 (.tm 25) (.tm 27)),
 RM 4 5 28] 5 [0,3,5,7])
 (.region [rq 0 6 (.move (.kv (.bool true)))] 1 [0,3,5,6,7]))
 .skip))
 (.region [RM 0 29 5,
 RM 1 30 0,
 RM 2 31 7,
 rq 3 32 (.idx 5 (.tm 30) (.tm 31)),
 rq 4 33 (.load 5 true (.tm 32)),
 rq 5 34 (.bC 5 1 [VZ,VZ,VZ,VZ,OZ] [(0,5,(.tm 33))]),
 rq 6 35 (.append 5 (.tm 29) (.tm 34)),
 RM 7 5 35] 8 [0,3,5,6,7])))
 (.region [RM 0 13 7,
 rq 1 14 (.bin .add (.tm 13) (ki 1)),
 RM 2 7 14] 3 [0,3,5,6,7]))))))
 (.seq (.seq (.region [RM 0 36 6,
 rq 1 37 (.un .not (.tm 36))] 2 [3,5,37])
 (.cond (.tm 37)
 (.region [RM 0 38 5,
 rq 1 39 (.load 5 true (.tm 3)),
 rq 2 40 (.bC 5 1 [VZ,VZ,VZ,VZ,OZ] [(0,5,(.tm 39))]),
 rq 3 41 (.append 5 (.tm 38) (.tm 40)),
 RM 4 5 41] 5 [5])
 .skip))
 (.seq (.region [RM 0 42 5,
 RM 1 4 42] 2 [4])
 .ret))))))
def aR9:List Cert:=[⟨[],[0,3]⟩,⟨[],[0,3,5]⟩,⟨[],[0,3,5,6]⟩,⟨[],[0,3,5,6,7]⟩,⟨[],[0,3,5,6,7,12]⟩,⟨[cz 0,cz 1,cz 2,cz 3,cz 4,cz 5,cz 6,cz 7,cz 8,cz 9],[0,3,5,6,7,24]⟩,⟨[],[0,3,5,7]⟩,⟨[],[0,3,5,6,7]⟩,⟨[],[0,3,5,6,7]⟩,⟨[],[0,3,5,6,7]⟩,⟨[],[3,5,37]⟩,⟨[],[5]⟩,⟨[],[4]⟩]
def aO7:List aW:=[.tm 4]
theorem aSI:aO Try.prog Try.f19 aR9=some (aN3,aO7):=by kernel_rfl
theorem aSO:aN Try.prog aJS Try.f19 aN3 aO7:=
 aN.mk Try.func19 (by kernel_rfl) aSI
def aJB:AC:=
 (.seq (.region [rq 0 1 (.box true (.tm 0)),
 rq 1 2 (.alloc [OZ,OZ,OZ,OZ,OZ,OZ])] 2 [1,2])
 (.seq (.region [RF 0 3 0 1,
 ⟨1,(some 4),.load 2 true (.tm 3),none,[3],[],false⟩,
 rq 3 6 (.bC 1 0 [VZ] []),
 RF 4 7 2 1,
 ⟨5,(some 8),.load 1 false (.tm 7),none,[3],[],true⟩,
 RF 7 10 3 1,
 ⟨8,(some 11),.load 1 false (.tm 10),none,[3],[],true⟩,
 RF 10 13 4 1,
 ⟨11,(some 14),.load 1 false (.tm 13),none,[3],[],true⟩,
 RF 13 16 5 1,
 ⟨14,(some 17),.load 1 false (.tm 16),none,[3],[],true⟩,
 ⟨2,(some 5),.call aIR [(.tm 4)],none,[3],[5,8,11,14],false⟩,
 ⟨6,(some 9),.append 1 (.tm 6) (.tm 8),none,[],[8,11,14],false⟩,
 ⟨9,(some 12),.call aIM [(.tm 11)],none,[],[11,14],false⟩,
 ⟨12,(some 15),.call aIM [(.tm 14)],none,[],[14],false⟩,
 rq 15 18 (.call aIM [(.tm 17)]),
 rq 16 19 (.build [OZ,OZ,OZ,OZ,OZ,OZ] [(0,2,(.tm 5)),(2,1,(.tm 9)),(3,1,(.tm 12)),(4,1,(.tm 15)),(5,1,(.tm 18))]),
 rn 17 (.store 6 true (.tm 2) (.tm 19))] 18 [2])
 .ret))
def aLE:List Cert:=[⟨[],[1,2]⟩,⟨[cz 0,(1,[3],[],false),cz 3,cz 4,(5,[3],[],true),cz 7,(8,[3],[],true),cz 10,(11,[3],[],true),cz 13,(14,[3],[],true),(2,[3],[5,8,11,14],false),(6,[],[8,11,14],false),(9,[],[11,14],false),(12,[],[14],false),cz 15,cz 16,cz 17],[2]⟩]
def aJW:List aW:=[.cell 2 6 true]
theorem aLD:aO Try.prog Try.f20 aLE=some (aJB,aJW):=by kernel_rfl
def z5:AC:=
 (.seq (.region [rq 0 6 (.move (.kv (.bool false)))] 1 [0,1,2])
 (.seq (.region [RM 0 7 1,
 rq 1 8 (.bin .eql (.tm 7) (ki 1)),
 RM 2 9 8,
 GQ 3 10 (.move (.tm 1)) 9 false,
 GQ 4 11 (.bin .eql (.tm 10) (ki 2)) 9 false,
 rq 5 12 (.pick (.tm 9) (.kv (.bool true)) (.tm 11)),
 RM 6 13 12,
 GQ 7 14 (.move (.tm 1)) 13 false,
 GQ 8 15 (.bin .eql (.tm 14) (ki 4)) 13 false,
 rq 9 16 (.pick (.tm 13) (.kv (.bool true)) (.tm 15)),
 RM 10 17 16,
 GQ 11 18 (.move (.tm 0)) 17 true,
 GQ 12 19 (.call cQ [(.tm 18),(ki 0),(ki 63)]) 17 true,
 rq 13 20 (.pick (.tm 17) (.tm 19) (.kv (.bool false))),
 RM 14 21 20,
 GQ 15 22 (.move (.tm 2)) 21 true,
 GQ 16 23 (.move (.tm 22)) 21 true,
 GQ 17 24 (.move (.tm 0)) 23 false,
 GQ 18 25 (.move (.tm 1)) 23 false,
 GQ 19 26 (.bin .add (.tm 24) (.tm 25)) 23 false,
 GQ 20 27 (.bin .sub (.tm 26) (ki 1)) 23 false,
 GQ 21 28 (.bin .leq (.tm 27) (ki 63)) 23 false,
 GQ 22 29 (.pick (.tm 23) (.kv (.bool true)) (.tm 28)) 21 true,
 rq 23 30 (.pick (.tm 21) (.tm 29) (.kv (.bool false))),
 RM 24 6 30] 25 [6])
 .ret))
def TH:List Cert:=[⟨[],[0,1,2]⟩,⟨[],[6]⟩]
def IN:List aW:=[.tm 6]
theorem VH:aO Try.prog Try.f22 TH=some (z5,IN):=by kernel_rfl
theorem VQ:aN Try.prog nI Try.f22 z5 IN:=
 aN.mk Try.func22 (by kernel_rfl) VH
def rH:AC:=
 (.seq (.region [rq 0 4 (.move (.kv (.bool false)))] 1 [0,1])
 (.seq (.region [RM 0 5 1,
 rq 1 6 (.bin .lss (.tm 5) (ki 9000)),
 RM 2 7 6,
 GQ 3 8 (.move (.tm 0)) 7 true,
 GQ 4 9 (.move (.tm 1)) 7 true,
 GQ 5 10 (.call aD [(.tm 8),(.tm 9)]) 7 true,
 GQ 6 11 (.move (.tm 1)) 7 true,
 GQ 7 12 (.bin .sub (.tm 11) (ki 1)) 7 true,
 GQ 8 13 (.bin .eql (.tm 10) (.tm 12)) 7 true,
 rq 9 14 (.pick (.tm 7) (.tm 13) (.kv (.bool false))),
 RM 10 4 14] 11 [4])
 .ret))
def LN:List Cert:=[⟨[],[0,1]⟩,⟨[],[4]⟩]
def zF:List aW:=[.tm 4]
theorem KV:aO Try.prog Try.f24 LN=some (rH,zF):=by kernel_rfl
theorem LF:aN Try.prog kE Try.f24 rH zF:=
 aN.mk Try.func24 (by kernel_rfl) KV
def pG:AC:=
 (.seq (.region [rq 0 4 (.move (ki 0))] 1 [0,1])
 (.seq (.region [RM 0 7 0,
 RM 1 8 0,
 RK 2 9 8,
 RF 3 10 1 9,
 RL 4 11 10,
 rq 5 12 (.bin .add (.tm 11) (ki 1)),
 RK 6 13 7,
 RF 7 14 1 13,
 rn 8 (.store 1 false (.tm 14) (.tm 12))] 9 [0,1])
 (.seq (.seq (.region [RM 0 15 1,
 rq 1 16 (.bin .lss (.tm 15) (ki 1)),
 RM 2 17 16,
 GQ 3 18 (.move (.tm 0)) 17 false,
 GQ 4 19 (.tF (.tm 18)) 17 false,
 GQ 5 20 (.fld 0 (.tm 19)) 17 false,
 GQ 6 21 (.load 1 false (.tm 20)) 17 false,
 GQ 7 22 (.len false (.tm 21)) 17 false,
 GQ 8 23 (.bin .eql (.tm 22) (ki 0)) 17 false,
 rq 9 24 (.pick (.tm 17) (.kv (.bool true)) (.tm 23))] 10 [0,1,24])
 (.cond (.tm 24)
 (.seq (.region [rq 0 4 (.move (ki 0))] 1 [4])
 .ret)
 .skip))
 (.seq (.region [RM 0 25 0,
 RK 1 26 25,
 RF 2 27 1 26,
 RL 3 28 27,
 rq 4 29 (.bin .sub (.tm 28) (ki 1)),
 RM 5 5 29] 6 [0,1,5])
 (.seq (.seq (.region [RM 0 30 5,
 RM 1 31 0,
 RK 2 32 31,
 RF 3 33 0 32,
 RL 4 34 33,
 rq 5 35 (.len false (.tm 34)),
 rq 6 36 (.bin .lss (.tm 30) (.tm 35))] 7 [0,1,5,36])
 (.cond (.tm 36)
 (.seq (.region [RM 0 37 0,
 RK 1 38 37,
 RF 2 39 0 38,
 RL 3 40 39,
 RM 4 41 5,
 rq 5 42 (.idx 1 (.tm 40) (.tm 41)),
 RL 6 43 42,
 rq 7 44 (.conv .i64 (.tm 43)),
 RM 8 45 1,
 rq 9 46 (.bin .rem (.tm 44) (.tm 45)),
 RM 10 4 46] 11 [4])
 .ret)
 .skip))
 (.seq (.region [RM 0 47 0,
 RK 1 48 47,
 RF 2 49 0 48,
 RL 3 50 49,
 RM 4 51 5,
 RM 5 52 0,
 RK 6 53 52,
 RF 7 54 0 53,
 RL 8 55 54,
 rq 9 56 (.len false (.tm 55)),
 rq 10 57 (.bin .rem (.tm 51) (.tm 56)),
 rq 11 58 (.idx 1 (.tm 50) (.tm 57)),
 RL 12 59 58,
 rq 13 60 (.conv .i64 (.tm 59)),
 rq 14 61 (.bin .mul (.tm 60) (ki 131)),
 RM 15 62 0,
 RK 16 63 62,
 RF 17 64 0 63,
 RL 18 65 64,
 RM 19 66 5,
 rq 20 67 (.bin .mul (.tm 66) (ki 7)),
 rq 21 68 (.bin .add (.tm 67) (ki 3)),
 RM 22 69 0,
 RK 23 70 69,
 RF 24 71 0 70,
 RL 25 72 71,
 rq 26 73 (.len false (.tm 72)),
 rq 27 74 (.bin .rem (.tm 68) (.tm 73)),
 rq 28 75 (.idx 1 (.tm 65) (.tm 74)),
 RL 29 76 75,
 rq 30 77 (.conv .i64 (.tm 76)),
 rq 31 78 (.bin .mul (.tm 77) (ki 1117)),
 rq 32 79 (.bin .add (.tm 61) (.tm 78)),
 RM 33 80 5,
 rq 34 81 (.bin .mul (.tm 80) (ki 29)),
 rq 35 82 (.bin .add (.tm 79) (.tm 81)),
 RM 36 83 5,
 RM 37 84 0,
 RK 38 85 84,
 RF 39 86 0 85,
 RL 40 87 86,
 rq 41 88 (.len false (.tm 87)),
 rq 42 89 (.bin .quo (.tm 83) (.tm 88)),
 rq 43 90 (.bin .mul (.tm 89) (ki 53)),
 rq 44 91 (.bin .add (.tm 82) (.tm 90)),
 RM 45 6 91] 46 [1,6])
 (.seq (.region [RM 0 92 6,
 RM 1 93 6,
 rq 2 94 (.bin .quo (.tm 93) (ki 64)),
 rq 3 95 (.bin .xor (.tm 92) (.tm 94)),
 RM 4 6 95] 5 [1,6])
 (.seq (.region [RM 0 96 6,
 RM 1 97 1,
 rq 2 98 (.bin .rem (.tm 96) (.tm 97)),
 RM 3 4 98] 4 [4])
 .ret))))))))
def JC:List Cert:=[⟨[],[0,1]⟩,⟨[],[0,1]⟩,⟨[],[0,1,24]⟩,⟨[],[4]⟩,⟨[],[0,1,5]⟩,⟨[],[0,1,5,36]⟩,⟨[],[4]⟩,⟨[cz 0,cz 1,cz 2,cz 3,cz 4,cz 5,cz 6,cz 7,cz 8,cz 9,cz 10,cz 11,cz 12,cz 13,cz 14,cz 15,cz 16,cz 17,cz 18,cz 19,cz 20,cz 21,cz 22,cz 23,cz 24,cz 25,cz 26,cz 27,cz 28,cz 29,cz 30,cz 31,cz 32,cz 33,cz 34,cz 35,cz 36,cz 37,cz 38,cz 39,cz 40,cz 41,cz 42,cz 43,cz 44,cz 45],[1,6]⟩,⟨[],[1,6]⟩,⟨[],[4]⟩]
def wZ:List aW:=[.tm 4]
theorem JJ:aO Try.prog Try.f25 JC=some (pG,wZ):=by kernel_rfl
theorem JN:aN Try.prog aD Try.f25 pG wZ:=
 aN.mk Try.func25 (by kernel_rfl) JJ
def z6:AC:=
 (.seq (.region [rq 0 2 (.move (ki 0))] 1 [0])
 (.seq (.region [rq 0 3 (.move (ki 0))] 1 [0,3])
 (.seq (.seq (.region [RM 0 6 0,
 rq 1 7 (.len false (.tm 6)),
 rq 2 8 (.move (ki 0))] 3 [3,6,7,8])
 (.block 0
 (.loop
 (.seq (.region [rq 0 9 (.bin .lss (.tm 8) (.tm 7))] 1 [3,6,7,8,9])
 (.seq (.cond (.tm 9)
 .skip
 (.exit 0))
 (.seq (.block 1
 (.seq (.region [rq 0 10 (.idx 1 (.tm 6) (.tm 8)),
 RL 1 11 10,
 RM 2 5 11] 3 [3,5,6,7,8])
 (.seq (.region [RM 0 12 5,
 RM 1 13 3,
 rq 2 14 (.bin .neq (.tm 12) (.tm 13))] 3 [3,5,6,7,8,14])
 (.cond (.tm 14)
 (.seq (.region [RM 0 15 5,
 RM 1 2 15] 2 [2])
 .ret)
 .skip))))
 (.region [rq 0 16 (.bin .add (.tm 8) (ki 1)),
 RM 1 8 16] 2 [3,6,7,8])))))))
 (.seq (.region [RM 0 17 3,
 RM 1 2 17] 2 [2])
 .ret))))
def UF:List Cert:=[⟨[],[0]⟩,⟨[],[0,3]⟩,⟨[],[3,6,7,8]⟩,⟨[],[3,6,7,8,9]⟩,⟨[],[3,5,6,7,8]⟩,⟨[],[3,5,6,7,8,14]⟩,⟨[],[2]⟩,⟨[],[3,6,7,8]⟩,⟨[],[2]⟩]
def IP:List aW:=[.tm 2]
theorem UR:aO Try.prog Try.f30 UF=some (z6,IP):=by kernel_rfl
theorem T8:aN Try.prog wC Try.f30 z6 IP:=
 aN.mk Try.func30 (by kernel_rfl) UR
def pI:AC:=
 (.seq (.region [rq 0 4 (.move (ki 0))] 1 [0,1])
 (.seq (.region [RM 0 7 0,
 rq 1 8 (.call lG [(.tm 7)]),
 RM 2 5 8] 3 [0,1,5])
 (.seq (.region [RM 0 9 1,
 rq 1 10 (.call lG [(.tm 9)]),
 RM 2 6 10] 3 [0,1,5,6])
 (.seq (.seq (.region [RM 0 11 5] 1 [0,1,6,11])
 (.cond (.tm 11)
 (.seq (.seq (.region [RM 0 12 6] 1 [12])
 (.cond (.tm 12)
 (.seq (.region [rq 0 4 (.move (ki 0))] 1 [4])
 .ret)
 .skip))
 (.seq (.region [rq 0 4 (.move (.kv (.int .i64 (-1))))] 1 [4])
 .ret))
 .skip))
 (.seq (.seq (.region [RM 0 13 6] 1 [0,1,13])
 (.cond (.tm 13)
 (.seq (.region [rq 0 4 (.move (ki 1))] 1 [4])
 .ret)
 .skip))
 (.seq (.seq (.region [RM 0 14 0,
 RM 1 15 1,
 rq 2 16 (.bin .lss (.tm 14) (.tm 15))] 3 [0,1,16])
 (.cond (.tm 16)
 (.seq (.region [rq 0 4 (.move (.kv (.int .i64 (-1))))] 1 [4])
 .ret)
 .skip))
 (.seq (.seq (.region [RM 0 17 0,
 RM 1 18 1,
 rq 2 19 (.bin .gtr (.tm 17) (.tm 18))] 3 [19])
 (.cond (.tm 19)
 (.seq (.region [rq 0 4 (.move (ki 1))] 1 [4])
 .ret)
 .skip))
 (.seq (.region [rq 0 4 (.move (ki 0))] 1 [4])
 .ret))))))))
def JV:List Cert:=[⟨[],[0,1]⟩,⟨[],[0,1,5]⟩,⟨[],[0,1,5,6]⟩,⟨[],[0,1,6,11]⟩,⟨[],[12]⟩,⟨[],[4]⟩,⟨[],[4]⟩,⟨[],[0,1,13]⟩,⟨[],[4]⟩,⟨[],[0,1,16]⟩,⟨[],[4]⟩,⟨[],[19]⟩,⟨[],[4]⟩,⟨[],[4]⟩]
def x5:List aW:=[.tm 4]
theorem JD:aO Try.prog Try.f31 JV=some (pI,x5):=by kernel_rfl
theorem JR:aN Try.prog jC Try.f31 pI x5:=
 aN.mk Try.func31 (by kernel_rfl) JD
end Go.Proofs.Ytmccpdapaccnoaa
end
section
namespace Go.Proofs.Ytmccpdapaccnoaa
open Go Go.AM
set_option maxRecDepth 100000
def kI:AC:=
 (.seq (.region [rq 0 1 (.box true (.tm 0)),
 rq 1 2 (.alloc [OZ,OZ])] 2 [1,2])
 (.seq (.region [RF 0 3 0 1,
 RF 1 4 0 3,
 RL 2 5 4,
 RF 5 8 1 1,
 ⟨6,(some 9),.load 1 false (.tm 8),none,[],[],true⟩,
 ⟨3,(some 6),.call eX [(.tm 5)],none,[],[6],false⟩,
 rq 4 7 (.build [OZ] [(0,1,(.tm 6))]),
 rq 7 10 (.call eX [(.tm 9)]),
 rq 8 11 (.build [OZ,OZ] [(0,1,(.tm 7)),(1,1,(.tm 10))]),
 rn 9 (.store 2 true (.tm 2) (.tm 11))] 10 [2])
 .ret))
def BQ:List Cert:=[⟨[],[1,2]⟩,⟨[cz 0,cz 1,cz 2,cz 5,(6,[],[],true),(3,[],[6],false),cz 4,cz 7,cz 8,cz 9],[2]⟩]
def pS:List aW:=[.cell 2 2 true]
theorem BE:aO Try.prog Try.f32 BQ=some (kI,pS):=by kernel_rfl
theorem A9:aN Try.prog fL Try.f32 kI pS:=
 aN.mk Try.func32 (by kernel_rfl) BE
def rI:AC:=
 (.seq (.region [rq 0 2 (.move (.kv (.slice none 0 0)))] 1 [0])
 (.seq (.region [RM 0 3 0,
 rq 1 4 (.call gO [(.tm 3)]),
 rq 2 5 (.call iD [(.tm 4)]),
 RM 3 2 5] 4 [2])
 .ret))
def LQ:List Cert:=[⟨[],[0]⟩,⟨[],[2]⟩]
def zA:List aW:=[.tm 2]
theorem KH:aO Try.prog Try.f33 LQ=some (rI,zA):=by kernel_rfl
theorem LI:aN Try.prog eX Try.f33 rI zA:=
 aN.mk Try.func33 (by kernel_rfl) KH
def tD:AC:=
 (.seq (.region [rq 0 2 (.move (.kv (.slice none 0 0)))] 1 [0])
 (.seq (.region [RM 0 6 0,
 rq 1 7 (.call gG [(.tm 6)]),
 RM 2 3 7] 3 [3])
 (.seq (.seq (.region [RM 0 8 3,
 rq 1 9 (.len false (.tm 8)),
 rq 2 10 (.move (ki 0))] 3 [3,8,9,10])
 (.block 0
 (.loop
 (.seq (.region [rq 0 11 (.bin .lss (.tm 10) (.tm 9))] 1 [3,8,9,10,11])
 (.seq (.cond (.tm 11)
 .skip
 (.exit 0))
 (.seq (.block 1
 (.seq (.region [RM 0 12 10,
 rq 1 13 (.idx 5 (.tm 8) (.tm 10)),
 rq 2 14 (.load 5 true (.tm 13)),
 rq 3 5 (.alloc [VZ,VZ,VZ,VZ,OZ]),
 RM 4 4 12,
 rn 5 (.store 5 true (.tm 5) (.tm 14))] 6 [3,4,5,8,9,10])
 (.region [RM 0 15 3,
 RM 1 16 4,
 RF 2 17 2 5,
 RF 3 18 2 17,
 RL 4 19 18,
 rq 5 20 (.call eX [(.tm 19)]),
 rq 6 21 (.idx 5 (.tm 15) (.tm 16)),
 RF 7 22 2 21,
 RF 8 23 2 22,
 rn 9 (.store 1 false (.tm 23) (.tm 20))] 10 [3,8,9,10])))
 (.region [rq 0 24 (.bin .add (.tm 10) (ki 1)),
 RM 1 10 24] 2 [3,8,9,10])))))))
 (.seq (.region [RM 0 25 3,
 RM 1 2 25] 2 [2])
 .ret))))
def MF:List Cert:=[⟨[],[0]⟩,⟨[],[3]⟩,⟨[],[3,8,9,10]⟩,⟨[],[3,8,9,10,11]⟩,⟨[],[3,4,5,8,9,10]⟩,⟨[],[3,8,9,10]⟩,⟨[],[3,8,9,10]⟩,⟨[],[2]⟩]
def BL:List aW:=[.tm 2]
theorem MI:aO Try.prog Try.f34 MF=some (tD,BL):=by kernel_rfl
theorem MD:aN Try.prog eO Try.f34 tD BL:=
 aN.mk Try.func34 (by kernel_rfl) MI
def aJE:AC:=
 (.seq (.region [rq 0 1 (.box true (.tm 0)),
 rq 1 2 (.alloc [OZ])] 2 [1,2])
 (.seq (.region [rq 0 3 (.bC 1 0 [VZ] []),
 RF 1 4 0 1,
 RL 2 5 4,
 rq 3 6 (.append 1 (.tm 3) (.tm 5)),
 rq 4 7 (.build [OZ] [(0,1,(.tm 6))]),
 rn 5 (.store 1 true (.tm 2) (.tm 7))] 6 [2])
 .ret))
def aKS:List Cert:=[⟨[],[1,2]⟩,⟨[],[2]⟩]
def aJ3:List aW:=[.cell 2 1 true]
theorem aK8:aO Try.prog Try.f35 aKS=some (aJE,aJ3):=by kernel_rfl
theorem aKY:aN Try.prog aIW Try.f35 aJE aJ3:=
 aN.mk Try.func35 (by kernel_rfl) aK8
def aJN:AC:=
 (.seq (.region [rq 0 1 (.box true (.tm 0)),
 rq 1 2 (.alloc [VZ,VZ,OZ])] 2 [1,2])
 (.seq (.region [RF 0 3 0 1,
 ⟨1,(some 4),.load 1 false (.tm 3),none,[4],[],true⟩,
 RF 2 5 1 1,
 ⟨3,(some 6),.load 1 false (.tm 5),none,[4],[],true⟩,
 rq 4 7 (.bC 1 0 [VZ] []),
 RF 5 8 2 1,
 ⟨6,(some 9),.load 1 false (.tm 8),none,[4],[],false⟩,
 ⟨7,(some 10),.append 1 (.tm 7) (.tm 9),none,[],[1,3],false⟩,
 rq 8 11 (.build [VZ,VZ,OZ] [(0,1,(.tm 4)),(1,1,(.tm 6)),(2,1,(.tm 10))]),
 rn 9 (.store 3 true (.tm 2) (.tm 11))] 10 [2])
 .ret))
def aMC:List Cert:=[⟨[],[1,2]⟩,⟨[cz 0,(1,[4],[],true),cz 2,(3,[4],[],true),cz 4,cz 5,(6,[4],[],false),(7,[],[1,3],false),cz 8,cz 9],[2]⟩]
def aJ5:List aW:=[.cell 2 3 true]
theorem aL4:aO Try.prog Try.f36 aMC=some (aJN,aJ5):=by kernel_rfl
theorem aLO:aN Try.prog aI8 Try.f36 aJN aJ5:=
 aN.mk Try.func36 (by kernel_rfl) aL4
def ap2:AC:=
 (.seq (.region [rq 0 2 (.box true (.tm 0)),
 rq 1 3 (.box true (.tm 1)),
 rq 2 4 (.move (.kv (.bool false)))] 3 [2,3])
 (.seq (.region [RF 0 5 0 2,
 RL 1 6 5,
 RF 2 7 0 3,
 RL 3 8 7,
 rq 4 9 (.bin .lss (.tm 6) (.tm 8)),
 RM 5 10 9,
 GQ 6 11 (.fld 0 (.tm 2)) 10 false,
 GQ 7 12 (.load 1 false (.tm 11)) 10 false,
 GQ 8 13 (.fld 0 (.tm 3)) 10 false,
 GQ 9 14 (.load 1 false (.tm 13)) 10 false,
 GQ 10 15 (.bin .eql (.tm 12) (.tm 14)) 10 false,
 GQ 11 16 (.move (.tm 15)) 10 false,
 GQ 12 17 (.fld 1 (.tm 2)) 16 true,
 GQ 13 18 (.load 1 false (.tm 17)) 16 true,
 GQ 14 19 (.fld 1 (.tm 3)) 16 true,
 GQ 15 20 (.load 1 false (.tm 19)) 16 true,
 GQ 16 21 (.bin .lss (.tm 18) (.tm 20)) 16 true,
 GQ 17 22 (.pick (.tm 16) (.tm 21) (.kv (.bool false))) 10 false,
 rq 18 23 (.pick (.tm 10) (.kv (.bool true)) (.tm 22)),
 RM 19 4 23] 20 [4])
 .ret))
def aPO:List Cert:=[⟨[],[2,3]⟩,⟨[],[4]⟩]
def aOC:List aW:=[.tm 4]
theorem aPW:aO Try.prog Try.f37 aPO=some (ap2,aOC):=by kernel_rfl
theorem aPS:aN Try.prog aKL Try.f37 ap2 aOC:=
 aN.mk Try.func37 (by kernel_rfl) aPW
def JX:AC:=
 (.seq (.region [rq 0 6 (.move (.kv (.bool false)))] 1 [0,1,2])
 (.seq (.region [RM 0 7 0,
 RM 1 8 1,
 rq 2 9 (.bin .geq (.tm 7) (.tm 8)),
 RM 3 10 9,
 GQ 4 11 (.move (.tm 0)) 10 true,
 GQ 5 12 (.move (.tm 2)) 10 true,
 GQ 6 13 (.bin .leq (.tm 11) (.tm 12)) 10 true,
 rq 7 14 (.pick (.tm 10) (.tm 13) (.kv (.bool false))),
 RM 8 6 14] 9 [6])
 .ret))
def afB:List Cert:=[⟨[],[0,1,2]⟩,⟨[],[6]⟩]
def SP:List aW:=[.tm 6]
theorem acJ:aO Try.prog Try.f38 afB=some (JX,SP):=by kernel_rfl
theorem ae0:aN Try.prog cQ Try.f38 JX SP:=
 aN.mk Try.func38 (by kernel_rfl) acJ
def qQ:AC:=
 (.seq (.region [rq 0 4 (.alloc [OZ,OZ,OZ])] 1 [0,1,4])
 (.seq (.region [RM 0 11 0,
 rq 1 12 (.call tN [(.tm 11),(ki 99999)]),
 rq 2 13 (.build [OZ,OZ,OZ] [(0,1,(.tm 12))]),
 rq 3 5 (.alloc [OZ,OZ,OZ]),
 rn 4 (.store 3 true (.tm 5) (.tm 13))] 5 [0,1,4,5])
 (.seq (.seq (.region [rq 0 6 (.move (ki 0))] 1 [0,1,4,5,6])
 (.block 0
 (.loop
 (.seq (.seq (.region [RM 0 14 6,
 rq 1 15 (.bin .leq (.tm 14) (ki 3))] 2 [0,1,4,5,6,15])
 (.cond (.tm 15)
 .skip
 (.exit 0)))
 (.seq (.block 1
 (.region [RF 0 18 1 5,
 ⟨1,(some 19),.load 1 false (.tm 18),none,[4],[],true⟩,
 RM 2 20 0,
 ⟨3,(some 21),.call aD [(.tm 20),(ki 4)],none,[],[1],false⟩,
 rq 4 22 (.bC 1 1 [VZ] [(0,1,(.tm 21))]),
 rq 5 23 (.append 1 (.tm 19) (.tm 22)),
 RF 6 24 1 5,
 rn 7 (.store 1 false (.tm 24) (.tm 23))] 8 [0,1,4,5,6]))
 (.region [RM 0 16 6,
 rq 1 17 (.bin .add (.tm 16) (ki 1)),
 RM 2 6 17] 3 [0,1,4,5,6]))))))
 (.seq (.seq (.region [rq 0 7 (.move (ki 0))] 1 [0,1,4,5,7])
 (.block 2
 (.loop
 (.seq (.seq (.region [RM 0 25 7,
 rq 1 26 (.bin .lss (.tm 25) (ki 3))] 2 [0,1,4,5,7,26])
 (.cond (.tm 26)
 .skip
 (.exit 2)))
 (.seq (.block 3
 (.seq (.region [rq 0 29 (.bC 7 0 [VZ,VZ,VZ,VZ,(.v (.bool false)),OZ,OZ] []),
 RM 1 8 29] 2 [0,1,4,5,7,8])
 (.seq (.seq (.region [RM 0 30 0,
 RM 1 31 1,
 rq 2 32 (.bin .add (.tm 31) (ki 1)),
 rq 3 33 (.call aD [(.tm 30),(.tm 32)]),
 RM 4 9 33] 5 [0,1,4,5,7,8,9])
 (.block 4
 (.loop
 (.seq (.seq (.region [RM 0 34 9,
 rq 1 35 (.bin .gtr (.tm 34) (ki 0))] 2 [0,1,4,5,7,8,9,35])
 (.cond (.tm 35)
 .skip
 (.exit 4)))
 (.seq (.block 5
 (.seq (.region [RM 0 38 0,
 rq 1 39 (.call tS [(.tm 38),(ki 99999)]),
 rq 2 10 (.alloc [VZ,VZ,VZ,VZ,(.v (.bool false)),OZ,OZ]),
 rn 3 (.store 7 true (.tm 10) (.tm 39))] 4 [0,1,4,5,7,8,9,10])
 (.seq (.seq (.region [RF 0 40 1 10,
 RL 1 41 40,
 rq 2 42 (.bin .eql (.tm 41) (ki 4)),
 RM 3 43 42,
 GQ 4 44 (.move (.tm 8)) 43 true,
 GQ 5 45 (.len false (.tm 44)) 43 true,
 GQ 6 46 (.bin .gtr (.tm 45) (ki 0)) 43 true,
 rq 7 47 (.pick (.tm 43) (.tm 46) (.kv (.bool false))),
 RM 8 48 47,
 GQ 9 49 (.move (.tm 0)) 48 true,
 GQ 10 50 (.call aD [(.tm 49),(ki 2)]) 48 true,
 GQ 11 51 (.bin .eql (.tm 50) (ki 0)) 48 true,
 rq 12 52 (.pick (.tm 48) (.tm 51) (.kv (.bool false)))] 13 [0,1,4,5,7,8,9,10,52])
 (.cond (.tm 52)
 (.region [RM 0 53 8,
 RF 1 54 0 10,
 RL 2 55 54,
 RF 3 56 2 10,
 RL 4 57 56,
 rq 5 58 (.build [VZ,VZ,VZ,VZ,(.v (.bool false)),OZ,OZ] [(0,1,(.tm 55)),(1,1,(ki 3)),(2,1,(.tm 57)),(3,1,(ki 1))]),
 rq 6 59 (.bC 7 1 [VZ,VZ,VZ,VZ,(.v (.bool false)),OZ,OZ] [(0,7,(.tm 58))]),
 rq 7 60 (.append 7 (.tm 53) (.tm 59)),
 RM 8 8 60] 9 [0,1,4,5,7,8,9,10])
 .skip))
 (.region [RM 0 61 8,
 rq 1 62 (.load 7 true (.tm 10)),
 rq 2 63 (.bC 7 1 [VZ,VZ,VZ,VZ,(.v (.bool false)),OZ,OZ] [(0,7,(.tm 62))]),
 rq 3 64 (.append 7 (.tm 61) (.tm 63)),
 RM 4 8 64] 5 [0,1,4,5,7,8,9]))))
 (.region [RM 0 36 9,
 rq 1 37 (.bin .sub (.tm 36) (ki 1)),
 RM 2 9 37] 3 [0,1,4,5,7,8,9]))))))
 (.region [RF 0 65 2 5,
 ⟨1,(some 66),.load 1 false (.tm 65),none,[7],[],false⟩,
 RM 2 67 8,
 RM 3 68 8,
 rq 4 69 (.len false (.tm 68)),
 rq 5 70 (.mmx true (.tm 69) (ki 12)),
 rq 6 71 (.slc 7 (.tm 67) none (some (.tm 70)) none),
 rq 7 72 (.bC 1 1 [OZ] [(0,1,(.tm 71))]),
 rq 8 73 (.append 1 (.tm 66) (.tm 72)),
 RF 9 74 2 5,
 rn 10 (.store 1 false (.tm 74) (.tm 73))] 11 [0,1,4,5,7]))))
 (.region [RM 0 27 7,
 rq 1 28 (.bin .add (.tm 27) (ki 1)),
 RM 2 7 28] 3 [0,1,4,5,7]))))))
 (.seq (.region [rq 0 75 (.load 3 true (.tm 5)),
 rn 1 (.store 3 true (.tm 4) (.tm 75))] 2 [4])
 .ret)))))
def QI:List Cert:=[⟨[],[0,1,4]⟩,⟨[],[0,1,4,5]⟩,⟨[],[0,1,4,5,6]⟩,⟨[],[0,1,4,5,6,15]⟩,⟨[cz 0,(1,[4],[],true),cz 2,(3,[],[1],false),cz 4,cz 5,cz 6,cz 7],[0,1,4,5,6]⟩,⟨[],[0,1,4,5,6]⟩,⟨[],[0,1,4,5,7]⟩,⟨[],[0,1,4,5,7,26]⟩,⟨[],[0,1,4,5,7,8]⟩,⟨[],[0,1,4,5,7,8,9]⟩,⟨[],[0,1,4,5,7,8,9,35]⟩,⟨[],[0,1,4,5,7,8,9,10]⟩,⟨[],[0,1,4,5,7,8,9,10,52]⟩,⟨[],[0,1,4,5,7,8,9,10]⟩,⟨[],[0,1,4,5,7,8,9]⟩,⟨[],[0,1,4,5,7,8,9]⟩,⟨[cz 0,(1,[7],[],false),cz 2,cz 3,cz 4,cz 5,cz 6,cz 7,cz 8,cz 9,cz 10],[0,1,4,5,7]⟩,⟨[],[0,1,4,5,7]⟩,⟨[],[4]⟩]
def FY:List aW:=[.cell 4 3 true]
theorem QV:aO Try.prog Try.f39 QI=some (qQ,FY):=by kernel_rfl
theorem FC:aN Try.prog lJ Try.f39 qQ FY:=
 aN.mk Try.func39 (by kernel_rfl) QV
def aNO:AC:=
 (.seq (.region [rq 0 0 (.alloc [OZ,OZ])] 1 [0])
 (.seq (.region [rq 0 3 (.call v8 []),
 rq 1 4 (.build [OZ,OZ] [(0,1,(.tm 3))]),
 rq 2 1 (.alloc [OZ,OZ]),
 rn 3 (.store 2 true (.tm 1) (.tm 4))] 4 [0,1])
 (.seq (.seq (.region [rq 0 2 (.move (ki 0))] 1 [0,1,2])
 (.block 0
 (.loop
 (.seq (.seq (.region [RM 0 5 2,
 rq 1 6 (.bin .lss (.tm 5) (ki 6))] 2 [0,1,2,6])
 (.cond (.tm 6)
 .skip
 (.exit 0)))
 (.seq (.block 1
 (.region [RF 0 9 1 1,
 RL 1 10 9,
 rq 2 11 (.bC 1 1 [VZ] [(0,1,(.kv (.int .i64 (-1))))]),
 rq 3 12 (.append 1 (.tm 10) (.tm 11)),
 RF 4 13 1 1,
 rn 5 (.store 1 false (.tm 13) (.tm 12))] 6 [0,1,2]))
 (.region [RM 0 7 2,
 rq 1 8 (.bin .add (.tm 7) (ki 1)),
 RM 2 2 8] 3 [0,1,2]))))))
 (.seq (.region [rq 0 14 (.load 2 true (.tm 1)),
 rn 1 (.store 2 true (.tm 0) (.tm 14))] 2 [0])
 .ret))))
def aQ4:List Cert:=[⟨[],[0]⟩,⟨[],[0,1]⟩,⟨[],[0,1,2]⟩,⟨[],[0,1,2,6]⟩,⟨[],[0,1,2]⟩,⟨[],[0,1,2]⟩,⟨[],[0]⟩]
def aOU:List aW:=[.cell 0 2 true]
theorem aQF:aO Try.prog Try.f44 aQ4=some (aNO,aOU):=by kernel_rfl
theorem aQ1:aN Try.prog v7 Try.f44 aNO aOU:=
 aN.mk Try.func44 (by kernel_rfl) aQF
def w9:AC:=
 (.seq (.region [rq 0 4 (.move (.kv (.slice none 0 0)))] 1 [0,1])
 (.seq (.region [rq 0 7 (.build [VZ,VZ,VZ,(.v (.bool false))] [(0,1,(ki 0)),(1,1,(ki 15))]),
 rq 1 8 (.build [VZ,VZ,VZ,(.v (.bool false))] [(0,1,(ki 16)),(1,1,(ki 31)),(2,1,(ki 1))]),
 RM 2 9 0,
 rq 3 10 (.call aD [(.tm 9),(ki 3)]),
 rq 4 11 (.bin .eql (.tm 10) (ki 0)),
 rq 5 12 (.build [VZ,VZ,VZ,(.v (.bool false))] [(0,1,(ki 32)),(1,1,(ki 47)),(2,1,(ki 2)),(3,1,(.tm 11))]),
 rq 6 13 (.bC 4 3 [VZ,VZ,VZ,(.v (.bool false))] [(0,4,(.tm 7)),(4,4,(.tm 8)),(8,4,(.tm 12))]),
 RM 7 5 13] 8 [0,1,5])
 (.seq (.seq (.region [RM 0 14 0,
 rq 1 15 (.call aD [(.tm 14),(ki 4)])] 2 [0,1,5,15])
 (.block 0
 (.seq (.region [rq 0 17 (.bin .eql (.tm 15) (ki 0)),
 RM 1 16 17] 2 [0,1,5,15,16])
 (.cond (.tm 16)
 (.region [rq 0 18 (.build [VZ,VZ,VZ,(.v (.bool false))] [(0,1,(ki 0)),(1,1,(ki 7))]),
 rq 1 19 (.build [VZ,VZ,VZ,(.v (.bool false))] [(0,1,(ki 8)),(1,1,(ki 15)),(2,1,(ki 1))]),
 RM 2 20 0,
 rq 3 21 (.call aD [(.tm 20),(ki 3)]),
 rq 4 22 (.build [VZ,VZ,VZ,(.v (.bool false))] [(0,1,(ki 20)),(1,1,(ki 40)),(2,1,(.tm 21))]),
 RM 5 23 0,
 rq 6 24 (.call aD [(.tm 23),(ki 2)]),
 rq 7 25 (.bin .eql (.tm 24) (ki 0)),
 rq 8 26 (.build [VZ,VZ,VZ,(.v (.bool false))] [(0,1,(ki 41)),(1,1,(ki 63)),(2,1,(ki 2)),(3,1,(.tm 25))]),
 rq 9 27 (.bC 4 4 [VZ,VZ,VZ,(.v (.bool false))] [(0,4,(.tm 18)),(4,4,(.tm 19)),(8,4,(.tm 22)),(12,4,(.tm 26))]),
 RM 10 5 27] 11 [0,1,5])
 (.seq (.region [rq 0 29 (.bin .eql (.tm 15) (ki 1)),
 RM 1 28 29] 2 [0,1,5,28])
 (.cond (.tm 28)
 (.region [RM 0 30 5,
 RM 1 31 0,
 rq 2 32 (.call aD [(.tm 31),(ki 3)]),
 rq 3 33 (.bin .add (ki 1) (.tm 32)),
 rq 4 34 (.slc 4 (.tm 30) none (some (.tm 33)) none),
 RM 5 5 34] 6 [0,1,5])
 .skip))))))
 (.seq (.seq (.region [RM 0 35 0,
 RM 1 36 1,
 rq 2 37 (.call kE [(.tm 35),(.tm 36)])] 3 [0,5,37])
 (.cond (.tm 37)
 (.seq (.region [RM 0 38 0,
 RM 1 39 5,
 rq 2 40 (.len false (.tm 39)),
 rq 3 41 (.call aD [(.tm 38),(.tm 40)]),
 RM 4 6 41] 5 [0,5,6])
 (.seq (.region [RM 0 42 0,
 rq 1 43 (.call aD [(.tm 42),(ki 4)])] 2 [0,5,6,43])
 (.block 1
 (.seq (.region [rq 0 51 (.bin .eql (.tm 43) (ki 0)),
 RM 1 50 51] 2 [0,5,6,43,50])
 (.cond (.tm 50)
 (.region [RM 0 52 5,
 RM 1 53 6,
 RM 2 54 5,
 RM 3 55 6,
 rq 4 56 (.idx 4 (.tm 54) (.tm 55)),
 RF 5 57 1 56,
 ⟨6,(some 58),.load 1 false (.tm 57),none,[8],[],true⟩,
 rq 7 59 (.bin .add (.tm 58) (ki 1)),
 rq 8 60 (.bC 1 3 [VZ] [(0,1,(.kv (.int .i64 (-1)))),(1,1,(.tm 59)),(2,1,(ki 5))]),
 RM 9 61 0,
 ⟨10,(some 62),.call aD [(.tm 61),(ki 3)],none,[8],[6],false⟩,
 rq 11 63 (.idx 1 (.tm 60) (.tm 62)),
 RL 12 64 63,
 rq 13 65 (.idx 4 (.tm 52) (.tm 53)),
 RF 14 66 0 65,
 rn 15 (.store 1 false (.tm 66) (.tm 64))] 16 [5])
 (.seq (.region [rq 0 68 (.bin .eql (.tm 43) (ki 1)),
 RM 1 67 68] 2 [0,5,6,43,67])
 (.cond (.tm 67)
 (.region [RM 0 69 5,
 RM 1 70 6,
 RM 2 71 5,
 RM 3 72 6,
 rq 4 73 (.idx 4 (.tm 71) (.tm 72)),
 RF 5 74 0 73,
 ⟨6,(some 75),.load 1 false (.tm 74),none,[8],[],true⟩,
 rq 7 76 (.bin .sub (.tm 75) (ki 1)),
 rq 8 77 (.bC 1 3 [VZ] [(0,1,(ki 64)),(1,1,(.tm 76)),(2,1,(ki 40))]),
 RM 9 78 0,
 ⟨10,(some 79),.call aD [(.tm 78),(ki 3)],none,[8],[6],false⟩,
 rq 11 80 (.idx 1 (.tm 77) (.tm 79)),
 RL 12 81 80,
 rq 13 82 (.idx 4 (.tm 69) (.tm 70)),
 RF 14 83 1 82,
 rn 15 (.store 1 false (.tm 83) (.tm 81))] 16 [5])
 (.seq (.region [rq 0 85 (.bin .eql (.tm 43) (ki 2)),
 RM 1 84 85] 2 [0,5,6,84])
 (.cond (.tm 84)
 (.region [RM 0 86 5,
 RM 1 87 6,
 rq 2 88 (.bC 1 2 [VZ] [(0,1,(.kv (.int .i64 (-1)))),(1,1,(ki 3))]),
 RM 3 89 0,
 rq 4 90 (.call aD [(.tm 89),(ki 2)]),
 rq 5 91 (.idx 1 (.tm 88) (.tm 90)),
 RL 6 92 91,
 rq 7 93 (.idx 4 (.tm 86) (.tm 87)),
 RF 8 94 2 93,
 rn 9 (.store 1 false (.tm 94) (.tm 92))] 10 [5])
 (.region [RM 0 44 5,
 rq 1 45 (.build [VZ,VZ,VZ,(.v (.bool false))] [(0,1,(ki 60)),(1,1,(ki 61))]),
 rq 2 46 (.build [VZ,VZ,VZ,(.v (.bool false))] [(0,1,(ki 62)),(1,1,(ki 62))]),
 rq 3 47 (.build [VZ,VZ,VZ,(.v (.bool false))] [(0,1,(ki 63)),(1,1,(ki 63))]),
 rq 4 48 (.bC 4 3 [VZ,VZ,VZ,(.v (.bool false))] [(0,4,(.tm 45)),(4,4,(.tm 46)),(8,4,(.tm 47))]),
 rq 5 49 (.append 4 (.tm 44) (.tm 48)),
 RM 6 5 49] 7 [5]))))))))))
 .skip))
 (.seq (.region [RM 0 95 5,
 RM 1 4 95] 2 [4])
 .ret)))))
def R5:List Cert:=[⟨[],[0,1]⟩,⟨[],[0,1,5]⟩,⟨[],[0,1,5,15]⟩,⟨[],[0,1,5,15,16]⟩,⟨[],[0,1,5]⟩,⟨[],[0,1,5,28]⟩,⟨[],[0,1,5]⟩,⟨[],[0,5,37]⟩,⟨[],[0,5,6]⟩,⟨[],[0,5,6,43]⟩,⟨[],[0,5,6,43,50]⟩,⟨[cz 0,cz 1,cz 2,cz 3,cz 4,cz 5,(6,[8],[],true),cz 7,cz 8,cz 9,(10,[8],[6],false),cz 11,cz 12,cz 13,cz 14,cz 15],[5]⟩,⟨[],[0,5,6,43,67]⟩,⟨[cz 0,cz 1,cz 2,cz 3,cz 4,cz 5,(6,[8],[],true),cz 7,cz 8,cz 9,(10,[8],[6],false),cz 11,cz 12,cz 13,cz 14,cz 15],[5]⟩,⟨[],[0,5,6,84]⟩,⟨[],[5]⟩,⟨[],[5]⟩,⟨[],[4]⟩]
def GO:List aW:=[.tm 4]
theorem TD:aO Try.prog Try.f46 R5=some (w9,GO):=by kernel_rfl
theorem RN:aN Try.prog tN Try.f46 w9 GO:=
 aN.mk Try.func46 (by kernel_rfl) TD
def xW:AC:=
 (.seq (.region [rq 0 4 (.alloc [VZ,VZ,VZ,VZ,(.v (.bool false)),OZ,OZ])] 1 [0,1,4])
 (.seq (.region [RM 0 7 0,
 RM 2 9 0,
 RM 5 12 0,
 rq 7 14 (.bC 1 4 [VZ] [(0,1,(ki 1)),(1,1,(ki 1)),(2,1,(ki 2)),(3,1,(ki 4))]),
 RM 8 15 0,
 RM 12 19 0,
 rq 16 5 (.alloc [VZ,VZ,VZ,VZ,(.v (.bool false)),OZ,OZ]),
 ⟨1,(some 8),.call aD [(.tm 7),(ki 2)],none,[7,16],[],false⟩,
 ⟨3,(some 10),.call aD [(.tm 9),(ki 4)],none,[7,16],[],false⟩,
 rq 4 11 (.bin .add (ki 1) (.tm 10)),
 ⟨6,(some 13),.call qM [(.tm 12)],none,[7,16],[],false⟩,
 ⟨9,(some 16),.call aD [(.tm 15),(ki 4)],none,[7,16],[],false⟩,
 rq 10 17 (.idx 1 (.tm 14) (.tm 16)),
 ⟨11,(some 18),.load 1 false (.tm 17),none,[16],[],true⟩,
 ⟨13,(some 20),.call aD [(.tm 19),(ki 3)],none,[7,16],[11],false⟩,
 rq 14 21 (.bin .eql (.tm 20) (ki 0)),
 rq 15 22 (.build [VZ,VZ,VZ,VZ,(.v (.bool false)),OZ,OZ] [(0,1,(.tm 8)),(1,1,(.tm 11)),(2,1,(.tm 13)),(3,1,(.tm 18)),(4,1,(.tm 21))]),
 rn 17 (.store 7 true (.tm 5) (.tm 22))] 18 [0,1,4,5])
 (.seq (.seq (.region [RF 0 23 1 5,
 RL 1 24 23,
 rq 2 25 (.bin .geq (.tm 24) (ki 3))] 3 [0,1,4,5,25])
 (.cond (.tm 25)
 (.seq (.region [RF 0 26 3 5,
 rn 1 (.store 1 false (.tm 26) (ki 1))] 2 [0,1,4,5])
 (.region [rq 0 27 (.bC 1 4 [VZ] [(0,1,(ki 0)),(1,1,(ki 1)),(2,1,(ki 16)),(3,1,(ki 32))]),
 RM 1 28 0,
 rq 2 29 (.call aD [(.tm 28),(ki 4)]),
 rq 3 30 (.idx 1 (.tm 27) (.tm 29)),
 RL 4 31 30,
 RF 5 32 2 5,
 rn 6 (.store 1 false (.tm 32) (.tm 31))] 7 [0,1,4,5]))
 .skip))
 (.seq (.seq (.region [RF 0 33 4 5,
 RL 1 34 33,
 rq 2 35 (.un .not (.tm 34)),
 RM 3 36 35,
 GQ 4 37 (.fld 2 (.tm 5)) 36 true,
 GQ 5 38 (.load 1 false (.tm 37)) 36 true,
 GQ 6 39 (.fld 3 (.tm 5)) 36 true,
 GQ 7 40 (.load 1 false (.tm 39)) 36 true,
 GQ 8 41 (.bin .add (.tm 38) (.tm 40)) 36 true,
 GQ 9 42 (.bin .sub (.tm 41) (ki 1)) 36 true,
 GQ 10 43 (.bin .gtr (.tm 42) (ki 63)) 36 true,
 rq 11 44 (.pick (.tm 36) (.tm 43) (.kv (.bool false)))] 12 [0,1,4,5,44])
 (.cond (.tm 44)
 (.region [RF 0 45 3 5,
 RL 1 46 45,
 rq 2 47 (.bin .sub (ki 63) (.tm 46)),
 rq 3 48 (.bin .add (.tm 47) (ki 1)),
 RF 4 49 2 5,
 rn 5 (.store 1 false (.tm 49) (.tm 48))] 6 [0,1,4,5])
 .skip))
 (.seq (.seq (.region [RF 0 50 1 5,
 RL 1 51 50,
 rq 2 52 (.bin .eql (.tm 51) (ki 2)),
 RM 3 53 52,
 GQ 4 54 (.fld 1 (.tm 5)) 53 false,
 GQ 5 55 (.load 1 false (.tm 54)) 53 false,
 GQ 6 56 (.bin .eql (.tm 55) (ki 4)) 53 false,
 rq 7 57 (.pick (.tm 53) (.kv (.bool true)) (.tm 56))] 8 [0,1,4,5,57])
 (.cond (.tm 57)
 (.seq (.region [rq 0 6 (.move (ki 0))] 1 [0,1,4,5,6])
 (.block 0
 (.loop
 (.seq (.seq (.region [RM 0 58 6,
 RF 1 59 3 5,
 RL 2 60 59,
 rq 3 61 (.bin .lss (.tm 58) (.tm 60))] 4 [0,1,4,5,6,61])
 (.cond (.tm 61)
 .skip
 (.exit 0)))
 (.seq (.block 1
 (.seq (.region [RF 0 64 5 5,
 ⟨1,(some 65),.load 1 false (.tm 64),none,[7,12],[],true⟩,
 RM 2 66 0,
 RM 5 69 0,
 RM 8 72 0,
 ⟨3,(some 67),.call aD [(.tm 66),(ki 256)],none,[],[1],false⟩,
 rq 4 68 (.bin .mul (.tm 67) (ki 257)),
 ⟨6,(some 70),.call aD [(.tm 69),(ki 10)],none,[],[1],false⟩,
 rq 7 71 (.bC 1 4 [VZ] [(0,1,(.tm 68)),(1,1,(.tm 70)),(2,1,(ki 65535)),(3,1,(ki 0))]),
 ⟨9,(some 73),.call aD [(.tm 72),(ki 4)],none,[7],[1],false⟩,
 rq 10 74 (.idx 1 (.tm 71) (.tm 73)),
 RL 11 75 74,
 rq 12 76 (.bC 1 1 [VZ] [(0,1,(.tm 75))]),
 rq 13 77 (.append 1 (.tm 65) (.tm 76)),
 RF 14 78 5 5,
 rn 15 (.store 1 false (.tm 78) (.tm 77))] 16 [0,1,4,5,6])
 (.region [RF 0 79 6 5,
 ⟨1,(some 80),.load 1 false (.tm 79),none,[2,7],[],true⟩,
 rq 2 81 (.bC 1 5 [VZ] [(0,1,(ki 3)),(1,1,(ki 3)),(2,1,(ki 1)),(3,1,(ki 2)),(4,1,(ki 0))]),
 RM 3 82 0,
 ⟨4,(some 83),.call aD [(.tm 82),(ki 5)],none,[2],[1],false⟩,
 rq 5 84 (.idx 1 (.tm 81) (.tm 83)),
 RL 6 85 84,
 rq 7 86 (.bC 1 1 [VZ] [(0,1,(.tm 85))]),
 rq 8 87 (.append 1 (.tm 80) (.tm 86)),
 RF 9 88 6 5,
 rn 10 (.store 1 false (.tm 88) (.tm 87))] 11 [0,1,4,5,6])))
 (.region [RM 0 62 6,
 rq 1 63 (.bin .add (.tm 62) (ki 1)),
 RM 2 6 63] 3 [0,1,4,5,6]))))))
 .skip))
 (.seq (.seq (.region [RM 0 89 0,
 RM 1 90 1,
 rq 2 91 (.call kE [(.tm 89),(.tm 90)])] 3 [0,4,5,91])
 (.cond (.tm 91)
 (.seq (.region [RM 0 92 0,
 rq 1 93 (.call aD [(.tm 92),(ki 7)])] 2 [0,4,5,93])
 (.block 2
 (.seq (.region [rq 0 107 (.bin .eql (.tm 93) (ki 0)),
 RM 1 106 107] 2 [0,4,5,93,106])
 (.cond (.tm 106)
 (.region [rq 0 108 (.bC 1 2 [VZ] [(0,1,(.kv (.int .i64 (-1)))),(1,1,(ki 2))]),
 RM 1 109 0,
 rq 2 110 (.call aD [(.tm 109),(ki 2)]),
 rq 3 111 (.idx 1 (.tm 108) (.tm 110)),
 RL 4 112 111,
 RF 5 113 0 5,
 rn 6 (.store 1 false (.tm 113) (.tm 112))] 7 [4,5])
 (.seq (.region [rq 0 115 (.bin .eql (.tm 93) (ki 1)),
 RM 1 114 115] 2 [0,4,5,93,114])
 (.cond (.tm 114)
 (.region [rq 0 116 (.bC 1 2 [VZ] [(0,1,(ki 0)),(1,1,(ki 5))]),
 RM 1 117 0,
 rq 2 118 (.call aD [(.tm 117),(ki 2)]),
 rq 3 119 (.idx 1 (.tm 116) (.tm 118)),
 RL 4 120 119,
 RF 5 121 1 5,
 rn 6 (.store 1 false (.tm 121) (.tm 120))] 7 [4,5])
 (.seq (.region [rq 0 123 (.bin .eql (.tm 93) (ki 2)),
 RM 1 122 123] 2 [0,4,5,93,122])
 (.cond (.tm 122)
 (.region [rq 0 124 (.bC 1 3 [VZ] [(0,1,(.kv (.int .i64 (-1)))),(1,1,(ki 64)),(2,1,(ki 63))]),
 RM 1 125 0,
 rq 2 126 (.call aD [(.tm 125),(ki 3)]),
 rq 3 127 (.idx 1 (.tm 124) (.tm 126)),
 RL 4 128 127,
 RF 5 129 2 5,
 rn 6 (.store 1 false (.tm 129) (.tm 128))] 7 [4,5])
 (.seq (.region [rq 0 131 (.bin .eql (.tm 93) (ki 3)),
 RM 1 130 131] 2 [0,4,5,93,130])
 (.cond (.tm 130)
 (.region [rq 0 132 (.bC 1 4 [VZ] [(0,1,(ki 0)),(1,1,(ki 3)),(2,1,(ki 8)),(3,1,(ki 4))]),
 RM 1 133 0,
 rq 2 134 (.call aD [(.tm 133),(ki 4)]),
 rq 3 135 (.idx 1 (.tm 132) (.tm 134)),
 RL 4 136 135,
 RF 5 137 3 5,
 rn 6 (.store 1 false (.tm 137) (.tm 136))] 7 [4,5])
 (.seq (.region [rq 0 139 (.bin .eql (.tm 93) (ki 4)),
 RM 1 138 139] 2 [0,4,5,93,138])
 (.cond (.tm 138)
 (.region [RF 0 140 5 5,
 RL 1 141 140,
 rq 2 142 (.bC 1 1 [VZ] [(0,1,(ki 5))]),
 rq 3 143 (.append 1 (.tm 141) (.tm 142)),
 RF 4 144 5 5,
 rn 5 (.store 1 false (.tm 144) (.tm 143))] 6 [4,5])
 (.seq (.region [rq 0 146 (.bin .eql (.tm 93) (ki 5)),
 RM 1 145 146] 2 [0,4,5,145])
 (.cond (.tm 145)
 (.region [RF 0 147 6 5,
 RL 1 148 147,
 rq 2 149 (.bC 1 1 [VZ] [(0,1,(ki 1))]),
 rq 3 150 (.append 1 (.tm 148) (.tm 149)),
 RF 4 151 6 5,
 rn 5 (.store 1 false (.tm 151) (.tm 150))] 6 [4,5])
 (.seq (.region [RF 0 94 5 5,
 RL 1 95 94,
 rq 2 96 (.len false (.tm 95)),
 rq 3 97 (.bin .gtr (.tm 96) (ki 0))] 4 [0,4,5,97])
 (.cond (.tm 97)
 (.region [RF 0 98 5 5,
 ⟨1,(some 99),.load 1 false (.tm 98),none,[2],[],true⟩,
 rq 2 100 (.bC 1 2 [VZ] [(0,1,(.kv (.int .i64 (-1)))),(1,1,(ki 65536))]),
 RM 3 101 0,
 ⟨4,(some 102),.call aD [(.tm 101),(ki 2)],none,[2],[1],false⟩,
 rq 5 103 (.idx 1 (.tm 100) (.tm 102)),
 RL 6 104 103,
 rq 7 105 (.idx 1 (.tm 99) (ki 0)),
 rn 8 (.store 1 false (.tm 105) (.tm 104))] 9 [4,5])
 .skip))))))))))))))))
 .skip))
 (.seq (.region [rq 0 152 (.load 7 true (.tm 5)),
 rn 1 (.store 7 true (.tm 4) (.tm 152))] 2 [4])
 .ret)))))))
def S8:List Cert:=[⟨[],[0,1,4]⟩,⟨[cz 0,cz 2,cz 5,cz 7,cz 8,cz 12,cz 16,(1,[7,16],[],false),(3,[7,16],[],false),cz 4,(6,[7,16],[],false),(9,[7,16],[],false),cz 10,(11,[16],[],true),(13,[7,16],[11],false),cz 14,cz 15,cz 17],[0,1,4,5]⟩,⟨[],[0,1,4,5,25]⟩,⟨[],[0,1,4,5]⟩,⟨[],[0,1,4,5]⟩,⟨[],[0,1,4,5,44]⟩,⟨[],[0,1,4,5]⟩,⟨[],[0,1,4,5,57]⟩,⟨[],[0,1,4,5,6]⟩,⟨[],[0,1,4,5,6,61]⟩,⟨[cz 0,(1,[7,12],[],true),cz 2,cz 5,cz 8,(3,[],[1],false),cz 4,(6,[],[1],false),cz 7,(9,[7],[1],false),cz 10,cz 11,cz 12,cz 13,cz 14,cz 15],[0,1,4,5,6]⟩,⟨[cz 0,(1,[2,7],[],true),cz 2,cz 3,(4,[2],[1],false),cz 5,cz 6,cz 7,cz 8,cz 9,cz 10],[0,1,4,5,6]⟩,⟨[],[0,1,4,5,6]⟩,⟨[],[0,4,5,91]⟩,⟨[],[0,4,5,93]⟩,⟨[],[0,4,5,93,106]⟩,⟨[],[4,5]⟩,⟨[],[0,4,5,93,114]⟩,⟨[],[4,5]⟩,⟨[],[0,4,5,93,122]⟩,⟨[],[4,5]⟩,⟨[],[0,4,5,93,130]⟩,⟨[],[4,5]⟩,⟨[],[0,4,5,93,138]⟩,⟨[],[4,5]⟩,⟨[],[0,4,5,145]⟩,⟨[],[4,5]⟩,⟨[],[0,4,5,97]⟩,⟨[cz 0,(1,[2],[],true),cz 2,cz 3,(4,[2],[1],false),cz 5,cz 6,cz 7,cz 8],[4,5]⟩,⟨[],[4]⟩]
def E5:List aW:=[.cell 4 7 true]
theorem TG:aO Try.prog Try.f47 S8=some (xW,E5):=by kernel_rfl
theorem QN:aN Try.prog tS Try.f47 xW E5:=
 aN.mk Try.func47 (by kernel_rfl) TG
end Go.Proofs.Ytmccpdapaccnoaa
end
