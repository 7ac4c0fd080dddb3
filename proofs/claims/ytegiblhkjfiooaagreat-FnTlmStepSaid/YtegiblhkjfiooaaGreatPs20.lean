/- Texts laid together by a program: rules, contracts and the walk that leads to the law. -/
import Derived.Test.YtegiblhkjfiooaaGreatPs3
import Derived.Test.YtegiblhkjfiooaaGreatPs18
import Derived.Test.YtegiblhkjfiooaaGreatPs17
set_option linter.unusedVariables false
set_option linter.unusedSimpArgs false
set_option linter.unusedSectionVars false
section
namespace Go.Proofs.YtegiblhkjfiooaaGreat
open Go Go.AM
set_option maxRecDepth 100000
def aU8:AC:=
 (.seq (.region [rq 0 2 (.alloc [OZ,OZ,OZ]),
 rq 1 3 (.alloc [OZ,OZ,OZ,OZ,OZ,OZ]),
 rq 2 4 (.alloc [VZ,VZ,VZ])] 3 [0,2,3,4])
 (.seq (.region [RM 0 10 0,
 rq 1 11 (.call kN [(.tm 10)]),
 RM 2 5 11] 3 [2,3,4,5])
 (.seq (.region [RM 0 13 5,
 rq 1 14 (.call aNG [(.tm 13),(ki 40)]),
 RM 2 12 14,
 rq 3 15 (.ext (.tm 12) 0),
 rq 4 16 (.ext (.tm 12) 1),
 rq 5 17 (.ext (.tm 12) 2),
 rq 6 6 (.alloc [OZ,OZ,OZ]),
 rq 7 7 (.alloc [OZ,OZ,OZ,OZ,OZ,OZ]),
 rn 8 (.store 3 true (.tm 6) (.tm 15)),
 rn 9 (.store 6 true (.tm 7) (.tm 16)),
 RM 10 8 17] 11 [2,3,4,5,6,7])
 (.seq (.region [RM 0 18 5,
 rq 1 19 (.load 3 true (.tm 6)),
 rq 2 20 (.load 6 true (.tm 7)),
 rq 3 21 (.call b7 [(.tm 18),(.tm 19),(.tm 20)]),
 rq 4 9 (.alloc [VZ,VZ,VZ]),
 rn 5 (.store 3 true (.tm 9) (.tm 21))] 6 [2,3,4,5,6,7,9])
 (.seq (.seq (.region [RM 0 22 5,
 rq 1 23 (.call kE [(.tm 22),(ki 12)])] 2 [2,3,4,5,6,7,9,23])
 (.cond (.tm 23)
 (.region [RM 0 25 5,
 rq 1 26 (.call aVL [(.tm 25),(ki 1)]),
 RM 2 24 26,
 rq 3 27 (.ext (.tm 24) 0),
 rq 4 28 (.ext (.tm 24) 1),
 rn 5 (.store 3 true (.tm 6) (.tm 27)),
 rn 6 (.store 6 true (.tm 7) (.tm 28))] 7 [2,3,4,6,7,9])
 .skip))
 (.seq (.region [rq 0 29 (.load 3 true (.tm 6)),
 ⟨1,(some 30),.load 6 true (.tm 7),none,[],[],true⟩,
 ⟨2,(some 31),.load 3 true (.tm 9),none,[],[],true⟩,
 ⟨3,none,.store 3 true (.tm 2) (.tm 29),none,[],[1,2],false⟩,
 ⟨4,none,.store 6 true (.tm 3) (.tm 30),none,[],[2],false⟩,
 rn 5 (.store 3 true (.tm 4) (.tm 31))] 6 [2,3,4])
 .ret))))))
def aV0:List Cert:=[⟨[],[0,2,3,4]⟩,⟨[],[2,3,4,5]⟩,⟨[],[2,3,4,5,6,7]⟩,⟨[],[2,3,4,5,6,7,9]⟩,⟨[],[2,3,4,5,6,7,9,23]⟩,⟨[],[2,3,4,6,7,9]⟩,⟨[cz 0,(1,[],[],true),(2,[],[],true),(3,[],[1,2],false),(4,[],[2],false),cz 5],[2,3,4]⟩]
def aVM:List aW:=[.cell 2 3 true,.cell 3 6 true,.cell 4 3 true]
theorem aV2:aO Tryz.prog Tryz.f47 aV0=some (aU8,aVM):=by kernel_rfl
def aVI:AC:=
 (.seq (.region [rq 0 4 (.alloc [OZ,OZ,OZ]),
 rq 1 5 (.alloc [OZ,OZ,OZ,OZ,OZ,OZ])] 2 [0,1,4,5])
 (.seq (.region [RM 0 10 0,
 rq 1 11 (.call aNG [(.tm 10),(ki 40)]),
 RM 2 9 11,
 rq 3 12 (.ext (.tm 9) 0),
 rq 4 13 (.ext (.tm 9) 1),
 rq 5 14 (.ext (.tm 9) 2),
 rq 6 6 (.alloc [OZ,OZ,OZ]),
 rq 7 7 (.alloc [OZ,OZ,OZ,OZ,OZ,OZ]),
 rn 8 (.store 3 true (.tm 6) (.tm 12)),
 rn 9 (.store 6 true (.tm 7) (.tm 13)),
 RM 10 8 14] 11 [0,1,4,5,6,7])
 (.seq (.seq (.region [RM 0 15 0,
 RM 1 16 1,
 rq 2 17 (.call kE [(.tm 15),(.tm 16)])] 3 [0,4,5,6,7,17])
 (.cond (.tm 17)
 (.seq (.region [RM 0 18 0,
 rq 1 19 (.call aD [(.tm 18),(ki 7)])] 2 [0,4,5,6,7,19])
 (.block 0
 (.seq (.region [rq 0 23 (.bin .eql (.tm 19) (ki 0)),
 RM 1 22 23] 2 [0,4,5,6,7,19,22])
 (.cond (.tm 22)
 (.region [RM 0 24 0,
 rq 1 25 (.call aVK [(.tm 24),(ki 2)]),
 RF 2 26 0 7,
 rn 3 (.store 2 true (.tm 26) (.tm 25))] 4 [4,5,6,7])
 (.seq (.region [rq 0 28 (.bin .eql (.tm 19) (ki 1)),
 RM 1 27 28] 2 [0,4,5,6,7,19,27])
 (.cond (.tm 27)
 (.region [RF 0 29 2 7,
 ⟨1,(some 30),.load 1 false (.tm 29),none,[4],[],true⟩,
 RM 2 31 0,
 rq 4 33 (.bC 1 3 [VZ] [(0,1,(.kv (.int .i64 (-1)))),(1,1,(ki 13)),(2,1,(ki 1))]),
 RM 5 34 0,
 ⟨3,(some 32),.call aD [(.tm 31),(ki 3)],none,[4],[1],false⟩,
 ⟨6,(some 35),.call aD [(.tm 34),(ki 3)],none,[4],[1],false⟩,
 rq 7 36 (.idx 1 (.tm 33) (.tm 35)),
 RL 8 37 36,
 rq 9 38 (.idx 1 (.tm 30) (.tm 32)),
 rn 10 (.store 1 false (.tm 38) (.tm 37))] 11 [4,5,6,7])
 (.seq (.region [rq 0 40 (.bin .eql (.tm 19) (ki 2)),
 RM 1 39 40] 2 [0,4,5,6,7,19,39])
 (.cond (.tm 39)
 (.region [RF 0 41 3 7,
 ⟨1,(some 42),.load 1 false (.tm 41),none,[8],[],true⟩,
 RM 2 43 0,
 RM 5 46 0,
 ⟨3,(some 44),.call aD [(.tm 43),(ki 4)],none,[],[1],false⟩,
 rq 4 45 (.bin .sub (.tm 44) (ki 1)),
 ⟨6,(some 47),.call aD [(.tm 46),(ki 4)],none,[],[1],false⟩,
 rq 7 48 (.build [VZ,VZ,VZ,VZ,OZ] [(0,1,(.tm 45)),(1,1,(.tm 47))]),
 rq 8 49 (.bC 5 1 [VZ,VZ,VZ,VZ,OZ] [(0,5,(.tm 48))]),
 rq 9 50 (.append 5 (.tm 42) (.tm 49)),
 RF 10 51 3 7,
 rn 11 (.store 1 false (.tm 51) (.tm 50))] 12 [4,5,6,7])
 (.seq (.region [rq 0 53 (.bin .eql (.tm 19) (ki 3)),
 RM 1 52 53] 2 [0,4,5,6,7,19,52])
 (.cond (.tm 52)
 (.region [RF 0 54 4 7,
 ⟨1,(some 55),.load 1 false (.tm 54),none,[10],[],true⟩,
 RM 2 56 0,
 RM 5 59 0,
 RM 7 61 0,
 ⟨3,(some 57),.call aD [(.tm 56),(ki 4)],none,[],[1],false⟩,
 rq 4 58 (.bin .sub (.tm 57) (ki 1)),
 ⟨6,(some 60),.call aD [(.tm 59),(ki 4)],none,[],[1],false⟩,
 ⟨8,(some 62),.call aVA [(.tm 61),(ki 3)],none,[],[1],false⟩,
 rq 9 63 (.build [VZ,VZ,VZ,VZ,OZ] [(0,1,(.tm 58)),(1,1,(.tm 60)),(2,3,(.tm 62))]),
 rq 10 64 (.bC 5 1 [VZ,VZ,VZ,VZ,OZ] [(0,5,(.tm 63))]),
 rq 11 65 (.append 5 (.tm 55) (.tm 64)),
 RF 12 66 4 7,
 rn 13 (.store 1 false (.tm 66) (.tm 65))] 14 [4,5,6,7])
 (.seq (.region [rq 0 68 (.bin .eql (.tm 19) (ki 4)),
 RM 1 67 68] 2 [0,4,5,6,7,19,67])
 (.cond (.tm 67)
 (.region [RF 0 69 5 7,
 ⟨1,(some 70),.load 1 false (.tm 69),none,[10],[],true⟩,
 RM 2 71 0,
 RM 5 74 0,
 RM 7 76 0,
 ⟨3,(some 72),.call aD [(.tm 71),(ki 4)],none,[],[1],false⟩,
 rq 4 73 (.bin .sub (.tm 72) (ki 1)),
 ⟨6,(some 75),.call aD [(.tm 74),(ki 4)],none,[],[1],false⟩,
 ⟨8,(some 77),.call aVA [(.tm 76),(ki 3)],none,[],[1],false⟩,
 rq 9 78 (.build [VZ,VZ,VZ,VZ,OZ] [(0,1,(.tm 73)),(1,1,(.tm 75)),(2,3,(.tm 77))]),
 rq 10 79 (.bC 5 1 [VZ,VZ,VZ,VZ,OZ] [(0,5,(.tm 78))]),
 rq 11 80 (.append 5 (.tm 70) (.tm 79)),
 RF 12 81 5 7,
 rn 13 (.store 1 false (.tm 81) (.tm 80))] 14 [4,5,6,7])
 (.seq (.region [rq 0 83 (.bin .eql (.tm 19) (ki 5)),
 RM 1 82 83] 2 [0,4,5,6,7,82])
 (.cond (.tm 82)
 (.region [RF 0 84 2 7,
 RL 1 85 84,
 rq 2 86 (.slc 1 (.tm 85) (some (ki 1)) none none),
 RF 3 87 2 7,
 rn 4 (.store 1 false (.tm 87) (.tm 86))] 5 [4,5,6,7])
 (.region [RM 0 20 0,
 rq 1 21 (.call aNJ [(.tm 20),(ki 1)]),
 rn 2 (.store 3 true (.tm 6) (.tm 21))] 3 [4,5,6,7])))))))))))))))
 .skip))
 (.seq (.region [rq 0 88 (.load 3 true (.tm 6)),
 ⟨1,(some 89),.load 6 true (.tm 7),none,[],[],true⟩,
 ⟨2,none,.store 3 true (.tm 4) (.tm 88),none,[],[1],false⟩,
 rn 3 (.store 6 true (.tm 5) (.tm 89))] 4 [4,5])
 .ret))))
def aWC:List Cert:=[⟨[],[0,1,4,5]⟩,⟨[],[0,1,4,5,6,7]⟩,⟨[],[0,4,5,6,7,17]⟩,⟨[],[0,4,5,6,7,19]⟩,⟨[],[0,4,5,6,7,19,22]⟩,⟨[],[4,5,6,7]⟩,⟨[],[0,4,5,6,7,19,27]⟩,⟨[cz 0,(1,[4],[],true),cz 2,cz 4,cz 5,(3,[4],[1],false),(6,[4],[1],false),cz 7,cz 8,cz 9,cz 10],[4,5,6,7]⟩,⟨[],[0,4,5,6,7,19,39]⟩,⟨[cz 0,(1,[8],[],true),cz 2,cz 5,(3,[],[1],false),cz 4,(6,[],[1],false),cz 7,cz 8,cz 9,cz 10,cz 11],[4,5,6,7]⟩,⟨[],[0,4,5,6,7,19,52]⟩,⟨[cz 0,(1,[10],[],true),cz 2,cz 5,cz 7,(3,[],[1],false),cz 4,(6,[],[1],false),(8,[],[1],false),cz 9,cz 10,cz 11,cz 12,cz 13],[4,5,6,7]⟩,⟨[],[0,4,5,6,7,19,67]⟩,⟨[cz 0,(1,[10],[],true),cz 2,cz 5,cz 7,(3,[],[1],false),cz 4,(6,[],[1],false),(8,[],[1],false),cz 9,cz 10,cz 11,cz 12,cz 13],[4,5,6,7]⟩,⟨[],[0,4,5,6,7,82]⟩,⟨[],[4,5,6,7]⟩,⟨[],[4,5,6,7]⟩,⟨[cz 0,(1,[],[],true),(2,[],[1],false),cz 3],[4,5]⟩]
def aVR:List aW:=[.cell 4 3 true,.cell 5 6 true]
theorem aWB:aO Tryz.prog Tryz.f98 aWC=some (aVI,aVR):=by kernel_rfl
def at4:AC:=
 (.seq (.region [rq 0 4 (.alloc [OZ,OZ,OZ])] 1 [0,1,4])
 (.seq (.region [RM 0 6 0,
 rq 1 7 (.call lJ [(.tm 6),(ki 6)]),
 rq 2 5 (.alloc [OZ,OZ,OZ]),
 rn 3 (.store 3 true (.tm 5) (.tm 7))] 4 [0,1,4,5])
 (.seq (.seq (.region [RM 0 8 0,
 RM 1 9 1,
 rq 2 10 (.call kE [(.tm 8),(.tm 9)])] 3 [0,4,5,10])
 (.cond (.tm 10)
 (.seq (.region [RM 0 11 0,
 rq 1 12 (.call aD [(.tm 11),(ki 5)])] 2 [0,4,5,12])
 (.block 0
 (.seq (.region [rq 0 25 (.bin .eql (.tm 12) (ki 0)),
 RM 1 24 25] 2 [0,4,5,12,24])
 (.cond (.tm 24)
 (.region [RM 0 26 0,
 rq 1 27 (.call tN [(.tm 26),(ki 1)]),
 RF 2 28 0 5,
 rn 3 (.store 1 false (.tm 28) (.tm 27))] 4 [4,5])
 (.seq (.region [rq 0 30 (.bin .eql (.tm 12) (ki 1)),
 RM 1 29 30] 2 [0,4,5,12,29])
 (.cond (.tm 29)
 (.region [RF 0 31 1 5,
 ⟨1,(some 32),.load 1 false (.tm 31),none,[4],[],true⟩,
 RM 2 33 0,
 rq 4 35 (.bC 1 2 [VZ] [(0,1,(.kv (.int .i64 (-1)))),(1,1,(ki 4))]),
 RM 5 36 0,
 ⟨3,(some 34),.call aD [(.tm 33),(ki 4)],none,[4],[1],false⟩,
 ⟨6,(some 37),.call aD [(.tm 36),(ki 2)],none,[4],[1],false⟩,
 rq 7 38 (.idx 1 (.tm 35) (.tm 37)),
 RL 8 39 38,
 rq 9 40 (.idx 1 (.tm 32) (.tm 34)),
 rn 10 (.store 1 false (.tm 40) (.tm 39))] 11 [4,5])
 (.seq (.region [rq 0 42 (.bin .eql (.tm 12) (ki 2)),
 RM 1 41 42] 2 [0,4,5,12,41])
 (.cond (.tm 41)
 (.region [RF 0 43 1 5,
 RL 1 44 43,
 rq 2 45 (.slc 1 (.tm 44) (some (ki 1)) none none),
 RF 3 46 1 5,
 rn 4 (.store 1 false (.tm 46) (.tm 45))] 5 [4,5])
 (.seq (.region [rq 0 48 (.bin .eql (.tm 12) (ki 3)),
 RM 1 47 48] 2 [0,4,5,47])
 (.cond (.tm 47)
 (.region [RF 0 49 2 5,
 RL 1 50 49,
 rq 2 51 (.slc 1 (.tm 50) (some (ki 1)) none none),
 RF 3 52 2 5,
 rn 4 (.store 1 false (.tm 52) (.tm 51))] 5 [4,5])
 (.region [RF 0 13 2 5,
 ⟨1,(some 14),.load 1 false (.tm 13),none,[8],[],true⟩,
 RF 2 15 2 5,
 ⟨3,(some 16),.load 1 false (.tm 15),none,[8],[],true⟩,
 rq 4 17 (.idx 1 (.tm 16) (ki 0)),
 ⟨5,(some 18),.load 1 false (.tm 17),none,[8],[],true⟩,
 RM 6 19 0,
 ⟨7,(some 20),.call tS [(.tm 19),(ki 1)],none,[],[1,3,5],false⟩,
 rq 8 21 (.bC 7 1 [VZ,VZ,VZ,VZ,(.v (.bool false)),OZ,OZ] [(0,7,(.tm 20))]),
 ⟨9,(some 22),.append 7 (.tm 18) (.tm 21),none,[],[1],false⟩,
 rq 10 23 (.idx 1 (.tm 14) (ki 0)),
 rn 11 (.store 1 false (.tm 23) (.tm 22))] 12 [4,5])))))))))))
 .skip))
 (.seq (.region [rq 0 53 (.load 3 true (.tm 5)),
 rn 1 (.store 3 true (.tm 4) (.tm 53))] 2 [4])
 .ret))))
def aPU:List Cert:=[⟨[],[0,1,4]⟩,⟨[],[0,1,4,5]⟩,⟨[],[0,4,5,10]⟩,⟨[],[0,4,5,12]⟩,⟨[],[0,4,5,12,24]⟩,⟨[],[4,5]⟩,⟨[],[0,4,5,12,29]⟩,⟨[cz 0,(1,[4],[],true),cz 2,cz 4,cz 5,(3,[4],[1],false),(6,[4],[1],false),cz 7,cz 8,cz 9,cz 10],[4,5]⟩,⟨[],[0,4,5,12,41]⟩,⟨[],[4,5]⟩,⟨[],[0,4,5,47]⟩,⟨[],[4,5]⟩,⟨[cz 0,(1,[8],[],true),cz 2,(3,[8],[],true),cz 4,(5,[8],[],true),cz 6,(7,[],[1,3,5],false),cz 8,(9,[],[1],false),cz 10,cz 11],[4,5]⟩,⟨[],[4]⟩]
def aOA:List aW:=[.cell 4 3 true]
theorem aPQ:aO Tryz.prog Tryz.f105 aPU=some (at4,aOA):=by kernel_rfl
def aVO:AC:=
 (.seq (.region [rq 0 4 (.alloc [OZ,OZ])] 1 [0,1,4])
 (.seq (.region [rq 0 7 (.call v7 []),
 rq 1 5 (.alloc [OZ,OZ]),
 rn 2 (.store 2 true (.tm 5) (.tm 7))] 3 [0,1,4,5])
 (.seq (.region [RM 0 8 0,
 rq 1 9 (.call aU9 [(.tm 8),(ki 99999)]),
 RF 2 10 0 5,
 rn 3 (.store 1 true (.tm 10) (.tm 9))] 4 [0,1,4,5])
 (.seq (.seq (.region [rq 0 6 (.move (ki 0))] 1 [0,1,4,5,6])
 (.block 0
 (.loop
 (.seq (.seq (.region [RM 0 11 6,
 RF 1 12 1 5,
 RL 2 13 12,
 rq 3 14 (.len false (.tm 13)),
 rq 4 15 (.bin .lss (.tm 11) (.tm 14))] 5 [0,1,4,5,6,15])
 (.cond (.tm 15)
 .skip
 (.exit 0)))
 (.seq (.block 1
 (.region [RF 0 18 1 5,
 ⟨1,(some 19),.load 1 false (.tm 18),none,[3],[],true⟩,
 RM 2 20 6,
 rq 3 21 (.bC 1 5 [VZ] [(0,1,(.kv (.int .i64 (-1)))),(1,1,(ki 0)),(2,1,(ki 1)),(3,1,(ki 16)),(4,1,(ki 32))]),
 RM 4 22 0,
 ⟨5,(some 23),.call aD [(.tm 22),(ki 5)],none,[3],[1],false⟩,
 rq 6 24 (.idx 1 (.tm 21) (.tm 23)),
 RL 7 25 24,
 rq 8 26 (.idx 1 (.tm 19) (.tm 20)),
 rn 9 (.store 1 false (.tm 26) (.tm 25))] 10 [0,1,4,5,6]))
 (.region [RM 0 16 6,
 rq 1 17 (.bin .add (.tm 16) (ki 1)),
 RM 2 6 17] 3 [0,1,4,5,6]))))))
 (.seq (.seq (.region [RM 0 27 0,
 RM 1 28 1,
 rq 2 29 (.call kE [(.tm 27),(.tm 28)])] 3 [0,4,5,29])
 (.cond (.tm 29)
 (.seq (.region [RM 0 30 0,
 rq 1 31 (.call aD [(.tm 30),(ki 3)])] 2 [0,4,5,31])
 (.block 2
 (.seq (.region [rq 0 41 (.bin .eql (.tm 31) (ki 0)),
 RM 1 40 41] 2 [0,4,5,31,40])
 (.cond (.tm 40)
 (.region [RM 0 42 0,
 rq 1 43 (.call aU9 [(.tm 42),(ki 1)]),
 RF 2 44 0 5,
 rn 3 (.store 1 true (.tm 44) (.tm 43))] 4 [4,5])
 (.seq (.region [rq 0 46 (.bin .eql (.tm 31) (ki 1)),
 RM 1 45 46] 2 [0,4,5,45])
 (.cond (.tm 45)
 (.region [RF 0 47 1 5,
 RL 1 48 47,
 rq 2 49 (.slc 1 (.tm 48) (some (ki 1)) none none),
 RF 3 50 1 5,
 rn 4 (.store 1 false (.tm 50) (.tm 49))] 5 [4,5])
 (.region [RF 0 32 1 5,
 ⟨1,(some 33),.load 1 false (.tm 32),none,[2],[],true⟩,
 rq 2 34 (.bC 1 2 [VZ] [(0,1,(.kv (.int .i64 (-2)))),(1,1,(ki 64))]),
 RM 3 35 0,
 ⟨4,(some 36),.call aD [(.tm 35),(ki 2)],none,[2],[1],false⟩,
 rq 5 37 (.idx 1 (.tm 34) (.tm 36)),
 RL 6 38 37,
 rq 7 39 (.idx 1 (.tm 33) (ki 0)),
 rn 8 (.store 1 false (.tm 39) (.tm 38))] 9 [4,5])))))))
 .skip))
 (.seq (.region [rq 0 51 (.load 2 true (.tm 5)),
 rn 1 (.store 2 true (.tm 4) (.tm 51))] 2 [4])
 .ret))))))
def aWO:List Cert:=[⟨[],[0,1,4]⟩,⟨[],[0,1,4,5]⟩,⟨[],[0,1,4,5]⟩,⟨[],[0,1,4,5,6]⟩,⟨[],[0,1,4,5,6,15]⟩,⟨[cz 0,(1,[3],[],true),cz 2,cz 3,cz 4,(5,[3],[1],false),cz 6,cz 7,cz 8,cz 9],[0,1,4,5,6]⟩,⟨[],[0,1,4,5,6]⟩,⟨[],[0,4,5,29]⟩,⟨[],[0,4,5,31]⟩,⟨[],[0,4,5,31,40]⟩,⟨[],[4,5]⟩,⟨[],[0,4,5,45]⟩,⟨[],[4,5]⟩,⟨[cz 0,(1,[2],[],true),cz 2,cz 3,(4,[2],[1],false),cz 5,cz 6,cz 7,cz 8],[4,5]⟩,⟨[],[4]⟩]
def aVE:List aW:=[.cell 4 2 true]
theorem aWX:aO Tryz.prog Tryz.f166 aWO=some (aVO,aVE):=by kernel_rfl
theorem aWW:aN Tryz.prog aVK Tryz.f166 aVO aVE:=
 aN.mk Tryz.func166 (by kernel_rfl) aWX
def aVP:AC:=
 (.seq (.region [rq 0 4 (.alloc [VZ,VZ,OZ])] 1 [0,1,4])
 (.seq (.region [RM 0 7 0,
 rq 1 8 (.call aD [(.tm 7),(ki 2)]),
 RM 2 9 0,
 rq 3 10 (.call aD [(.tm 9),(ki 4)]),
 rq 4 11 (.bin .add (ki 1) (.tm 10)),
 rq 5 12 (.build [VZ,VZ,OZ] [(0,1,(.tm 8)),(1,1,(.tm 11))]),
 rq 6 5 (.alloc [VZ,VZ,OZ]),
 rn 7 (.store 3 true (.tm 5) (.tm 12))] 8 [0,1,4,5])
 (.seq (.seq (.region [RM 0 13 0,
 rq 1 14 (.call aD [(.tm 13),(ki 5)]),
 RM 2 6 14] 3 [0,1,4,5,6])
 (.block 0
 (.loop
 (.seq (.seq (.region [RM 0 15 6,
 rq 1 16 (.bin .gtr (.tm 15) (ki 0))] 2 [0,1,4,5,6,16])
 (.cond (.tm 16)
 .skip
 (.exit 0)))
 (.seq (.block 1
 (.region [RF 0 19 2 5,
 ⟨1,(some 20),.load 1 false (.tm 19),none,[4],[],true⟩,
 RM 2 21 0,
 ⟨3,(some 22),.call aD [(.tm 21),(ki 300)],none,[],[1],false⟩,
 rq 4 23 (.bC 1 1 [VZ] [(0,1,(.tm 22))]),
 rq 5 24 (.append 1 (.tm 20) (.tm 23)),
 RF 6 25 2 5,
 rn 7 (.store 1 false (.tm 25) (.tm 24))] 8 [0,1,4,5,6]))
 (.region [RM 0 17 6,
 rq 1 18 (.bin .sub (.tm 17) (ki 1)),
 RM 2 6 18] 3 [0,1,4,5,6]))))))
 (.seq (.seq (.region [RM 0 26 0,
 RM 1 27 1,
 rq 2 28 (.call kE [(.tm 26),(.tm 27)])] 3 [0,4,5,28])
 (.cond (.tm 28)
 (.seq (.region [RM 0 29 0,
 rq 1 30 (.call aD [(.tm 29),(ki 4)])] 2 [0,4,5,30])
 (.block 2
 (.seq (.region [rq 0 34 (.bin .eql (.tm 30) (ki 0)),
 RM 1 33 34] 2 [0,4,5,30,33])
 (.cond (.tm 33)
 (.region [rq 0 35 (.bC 1 2 [VZ] [(0,1,(.kv (.int .i64 (-1)))),(1,1,(ki 2))]),
 RM 1 36 0,
 rq 2 37 (.call aD [(.tm 36),(ki 2)]),
 rq 3 38 (.idx 1 (.tm 35) (.tm 37)),
 RL 4 39 38,
 RF 5 40 0 5,
 rn 6 (.store 1 false (.tm 40) (.tm 39))] 7 [4,5])
 (.seq (.region [rq 0 42 (.bin .eql (.tm 30) (ki 1)),
 RM 1 41 42] 2 [0,4,5,30,41])
 (.cond (.tm 41)
 (.region [rq 0 43 (.bC 1 2 [VZ] [(0,1,(ki 0)),(1,1,(ki 5))]),
 RM 1 44 0,
 rq 2 45 (.call aD [(.tm 44),(ki 2)]),
 rq 3 46 (.idx 1 (.tm 43) (.tm 45)),
 RL 4 47 46,
 RF 5 48 1 5,
 rn 6 (.store 1 false (.tm 48) (.tm 47))] 7 [4,5])
 (.seq (.region [rq 0 50 (.bin .eql (.tm 30) (ki 2)),
 RM 1 49 50] 2 [4,5,49])
 (.cond (.tm 49)
 (.region [rq 0 51 (.bC 1 1 [VZ] [(0,1,(.kv (.int .i64 (-1))))]),
 RF 1 52 2 5,
 rn 2 (.store 1 false (.tm 52) (.tm 51))] 3 [4,5])
 (.region [rq 0 31 (.bC 1 5 [VZ] [(0,1,(ki 1)),(1,1,(ki 2)),(2,1,(ki 3)),(3,1,(ki 4)),(4,1,(ki 5))]),
 RF 1 32 2 5,
 rn 2 (.store 1 false (.tm 32) (.tm 31))] 3 [4,5])))))))))
 .skip))
 (.seq (.region [rq 0 53 (.load 3 true (.tm 5)),
 rn 1 (.store 3 true (.tm 4) (.tm 53))] 2 [4])
 .ret)))))
def aWY:List Cert:=[⟨[],[0,1,4]⟩,⟨[],[0,1,4,5]⟩,⟨[],[0,1,4,5,6]⟩,⟨[],[0,1,4,5,6,16]⟩,⟨[cz 0,(1,[4],[],true),cz 2,(3,[],[1],false),cz 4,cz 5,cz 6,cz 7],[0,1,4,5,6]⟩,⟨[],[0,1,4,5,6]⟩,⟨[],[0,4,5,28]⟩,⟨[],[0,4,5,30]⟩,⟨[],[0,4,5,30,33]⟩,⟨[],[4,5]⟩,⟨[],[0,4,5,30,41]⟩,⟨[],[4,5]⟩,⟨[],[4,5,49]⟩,⟨[],[4,5]⟩,⟨[],[4,5]⟩,⟨[],[4]⟩]
def aVF:List aW:=[.cell 4 3 true]
theorem aW3:aO Tryz.prog Tryz.f167 aWY=some (aVP,aVF):=by kernel_rfl
theorem aW2:aN Tryz.prog aVA Tryz.f167 aVP aVF:=
 aN.mk Tryz.func167 (by kernel_rfl) aW3
def aVN:AC:=
 (.seq (.region [rq 0 4 (.alloc [OZ])] 1 [0,1,4])
 (.seq (.region [rq 0 7 (.call v8 []),
 rq 1 5 (.alloc [OZ]),
 rn 2 (.store 1 true (.tm 5) (.tm 7))] 3 [0,1,4,5])
 (.seq (.seq (.region [RM 0 8 0,
 rq 1 9 (.call aD [(.tm 8),(ki 8)]),
 RM 2 6 9] 3 [0,1,4,5,6])
 (.block 0
 (.loop
 (.seq (.seq (.region [RM 0 10 6,
 rq 1 11 (.bin .gtr (.tm 10) (ki 0))] 2 [0,1,4,5,6,11])
 (.cond (.tm 11)
 .skip
 (.exit 0)))
 (.seq (.block 1
 (.region [RF 0 14 0 5,
 ⟨1,(some 15),.load 1 false (.tm 14),none,[],[],true⟩,
 RM 2 16 0,
 RM 4 18 0,
 ⟨3,(some 17),.call qM [(.tm 16)],none,[],[1],false⟩,
 ⟨5,(some 19),.call aD [(.tm 18),(ki 256)],none,[],[1],false⟩,
 rq 6 20 (.bin .mul (.tm 19) (ki 257)),
 rq 7 21 (.idx 1 (.tm 15) (.tm 17)),
 rn 8 (.store 1 false (.tm 21) (.tm 20))] 9 [0,1,4,5,6]))
 (.region [RM 0 12 6,
 rq 1 13 (.bin .sub (.tm 12) (ki 1)),
 RM 2 6 13] 3 [0,1,4,5,6]))))))
 (.seq (.seq (.region [RM 0 22 0,
 RM 1 23 1,
 rq 2 24 (.call kE [(.tm 22),(.tm 23)])] 3 [0,4,5,24])
 (.cond (.tm 24)
 (.seq (.region [RM 0 25 0,
 rq 1 26 (.call aD [(.tm 25),(ki 3)])] 2 [0,4,5,26])
 (.block 2
 (.seq (.region [rq 0 33 (.bin .eql (.tm 26) (ki 0)),
 RM 1 32 33] 2 [0,4,5,26,32])
 (.cond (.tm 32)
 (.region [RF 0 34 0 5,
 RL 1 35 34,
 rq 2 36 (.slc 1 (.tm 35) (some (ki 1)) none none),
 RF 3 37 0 5,
 rn 4 (.store 1 false (.tm 37) (.tm 36))] 5 [4,5])
 (.seq (.region [rq 0 39 (.bin .eql (.tm 26) (ki 1)),
 RM 1 38 39] 2 [0,4,5,38])
 (.cond (.tm 38)
 (.region [RF 0 40 0 5,
 ⟨1,(some 41),.load 1 false (.tm 40),none,[4],[],true⟩,
 RM 2 42 0,
 rq 4 44 (.bC 1 2 [VZ] [(0,1,(.kv (.int .i64 (-1)))),(1,1,(ki 65536))]),
 RM 5 45 0,
 ⟨3,(some 43),.call aD [(.tm 42),(ki 64)],none,[4],[1],false⟩,
 ⟨6,(some 46),.call aD [(.tm 45),(ki 2)],none,[4],[1],false⟩,
 rq 7 47 (.idx 1 (.tm 44) (.tm 46)),
 RL 8 48 47,
 rq 9 49 (.idx 1 (.tm 41) (.tm 43)),
 rn 10 (.store 1 false (.tm 49) (.tm 48))] 11 [4,5])
 (.region [RF 0 27 0 5,
 RL 1 28 27,
 rq 2 29 (.bC 1 1 [VZ] [(0,1,(ki 0))]),
 rq 3 30 (.append 1 (.tm 28) (.tm 29)),
 RF 4 31 0 5,
 rn 5 (.store 1 false (.tm 31) (.tm 30))] 6 [4,5])))))))
 .skip))
 (.seq (.region [rq 0 50 (.load 1 true (.tm 5)),
 rn 1 (.store 1 true (.tm 4) (.tm 50))] 2 [4])
 .ret)))))
def aWV:List Cert:=[⟨[],[0,1,4]⟩,⟨[],[0,1,4,5]⟩,⟨[],[0,1,4,5,6]⟩,⟨[],[0,1,4,5,6,11]⟩,⟨[cz 0,(1,[],[],true),cz 2,cz 4,(3,[],[1],false),(5,[],[1],false),cz 6,cz 7,cz 8],[0,1,4,5,6]⟩,⟨[],[0,1,4,5,6]⟩,⟨[],[0,4,5,24]⟩,⟨[],[0,4,5,26]⟩,⟨[],[0,4,5,26,32]⟩,⟨[],[4,5]⟩,⟨[],[0,4,5,38]⟩,⟨[cz 0,(1,[4],[],true),cz 2,cz 4,cz 5,(3,[4],[1],false),(6,[4],[1],false),cz 7,cz 8,cz 9,cz 10],[4,5]⟩,⟨[],[4,5]⟩,⟨[],[4]⟩]
def aVH:List aW:=[.cell 4 1 true]
theorem aWP:aO Tryz.prog Tryz.f222 aWV=some (aVN,aVH):=by kernel_rfl
theorem aWR:aN Tryz.prog aU9 Tryz.f222 aVN aVH:=
 aN.mk Tryz.func222 (by kernel_rfl) aWP
end Go.Proofs.YtegiblhkjfiooaaGreat
end
section
namespace Go.Proofs.YtegiblhkjfiooaaGreat
open Go Go.AM
set_option maxRecDepth 100000
set_option maxHeartbeats 16000000
section
variable {H : aA} {nx : Nat} {K : D → aA → Nat → Prop}
theorem aPB {l:List Int} {p:Nat} {Q:AQ} (hQ: ∀ex e2 H2 nx2 d nh d2 H3 F σ,ex=AEx.normal∨ex=AEx.ret→yT H2 e2 GO=some d→CvR 1 d H2 nh d2 H3 F σ→(nh=1∧ ∃o',H3=hp [(0,o')]∧C7 o'∧ ∃(p':Nat) (m:List Rng),o'=rdO l p'∧p≤p'∧p'≤p+20∧d2=dS (m.map eN)∧(m.length≤8))→Q ex e2 H2 nx2)
 {e2:Env} {H2:aA} {nx2 b n cap ext p':Nat} {rows:List (List D1)} {m:List Rng} (h1:yT H2 e2 GO=some (.one (.c (.osl 4 b 0 n cap)))) (h2:H2 0=some (rdO l p')) (h3:H2 b=some ⟨4,ext,rows⟩) (h4:p≤p') (h5:p'≤p+20) (h6:rows.take n=m.map eN) (h7:m.length≤8∧n≤cap∧b≠0∧n≤rows.length):Q .ret e2 H2 nx2:=by
 obtain⟨h7,h8,h9,h10⟩:=h7
 have hn:n=(m.map eN).length:=by rw[←h6];simp;omega
 exact lA hQ (dS (m.map eN)) _ _ h1 (DJ (rows:=m.map eN) (aG K3 _) hn h9 h3 rfl (by rw[←hn];exact h6) (by omega)) h2 (aV _ _) ⟨p',m,rfl,h4,h5,rfl,h7⟩
theorem aPJ (l:List Int) (p:Nat) (n:Int) (hn:0<n∧n<9000) (hl:kZ l) (hp50:p+1<2^50):aB Tryz.prog kE [dP 2 0,dI n] (hp [(0,rdO l p)]) 1
 fun rr H' n'=>n'=1∧ ∃o',H'=hp [(0,o')]∧C7 o'∧ ∃(p':Nat) (b:Bool),o'=rdO l p'∧p≤p'∧p'≤p+1∧rr=dB b∧(True):=by
 refine LF rfl fun Q hQ=> ?_
 unfold rH
 repeat' (first| (with_reducible first| (refine hK _ _ _ ?_;clear hK K)|refine Z1 ?_)| (first| (with_reducible first|refine Y2 fun K hK=> ?_|refine Y4 (by omega) ?_)| (refine aX hl (by omega) (by omega) (by omega) rfl (fun x h1 h2=> ?_)))<;>(simp only[go_sem];try simp (disch:=omega) only[Iw])| ((with_reducible refine Y8 ?_);try simp only[AQ.then,AQ.blk,reduceIte,Nat.reduceEqDiff])|fail)
 exact lA hQ (dB _) _ _ rfl (aE rfl) rfl (aV _ _) ⟨_,_,rfl,by omega,by omega,rfl,trivial⟩
theorem d6 {l:List Int} {p i:Nat} {n:Int} (hn:0<n∧n<9000) (hl:kZ l) (hp50:p+1<2^50) (hi:i<nx) (ho:H i=some (rdO l p)) (h: ∀(p':Nat) (b:Bool),p≤p'→p'≤p+1→(True)→K (dB b) (H.set i (rdO l p')) nx):
 aB Tryz.prog kE [dP 2 i,dI n] H nx K:=
 (aPJ l p n hn hl hp50).OU i rfl (gW ⟨DG (by omega) rfl,aE rfl,trivial⟩) hi ho (aV l p) fun r o' ⟨p',b,h1,h2,h3,h4,h5⟩=>by
  subst h1;subst h4;exact EW (A:=fun d=>K d (H.set i (rdO l p')) nx) rfl (h p' b h2 h3 h5)
theorem aQP (l:List Int) (p:Nat) (hl:kZ l) (hp50:p+20<2^50):aB Tryz.prog tN [dP 2 0,dI 1] (hp [(0,rdO l p)]) 1
 fun rr H' n'=>n'=1∧ ∃o',H'=hp [(0,o')]∧C7 o'∧ ∃(p':Nat) (m:List Rng),o'=rdO l p'∧p≤p'∧p'≤p+20∧rr=dS (m.map eN)∧(m.length≤8):=by
 refine RN rfl fun Q hQ=> ?_
 unfold w9
 repeat' (first| (with_reducible first| (refine hK _ _ _ ?_;clear hK K)| (refine hA ?_;clear hA hB A B)| (refine hB ?_;clear hA hB A B)|refine Z1 ?_|refine Z2 ?_|refine Z3 fun KB hKB=> ?_|refine Z6 (fun h=> ?_) fun h=> ?_)| (first| (with_reducible first|refine Y2 fun K hK=> ?_|refine Y3 fun A B hA hB=> ?_)| (refine aX hl (by omega) (by omega) (by omega) rfl (fun x h1 h2=> ?_)))<;>(simp only[go_sem];try simp (disch:=omega) only[Iw])| ((with_reducible refine Y0 ?_);simp only[AQ.then,AQ.blk])|refine⟨by omega,?_⟩| (with_reducible refine hKB _ _ _ ?_)|fail)
 case' refine_2.refine_1=>(have hx:x=0∨x=1∨x=2:=by omega);rcases hx with rfl|rfl|rfl
 all_goals (refine(fun(h: ∀b:Bool,_)=>d6 (n:=1) (by omega) hl (by omega) (by omega) rfl (fun p1 b hp1 hp2 _=> ?_)) (fun _=>trivial);cases b)
 all_goals (simp only[go_sem];refine hK _ _ _ ?_;clear hK K)
 all_goals repeat' (first| (with_reducible first| (refine hK _ _ _ ?_;clear hK K)| (refine hA ?_;clear hA hB A B)| (refine hB ?_;clear hA hB A B)|refine Z1 ?_|refine Z2 ?_)| (with_reducible first|refine Y2 fun K hK=> ?_|refine Y3 fun A B hA hB=> ?_)<;>(simp only[go_sem])| ((with_reducible refine Y8 ?_);try simp only[AQ.then,AQ.blk,reduceIte,Nat.reduceEqDiff])|fail)
 all_goals first
  | (refine aX hl (by omega) (by omega) (by omega) rfl (fun k hk1 hk2=> ?_)
     have hk:k=0∨k=1∨k=2∨k=3:=by omega
     rcases hk with rfl|rfl|rfl|rfl
     all_goals first| (exfalso;omega)| (simp only[go_sem];refine hK _ _ _ ?_;clear hK K))
  |skip
 all_goals try repeat' (first| (with_reducible first| (refine hK _ _ _ ?_;clear hK K)| (refine hA ?_;clear hA hB A B)| (refine hB ?_;clear hA hB A B)|refine Z1 ?_|refine Z3 fun KB hKB=> ?_|refine Z6 (fun h=> ?_) fun h=> ?_|refine fun(cap:Nat) (hcap:_≤cap)=> ?_|refine fun(hcp:_≤cap)=> ?_)| (first| (with_reducible first|refine Y2 fun K hK=> ?_|refine Y3 fun A B hA hB=> ?_)| (refine aX hl (by omega) (by omega) (by omega) rfl (fun x h1 h2=> ?_)))<;>(simp only[go_sem];try simp (disch:=omega) only[Iw])| ((with_reducible refine Y8 ?_);try simp only[AQ.then,AQ.blk,reduceIte,Nat.reduceEqDiff])| ((with_reducible refine Y0 ?_);simp only[AQ.then,AQ.blk])|refine⟨by omega,?_⟩| (with_reducible refine hKB _ _ _ ?_)|fail)
 all_goals first
  | (have hx:x=0∨x=1∨x=2:=by omega
     rcases hx with rfl|rfl|rfl
     all_goals first| (exfalso;omega)| (simp only[go_sem];try simp (disch:=omega) only[Iw];(refine⟨by omega,hK _ _ _ ?_⟩;clear hK K);skip)|skip)
  |skip
 all_goals try refine⟨by omega,?_⟩
 all_goals try (refine hK _ _ _ ?_;clear hK K;repeat' (first| (with_reducible first| (refine hK _ _ _ ?_;clear hK K)|refine Z1 ?_)| (with_reducible refine Y2 fun K hK=> ?_)<;>(simp only[go_sem])| ((with_reducible refine Y8 ?_);try simp only[AQ.then,AQ.blk,reduceIte,Nat.reduceEqDiff])| ((with_reducible refine Y0 ?_);simp only[AQ.then,AQ.blk])| (with_reducible refine hKB _ _ _ ?_)|fail))
 all_goals first
  |exact aPB hQ (m:=[⟨_,_,_,_⟩]) rfl rfl rfl (by omega) (by omega) rfl ⟨by simp,by omega,by decide,by simp⟩
  |exact aPB hQ (m:=[⟨_,_,_,_⟩,⟨_,_,_,_⟩]) rfl rfl rfl (by omega) (by omega) rfl ⟨by simp,by omega,by decide,by simp⟩
  |exact aPB hQ (m:=[⟨_,_,_,_⟩,⟨_,_,_,_⟩,⟨_,_,_,_⟩]) rfl rfl rfl (by omega) (by omega) rfl ⟨by simp,by omega,by decide,by simp⟩
  |exact aPB hQ (m:=[⟨_,_,_,_⟩,⟨_,_,_,_⟩,⟨_,_,_,_⟩,⟨_,_,_,_⟩]) rfl rfl rfl (by omega) (by omega) rfl ⟨by simp,by omega,by decide,by simp⟩
  |exact aPB hQ (m:=[⟨_,_,_,_⟩,⟨_,_,_,_⟩,⟨_,_,_,_⟩,⟨_,_,_,_⟩,⟨_,_,_,_⟩]) rfl rfl rfl (by omega) (by omega) rfl ⟨by simp,by omega,by decide,by simp⟩
  |exact aPB hQ (m:=[⟨_,_,_,_⟩,⟨_,_,_,_⟩,⟨_,_,_,_⟩,⟨_,_,_,_⟩,⟨_,_,_,_⟩,⟨_,_,_,_⟩]) rfl rfl rfl (by omega) (by omega) rfl ⟨by simp,by omega,by decide,by simp⟩
  |exact aPB hQ (m:=[⟨_,_,_,_⟩,⟨_,_,_,_⟩,⟨_,_,_,_⟩,⟨_,_,_,_⟩,⟨_,_,_,_⟩,⟨_,_,_,_⟩,⟨_,_,_,_⟩]) rfl rfl rfl (by omega) (by omega) rfl ⟨by simp,by omega,by decide,by simp⟩
theorem aQQ {l:List Int} {p i:Nat} (hl:kZ l) (hp50:p+20<2^50) (hi:i<nx) (ho:H i=some (rdO l p)) (h: ∀(p':Nat) (m:List Rng),p≤p'→p'≤p+20→(m.length≤8)→K (dS (m.map eN)) (H.set i (rdO l p')) nx):
 aB Tryz.prog tN [dP 2 i,dI 1] H nx K:=
 (aQP l p hl hp50).OU i rfl (gW ⟨DG (by omega) rfl,aE rfl,trivial⟩) hi ho (aV l p) fun r o' ⟨p',m,h1,h2,h3,h4,h5⟩=>by
  subst h1;subst h4;exact EW (A:=fun d=>K d (H.set i (rdO l p')) nx) rfl (h p' m h2 h3 h5)
end
end Go.Proofs.YtegiblhkjfiooaaGreat
end
section
namespace Go.AM
theorem aN1 {L:List (List D1)} (h: ∀r∈L,∃v:Int,r=[.v (.int .i64 v)]) {x:Int} (h1:0≤x) (h2:x<L.length): ∃v:Int,L[x.toNat]?=some [.v (.int .i64 v)]:=by
 have h3:x.toNat<L.length:=by omega
 obtain⟨v,hv⟩:=h _ (List.getElem_mem h3)
 exact⟨v,by rw[List.getElem?_eq_getElem h3,hv]⟩
end Go.AM
namespace Go.Proofs.YtegiblhkjfiooaaGreat
open Go Go.AM
set_option maxRecDepth 100000
set_option maxHeartbeats 20000000
section
variable {H : aA} {nx : Nat} {K : D → aA → Nat → Prop}
def rqB (b1 b2 c1 c2:Nat) (q:Req):List D1:=[cI q.id,cI q.kind,cI q.addr,cI q.many,cB q.wrap,.osl 1 b1 0 q.data.length c1,.osl 1 b2 0 q.lanes.length c2]
theorem aSU {l:List Int} {p:Nat} {Q:AQ} (hQ: ∀ex e2 H2 nx2 d nh d2 H3 F σ,ex=AEx.normal∨ex=AEx.ret→yT H2 e2 E5=some d→CvR 1 d H2 nh d2 H3 F σ→(nh=1∧ ∃o',H3=hp [(0,o')]∧C7 o'∧ ∃(p':Nat) (q:Req),o'=rdO l p'∧p≤p'∧p'≤p+45∧d2=dA (eB q)∧(q.data.length≤8∧q.lanes.length≤8))→Q ex e2 H2 nx2)
 {e2:Env} {H2:aA} {nx2 b1 b2 n1 n2 c1 c2 m1 m2 p':Nat} {id kind addr many:Int} {wrap:Bool} {D L:List Int} (h1:yT H2 e2 E5=some (dA [cI id,cI kind,cI addr,cI many,cB wrap,.osl 1 b1 0 n1 c1,.osl 1 b2 0 n2 c2])) (h2:H2 0=some (rdO l p')) (h3:H2 b1=some ⟨1,m1,D.map aJ⟩) (h4:H2 b2=some ⟨1,m2,L.map aJ⟩)
 (h5:p≤p'∧p'≤p+45) (h6:n1=D.length∧n2=L.length) (h7:n1≤c1∧n2≤c2∧b1≠0∧b2≠0∧n1≤8∧n2≤8):Q .ret e2 H2 nx2:=by
 obtain⟨h7,h8,h9,h10,h11,h12⟩:=h7
 obtain⟨rfl,rfl⟩:=h6
 exact lA hQ (dA (eB ⟨id,kind,addr,many,wrap,D,L⟩)) _ _ h1 (aH (bB rfl) (aH (bB rfl) (aH (bB rfl) (aH (bB rfl) (aH (bB rfl) (aH (bW bF h3 rfl h7 (by simpa using h9)) (aH (bW bF h4 rfl h8 (by simpa using h10)) eP))))))) h2 (aV _ _) ⟨p',_,rfl,h5.1,h5.2,rfl,h11,h12⟩
theorem aQK (l:List Int) (p:Nat) (hl:kZ l) (hp50:p+45<2^50):aB Tryz.prog tS [dP 2 0,dI 1] (hp [(0,rdO l p)]) 1
 fun rr H' n'=>n'=1∧ ∃o',H'=hp [(0,o')]∧C7 o'∧ ∃(p':Nat) (q:Req),o'=rdO l p'∧p≤p'∧p'≤p+45∧rr=dA (eB q)∧(q.data.length≤8∧q.lanes.length≤8):=by
 refine QN rfl fun Q hQ=> ?_
 unfold xW
 (refine aM.asL fun K hK=> ?_);(simp only[go_sem];try simp (disch:=omega) only[Iw]);(refine hK _ _ _ ?_;clear hK K)
 refine aM.join 2 (α:={u:Rq//(0≤u.id∧u.id≤1)∧(1≤u.kind∧u.kind≤4)∧(0≤u.addr∧u.addr≤63)∧(u.many=1∨u.many=2∨u.many=4)∧p≤u.p∧u.p≤p+11})
  (fun b u=>en [(5,dP 7 (b+1)),(4,dP 7 b),(1,dI 1),(0,dP 2 0)]) (fun b u=>hp [(0,rdO l u.1.p),(b,⟨7,1,[rq0 0 0 0 0 false]⟩),(b+1,⟨7,1,[rq0 u.1.id u.1.kind u.1.addr u.1.many u.1.wrap]⟩)]) (fun KJ hKJ=> ?_) ?_
 ·repeat' (first| (first| (with_reducible refine Y2 fun K hK=> ?_)| (refine aX hl (by omega) (by omega) (by omega) rfl (fun x h1 h2=> ?_))| (refine SE hl (by omega) (by omega) rfl (fun pa xa ha1 ha2 ha3=> ?_)))<;>(simp only[go_sem];try simp (disch:=omega) only[Iw])|refine⟨by omega,?_⟩|fail)
  have hx:x=0∨x=1∨x=2∨x=3:=by omega
  rcases hx with rfl|rfl|rfl|rfl
  all_goals simp only[go_sem];try simp (disch:=omega) only[Iw]
  all_goals repeat' (first| (with_reducible (refine hK _ _ _ ?_;clear hK K))| (refine aX hl (by omega) (by omega) (by omega) rfl (fun x h1 h2=> ?_))<;>(simp only[go_sem])| ((with_reducible refine Y0 ?_);simp only[AQ.then,AQ.blk])|fail)
  all_goals rename_i id hid1 hid2 kind hkind1 hkind2 _ _
  ·refine hKJ _ _ _ ⟨⟨id,1+kind,xa,1,decide (x=0),pa+1+1⟩,by dsimp only;omega,by dsimp only;omega,by dsimp only;omega,by dsimp only;omega,by dsimp only;omega,by dsimp only;omega⟩ (by(refine cR [1,18,0] (by omega) (by repeat' (first| (with_reducible first|exact C1|refine C2 ?_ ?_)| ((with_reducible refine C0 ?_);exact CE (by omega) rfl)| ((with_reducible refine D0 ?_);first|exact CA rfl|refine CJ ?_)|fail)) ⟨⟨by simp,by simp[sgL],_,rfl,bS (aV _ _)⟩,⟨by simp,by simp[sgL],_,rfl,aP (by(try unfold rq0);repeat' (first| (with_reducible first|exact C3|refine C4 ?_ ?_)| ((with_reducible refine C0 ?_);first|exact CB rfl|exact CC)|fail))⟩,⟨by simp,by simp[sgL],_,rfl,aP (by(try unfold rq0);repeat' (first| (with_reducible first|exact C3|refine C4 ?_ ?_)| ((with_reducible refine C0 ?_);first|exact CB rfl|exact CC)|fail))⟩,trivial⟩ (by simp[sgL])))
  ·refine hKJ _ _ _ ⟨⟨id,1+kind,xa,1,decide (x=0),pa+1+1⟩,by dsimp only;omega,by dsimp only;omega,by dsimp only;omega,by dsimp only;omega,by dsimp only;omega,by dsimp only;omega⟩ (by(refine cR [1,18,0] (by omega) (by repeat' (first| (with_reducible first|exact C1|refine C2 ?_ ?_)| ((with_reducible refine C0 ?_);exact CE (by omega) rfl)| ((with_reducible refine D0 ?_);first|exact CA rfl|refine CJ ?_)|fail)) ⟨⟨by simp,by simp[sgL],_,rfl,bS (aV _ _)⟩,⟨by simp,by simp[sgL],_,rfl,aP (by(try unfold rq0);repeat' (first| (with_reducible first|exact C3|refine C4 ?_ ?_)| ((with_reducible refine C0 ?_);first|exact CB rfl|exact CC)|fail))⟩,⟨by simp,by simp[sgL],_,rfl,aP (by(try unfold rq0);repeat' (first| (with_reducible first|exact C3|refine C4 ?_ ?_)| ((with_reducible refine C0 ?_);first|exact CB rfl|exact CC)|fail))⟩,trivial⟩ (by simp[sgL])))
  ·refine hKJ _ _ _ ⟨⟨id,1+kind,xa,2,decide (x=0),pa+1+1⟩,by dsimp only;omega,by dsimp only;omega,by dsimp only;omega,by dsimp only;omega,by dsimp only;omega,by dsimp only;omega⟩ (by(refine cR [1,18,0] (by omega) (by repeat' (first| (with_reducible first|exact C1|refine C2 ?_ ?_)| ((with_reducible refine C0 ?_);exact CE (by omega) rfl)| ((with_reducible refine D0 ?_);first|exact CA rfl|refine CJ ?_)|fail)) ⟨⟨by simp,by simp[sgL],_,rfl,bS (aV _ _)⟩,⟨by simp,by simp[sgL],_,rfl,aP (by(try unfold rq0);repeat' (first| (with_reducible first|exact C3|refine C4 ?_ ?_)| ((with_reducible refine C0 ?_);first|exact CB rfl|exact CC)|fail))⟩,⟨by simp,by simp[sgL],_,rfl,aP (by(try unfold rq0);repeat' (first| (with_reducible first|exact C3|refine C4 ?_ ?_)| ((with_reducible refine C0 ?_);first|exact CB rfl|exact CC)|fail))⟩,trivial⟩ (by simp[sgL])))
  ·refine hKJ _ _ _ ⟨⟨id,1+kind,xa,4,decide (x=0),pa+1+1⟩,by dsimp only;omega,by dsimp only;omega,by dsimp only;omega,by dsimp only;omega,by dsimp only;omega,by dsimp only;omega⟩ (by(refine cR [1,18,0] (by omega) (by repeat' (first| (with_reducible first|exact C1|refine C2 ?_ ?_)| ((with_reducible refine C0 ?_);exact CE (by omega) rfl)| ((with_reducible refine D0 ?_);first|exact CA rfl|refine CJ ?_)|fail)) ⟨⟨by simp,by simp[sgL],_,rfl,bS (aV _ _)⟩,⟨by simp,by simp[sgL],_,rfl,aP (by(try unfold rq0);repeat' (first| (with_reducible first|exact C3|refine C4 ?_ ?_)| ((with_reducible refine C0 ?_);first|exact CB rfl|exact CC)|fail))⟩,⟨by simp,by simp[sgL],_,rfl,aP (by(try unfold rq0);repeat' (first| (with_reducible first|exact C3|refine C4 ?_ ?_)| ((with_reducible refine C0 ?_);first|exact CB rfl|exact CC)|fail))⟩,trivial⟩ (by simp[sgL])))
 rintro⟨⟨id,kind,addr,many,wrap,q⟩,f1,f2,f3,f4,f5,f6⟩
 dsimp only at f1 f2 f3 f4 f5 f6
 refine aM.join 2 (α:={u:Rq//((0≤u.id∧u.id≤1)∧(1≤u.kind∧u.kind≤4)∧(0≤u.addr∧u.addr≤63)∧(u.many=1∨u.many=2∨u.many=4)∧p≤u.p∧u.p≤p+12)∧(3≤u.kind→u.many=1)})
  (fun b u=>en [(5,dP 7 (b+1)),(4,dP 7 b),(1,dI 1),(0,dP 2 0)]) (fun b u=>hp [(0,rdO l u.1.p),(b,⟨7,1,[rq0 0 0 0 0 false]⟩),(b+1,⟨7,1,[rq0 u.1.id u.1.kind u.1.addr u.1.many u.1.wrap]⟩)]) (fun KJ hKJ=> ?_) ?_
 ·repeat' (first| (with_reducible first| (refine hK _ _ _ ?_;clear hK K)| (refine hA ?_;clear hA hB A B)| (refine hB ?_;clear hA hB A B)|refine Z1 ?_|refine Z2 ?_|refine Z6 (fun h=> ?_) fun h=> ?_)| (first| (with_reducible first|refine Y2 fun K hK=> ?_|refine Y3 fun A B hA hB=> ?_)| (refine aX hl (by omega) (by omega) (by omega) rfl (fun x h1 h2=> ?_)))<;>(simp only[go_sem,rq0])| ((with_reducible refine Y0 ?_);simp only[AQ.then,AQ.blk])|refine⟨by omega,?_⟩|fail)
  ·have hx:x=0∨x=1∨x=2∨x=3:=by omega
   rcases hx with rfl|rfl|rfl|rfl
   all_goals simp only[go_sem];try simp (disch:=omega) only[Iw]
   all_goals repeat' (first| (with_reducible (refine hK _ _ _ ?_;clear hK K))| ((with_reducible refine Y0 ?_);simp only[AQ.then,AQ.blk])|fail)
   ·refine hKJ _ _ _ ⟨⟨id,kind,0,1,wrap,q+1⟩,by dsimp only;omega,by dsimp only;omega⟩ (by(refine cR [2,3,0] (by omega) (by repeat' (first| (with_reducible first|exact C1|refine C2 ?_ ?_)| ((with_reducible refine C0 ?_);exact CE (by omega) rfl)| ((with_reducible refine D0 ?_);first|exact CA rfl|refine CJ ?_)|fail)) ⟨⟨by simp,by simp[sgL],_,rfl,bS (aV _ _)⟩,⟨by simp,by simp[sgL],_,rfl,aP (by(try unfold rq0);repeat' (first| (with_reducible first|exact C3|refine C4 ?_ ?_)| ((with_reducible refine C0 ?_);first|exact CB rfl|exact CC)|fail))⟩,⟨by simp,by simp[sgL],_,rfl,aP (by(try unfold rq0);repeat' (first| (with_reducible first|exact C3|refine C4 ?_ ?_)| ((with_reducible refine C0 ?_);first|exact CB rfl|exact CC)|fail))⟩,trivial⟩ (by simp[sgL])))
   ·refine hKJ _ _ _ ⟨⟨id,kind,1,1,wrap,q+1⟩,by dsimp only;omega,by dsimp only;omega⟩ (by(refine cR [2,3,0] (by omega) (by repeat' (first| (with_reducible first|exact C1|refine C2 ?_ ?_)| ((with_reducible refine C0 ?_);exact CE (by omega) rfl)| ((with_reducible refine D0 ?_);first|exact CA rfl|refine CJ ?_)|fail)) ⟨⟨by simp,by simp[sgL],_,rfl,bS (aV _ _)⟩,⟨by simp,by simp[sgL],_,rfl,aP (by(try unfold rq0);repeat' (first| (with_reducible first|exact C3|refine C4 ?_ ?_)| ((with_reducible refine C0 ?_);first|exact CB rfl|exact CC)|fail))⟩,⟨by simp,by simp[sgL],_,rfl,aP (by(try unfold rq0);repeat' (first| (with_reducible first|exact C3|refine C4 ?_ ?_)| ((with_reducible refine C0 ?_);first|exact CB rfl|exact CC)|fail))⟩,trivial⟩ (by simp[sgL])))
   ·refine hKJ _ _ _ ⟨⟨id,kind,16,1,wrap,q+1⟩,by dsimp only;omega,by dsimp only;omega⟩ (by(refine cR [2,3,0] (by omega) (by repeat' (first| (with_reducible first|exact C1|refine C2 ?_ ?_)| ((with_reducible refine C0 ?_);exact CE (by omega) rfl)| ((with_reducible refine D0 ?_);first|exact CA rfl|refine CJ ?_)|fail)) ⟨⟨by simp,by simp[sgL],_,rfl,bS (aV _ _)⟩,⟨by simp,by simp[sgL],_,rfl,aP (by(try unfold rq0);repeat' (first| (with_reducible first|exact C3|refine C4 ?_ ?_)| ((with_reducible refine C0 ?_);first|exact CB rfl|exact CC)|fail))⟩,⟨by simp,by simp[sgL],_,rfl,aP (by(try unfold rq0);repeat' (first| (with_reducible first|exact C3|refine C4 ?_ ?_)| ((with_reducible refine C0 ?_);first|exact CB rfl|exact CC)|fail))⟩,trivial⟩ (by simp[sgL])))
   ·refine hKJ _ _ _ ⟨⟨id,kind,32,1,wrap,q+1⟩,by dsimp only;omega,by dsimp only;omega⟩ (by(refine cR [2,3,0] (by omega) (by repeat' (first| (with_reducible first|exact C1|refine C2 ?_ ?_)| ((with_reducible refine C0 ?_);exact CE (by omega) rfl)| ((with_reducible refine D0 ?_);first|exact CA rfl|refine CJ ?_)|fail)) ⟨⟨by simp,by simp[sgL],_,rfl,bS (aV _ _)⟩,⟨by simp,by simp[sgL],_,rfl,aP (by(try unfold rq0);repeat' (first| (with_reducible first|exact C3|refine C4 ?_ ?_)| ((with_reducible refine C0 ?_);first|exact CB rfl|exact CC)|fail))⟩,⟨by simp,by simp[sgL],_,rfl,aP (by(try unfold rq0);repeat' (first| (with_reducible first|exact C3|refine C4 ?_ ?_)| ((with_reducible refine C0 ?_);first|exact CB rfl|exact CC)|fail))⟩,trivial⟩ (by simp[sgL])))
  ·refine hKJ _ _ _ ⟨⟨id,kind,addr,many,wrap,q⟩,by dsimp only;omega,by dsimp only;omega⟩ (by(refine cR [2,3,0] (by omega) (by repeat' (first| (with_reducible first|exact C1|refine C2 ?_ ?_)| ((with_reducible refine C0 ?_);exact CE (by omega) rfl)| ((with_reducible refine D0 ?_);first|exact CA rfl|refine CJ ?_)|fail)) ⟨⟨by simp,by simp[sgL],_,rfl,bS (aV _ _)⟩,⟨by simp,by simp[sgL],_,rfl,aP (by(try unfold rq0);repeat' (first| (with_reducible first|exact C3|refine C4 ?_ ?_)| ((with_reducible refine C0 ?_);first|exact CB rfl|exact CC)|fail))⟩,⟨by simp,by simp[sgL],_,rfl,aP (by(try unfold rq0);repeat' (first| (with_reducible first|exact C3|refine C4 ?_ ?_)| ((with_reducible refine C0 ?_);first|exact CB rfl|exact CC)|fail))⟩,trivial⟩ (by simp[sgL])))
 rintro⟨⟨id,kind,addr,many,wrap,q⟩,⟨f1,f2,f3,f4,f5,f6⟩,f7⟩
 dsimp only at f1 f2 f3 f4 f5 f6 f7
 refine aM.join 2 (α:={u:Rq//((0≤u.id∧u.id≤1)∧(1≤u.kind∧u.kind≤4)∧p≤u.p∧u.p≤p+12)∧(3≤u.kind→u.many=1)∧o7 u.addr u.many u.wrap})
  (fun b u=>en [(5,dP 7 (b+1)),(4,dP 7 b),(1,dI 1),(0,dP 2 0)]) (fun b u=>hp [(0,rdO l u.1.p),(b,⟨7,1,[rq0 0 0 0 0 false]⟩),(b+1,⟨7,1,[rq0 u.1.id u.1.kind u.1.addr u.1.many u.1.wrap]⟩)]) (fun KJ hKJ=> ?_) ?_
 ·repeat' (first| (with_reducible first| (refine hK _ _ _ ?_;clear hK K)| (refine hA ?_;clear hA hB A B)| (refine hB ?_;clear hA hB A B)|refine Z1 ?_|refine Z2 ?_|refine Z6 (fun h=> ?_) fun h=> ?_)| (with_reducible first|refine Y2 fun K hK=> ?_|refine Y3 fun A B hA hB=> ?_| (refine Y7 (fun h=> ?_) (fun h=> ?_)<;>try subst h))<;>(simp only[go_sem,rq0];try simp (disch:=omega) only[Iw])| ((with_reducible refine Y0 ?_);simp only[AQ.then,AQ.blk])|fail)
  ·refine hKJ _ _ _ ⟨⟨id,kind,63-many+1,many,wrap,q⟩,by dsimp only;omega,by dsimp only;omega,by dsimp only;exact⟨by omega,by omega,.inr (by omega)⟩⟩ (by(refine cR [4,5,0] (by omega) (by repeat' (first| (with_reducible first|exact C1|refine C2 ?_ ?_)| ((with_reducible refine C0 ?_);exact CE (by omega) rfl)| ((with_reducible refine D0 ?_);first|exact CA rfl|refine CJ ?_)|fail)) ⟨⟨by simp,by simp[sgL],_,rfl,bS (aV _ _)⟩,⟨by simp,by simp[sgL],_,rfl,aP (by(try unfold rq0);repeat' (first| (with_reducible first|exact C3|refine C4 ?_ ?_)| ((with_reducible refine C0 ?_);first|exact CB rfl|exact CC)|fail))⟩,⟨by simp,by simp[sgL],_,rfl,aP (by(try unfold rq0);repeat' (first| (with_reducible first|exact C3|refine C4 ?_ ?_)| ((with_reducible refine C0 ?_);first|exact CB rfl|exact CC)|fail))⟩,trivial⟩ (by simp[sgL])))
  ·refine hKJ _ _ _ ⟨⟨id,kind,addr,many,wrap,q⟩,by dsimp only;omega,by dsimp only;omega,by dsimp only;exact⟨by omega,by omega,.inr (by omega)⟩⟩ (by(refine cR [4,5,0] (by omega) (by repeat' (first| (with_reducible first|exact C1|refine C2 ?_ ?_)| ((with_reducible refine C0 ?_);exact CE (by omega) rfl)| ((with_reducible refine D0 ?_);first|exact CA rfl|refine CJ ?_)|fail)) ⟨⟨by simp,by simp[sgL],_,rfl,bS (aV _ _)⟩,⟨by simp,by simp[sgL],_,rfl,aP (by(try unfold rq0);repeat' (first| (with_reducible first|exact C3|refine C4 ?_ ?_)| ((with_reducible refine C0 ?_);first|exact CB rfl|exact CC)|fail))⟩,⟨by simp,by simp[sgL],_,rfl,aP (by(try unfold rq0);repeat' (first| (with_reducible first|exact C3|refine C4 ?_ ?_)| ((with_reducible refine C0 ?_);first|exact CB rfl|exact CC)|fail))⟩,trivial⟩ (by simp[sgL])))
  ·refine hKJ _ _ _ ⟨⟨id,kind,addr,many,wrap,q⟩,by dsimp only;omega,by dsimp only;omega,by dsimp only;exact⟨by omega,by omega,.inl (by simp_all)⟩⟩ (by(refine cR [4,5,0] (by omega) (by repeat' (first| (with_reducible first|exact C1|refine C2 ?_ ?_)| ((with_reducible refine C0 ?_);exact CE (by omega) rfl)| ((with_reducible refine D0 ?_);first|exact CA rfl|refine CJ ?_)|fail)) ⟨⟨by simp,by simp[sgL],_,rfl,bS (aV _ _)⟩,⟨by simp,by simp[sgL],_,rfl,aP (by(try unfold rq0);repeat' (first| (with_reducible first|exact C3|refine C4 ?_ ?_)| ((with_reducible refine C0 ?_);first|exact CB rfl|exact CC)|fail))⟩,⟨by simp,by simp[sgL],_,rfl,aP (by(try unfold rq0);repeat' (first| (with_reducible first|exact C3|refine C4 ?_ ?_)| ((with_reducible refine C0 ?_);first|exact CB rfl|exact CC)|fail))⟩,trivial⟩ (by simp[sgL])))
 rintro⟨⟨id,kind,addr,many,wrap,q⟩,⟨f1,f2,f5,f6⟩,f7,f8⟩
 dsimp only at f1 f2 f5 f6 f7 f8
 have f4:=f8.1
 refine aM.EJ 1 (aM.EJ 1 ?_)
 refine aM.join 4 (α:={u:Req×Nat×Nat×Nat//(u.1.data.length≤4∧u.1.lanes.length≤4∧u.1.data.length≤u.2.2.1∧u.1.lanes.length≤u.2.2.2)∧p≤u.2.1∧u.2.1≤p+40})
  (fun b u=>en [(5,dP 7 (b+1)),(4,dP 7 b),(1,dI 1),(0,dP 2 0)]) (fun b u=>hp [(0,rdO l u.1.2.1),(b,⟨7,1,[rq0 0 0 0 0 false]⟩),(b+1,⟨7,1,[rqB (b+2) (b+3) u.1.2.2.1 u.1.2.2.2 u.1.1]⟩),(b+2,⟨1,u.1.2.2.1,u.1.1.data.map aJ⟩),(b+3,⟨1,u.1.2.2.2,u.1.1.lanes.map aJ⟩)]) (fun KJ hKJ=> ?_) ?_
 ·repeat' (first| (with_reducible first| (refine hK _ _ _ ?_;clear hK K)| (refine hA ?_;clear hA hB A B)| (refine hB ?_;clear hA hB A B)|refine Z1 ?_|refine Z2 ?_|refine Z3 fun KB hKB=> ?_|refine Z6 (fun h=> ?_) fun h=> ?_)| (with_reducible first|refine Y2 fun K hK=> ?_|refine Y3 fun A B hA hB=> ?_|refine Y6 (fun h=> ?_) fun h=> ?_)<;>(simp only[go_sem,rq0])| ((with_reducible refine Y0 ?_);simp only[AQ.then,AQ.blk])|fail)
  rotate_left 2
  ·exact hKJ _ _ _ ⟨(⟨id,kind,addr,many,wrap,[],[]⟩,q,0,0),by simp,by dsimp only;omega,by dsimp only;omega⟩ (by(refine cR [6,7,8,9,0] (by omega) (by repeat' (first| (with_reducible first|exact C1|refine C2 ?_ ?_)| ((with_reducible refine C0 ?_);exact CE (by omega) rfl)| ((with_reducible refine D0 ?_);first|exact CA rfl|refine CJ ?_)|fail)) ⟨⟨by simp,by simp[sgL],_,rfl,bS (aV _ _)⟩,⟨by simp,by simp[sgL],_,rfl,aP (by(try unfold rq0);repeat' (first| (with_reducible first|exact C3|refine C4 ?_ ?_)| ((with_reducible refine C0 ?_);first|exact CB rfl|exact CC)|fail))⟩,⟨by simp,by simp[sgL],_,rfl,aP (by(try unfold rq0 rqB);repeat' (first| (with_reducible first|exact C3|refine C4 ?_ ?_)| ((with_reducible refine C0 ?_);first|exact CB rfl|exact CC)|refine C4 ?_ ?_|fail))⟩,⟨by simp,by simp[sgL],_,rfl,bP (aG bF _) rfl rfl⟩,⟨by simp,by simp[sgL],_,rfl,bP (aG bF _) rfl rfl⟩,trivial⟩ (by simp[sgL])))
  all_goals
   have hkind:kind=2∨kind=4:=by omega
   (have hKX:=hKB;clear hKB)
   refine aM.sG 4 (β:=(Nat×Nat)×(List Int×Nat)×(List Int×Nat))
    (fun b u=>en [(6,dI u.1.1),(5,dP 7 (b+1)),(4,dP 7 b),(1,dI 1),(0,dP 2 0)])
    (fun b u=>hp [(0,rdO l u.1.2),(b,⟨7,1,[rq0 0 0 0 0 false]⟩),(b+1,⟨7,1,[[cI id,cI kind,cI addr,cI many,cB wrap,.osl 1 (b+2) 0 u.1.1 u.2.1.2,.osl 1 (b+3) 0 u.1.1 u.2.2.2]]⟩),(b+2,⟨1,u.2.1.2,u.2.1.1.map aJ⟩),(b+3,⟨1,u.2.2.2,u.2.2.1.map aJ⟩)])
    (fun u=>((u.1.1:Int)≤many∧u.1.2≤q+4*u.1.1∧q≤u.1.2)∧(u.2.1.1.length=u.1.1∧u.1.1≤u.2.1.2)∧(u.2.2.1.length=u.1.1∧u.1.1≤u.2.2.2))
    (fun u=>many.toNat-u.1.1) ((0,q),([],0),([],0)) ?_ ⟨⟨by dsimp only;omega,by dsimp only;omega,by dsimp only;omega⟩,⟨rfl,by simp⟩,⟨rfl,by simp⟩⟩ ?_
   · (refine cR [6,7,8,9,0] (by omega) (by repeat' (first| (with_reducible first|exact C1|refine C2 ?_ ?_)| ((with_reducible refine C0 ?_);exact CE (by omega) rfl)| ((with_reducible refine D0 ?_);first|exact CA rfl|refine CJ ?_)|fail)) ⟨⟨by simp,by simp[sgL],_,rfl,bS (aV _ _)⟩,⟨by simp,by simp[sgL],_,rfl,aP (by unfold rq0;repeat' (first| (with_reducible first|exact C3|refine C4 ?_ ?_)| ((with_reducible refine C0 ?_);first|exact CB rfl|exact CC)|fail))⟩,⟨by simp,by simp[sgL],_,rfl,aP (by(try unfold rq0);repeat' (first| (with_reducible first|exact C3|refine C4 ?_ ?_)| ((with_reducible refine C0 ?_);first|exact CB rfl|exact CC)|fail))⟩,⟨by simp,by simp[sgL],_,rfl,bP (aG bF _) rfl rfl⟩,⟨by simp,by simp[sgL],_,rfl,bP (aG bF _) rfl rfl⟩,trivial⟩ (by simp[sgL]))
   ·rintro⟨⟨k,q'⟩,⟨da,ca⟩,⟨la,cl⟩⟩ ⟨⟨g1,g2,g3⟩,⟨g4,g6⟩,⟨g7,g9⟩⟩ KL hKL
    dsimp only at g1 g2 g3 g4 g6 g7 g9
    have hta:da.take k=da:=List.take_of_length_le (by omega)
    have htl:la.take k=la:=List.take_of_length_le (by omega)
    by_cases hlt:k<many.toNat
    ·repeat' (first| (with_reducible first| (refine hK _ _ _ ?_;clear hK K)| (refine hA ?_;clear hA hB A B)|refine Z1 ?_|refine Z2 ?_|refine Z3 fun KB hKB=> ?_|refine Z4 (by omega) ?_)| (first| (with_reducible first|refine Y2 fun K hK=> ?_|refine Y3 fun A B hA hB=> ?_)| (refine aX hl (by omega) (by omega) (by omega) rfl (fun x h1 h2=> ?_)))<;>(simp only[go_sem,rq0];try simp (disch:=omega) only[Iw])|refine⟨by omega,?_⟩|fail)
     rename_i xa xa1 xa2 xb xb1 xb2
     obtain⟨v,hv⟩:=aN1 (L:=[[.v (.int .i64 (xa*257))],[.v (.int .i64 xb)],[.v (.int .i64 65535)],[.v (.int .i64 0)]]) (by simp) h1 (by simp;omega)
     simp only[go_sem,hv,hta]
     repeat' (first| (with_reducible first| (refine hK _ _ _ ?_;clear hK K)|refine fun(cap:Nat) (hcap:_≤cap)=> ?_|refine fun(hcp:_≤cap)=> ?_)| (first| (with_reducible refine Y2 fun K hK=> ?_)| (refine aX hl (by omega) (by omega) (by omega) rfl (fun x h1 h2=> ?_)))<;>(simp only[go_sem,hta,htl])|refine⟨by omega,?_⟩|fail)
     obtain⟨u,hu⟩:=aN1 (L:=[[.v (.int .i64 3)],[.v (.int .i64 3)],[.v (.int .i64 1)],[.v (.int .i64 2)],[.v (.int .i64 0)]]) (by simp) h1 (by simp;omega)
     simp only[go_sem,hu,htl]
     repeat' (first| (with_reducible first| (refine hK _ _ _ ?_;clear hK K)|refine fun(cap:Nat) (hcap:_≤cap)=> ?_|refine fun(hcp:_≤cap)=> ?_)| (with_reducible refine Y2 fun K hK=> ?_)<;>(simp only[go_sem,hta,htl];try simp (disch:=omega) only[Iw])| ((with_reducible refine Y0 ?_);simp only[AQ.then,AQ.blk])|refine⟨by omega,?_⟩| (with_reducible refine hKB _ _ _ ?_)|fail)
     exact hKL _ _ _ ((k+1,_),(da++[_],_),(la++[_],_)) (by omega) (by(refine cR [19,20,40,51,0] (by omega) (by repeat' (first| (with_reducible first|exact C1|refine C2 ?_ ?_)| ((with_reducible refine C0 ?_);exact CE (by omega) rfl)| ((with_reducible refine D0 ?_);first|exact CA rfl|refine CJ ?_)|fail)) ⟨⟨by simp,by simp[sgL],_,rfl,bS (aV _ _)⟩,⟨by simp,by simp[sgL],_,rfl,aP (by unfold rq0;repeat' (first| (with_reducible first|exact C3|refine C4 ?_ ?_)| ((with_reducible refine C0 ?_);first|exact CB rfl|exact CC)|fail))⟩,⟨by simp,by simp[sgL],_,rfl,aP (by repeat' (first| (with_reducible first|exact C3|refine C4 ?_ ?_)| ((with_reducible refine C0 ?_);first|exact CB rfl|exact CQ (by omega) rfl rfl (by rfl) rfl)|fail))⟩,⟨by simp,by simp[sgL],_,rfl,bP (aG bF _) rfl rfl⟩,⟨by simp,by simp[sgL],_,rfl,bP (aG bF _) rfl rfl⟩,trivial⟩ (by simp[sgL])))
      ⟨⟨by dsimp only;omega,by dsimp only;omega,by dsimp only;omega⟩,⟨by simp;omega,by dsimp only;omega⟩,⟨by simp;omega,by dsimp only;omega⟩⟩ (by dsimp only;omega)
    ·repeat' (first| (with_reducible first| (refine hK _ _ _ ?_;clear hK K)| (refine hB ?_;clear hA hB A B)|refine Z1 ?_|refine Z5 (by omega) ?_|refine hKX _ _ _ ?_)| (with_reducible first|refine Y2 fun K hK=> ?_|refine Y3 fun A B hA hB=> ?_)<;>(simp only[go_sem,rq0])| ((with_reducible refine Y9 ?_);try simp only[AQ.then,AQ.blk,reduceIte,Nat.reduceEqDiff])| ((with_reducible refine Y0 ?_);simp only[AQ.then,AQ.blk])|fail)
     exact hKJ _ _ _ ⟨(⟨id,kind,addr,many,wrap,da,la⟩,q',ca,cl),by dsimp only;omega,by dsimp only;omega,by dsimp only;omega⟩ (by(refine cR [19,20,21,22,0] (by omega) (by repeat' (first| (with_reducible first|exact C1|refine C2 ?_ ?_)| ((with_reducible refine C0 ?_);exact CE (by omega) rfl)| ((with_reducible refine D0 ?_);first|exact CA rfl|refine CJ ?_)|fail)) ⟨⟨by simp,by simp[sgL],_,rfl,bS (aV _ _)⟩,⟨by simp,by simp[sgL],_,rfl,aP (by(try unfold rq0);repeat' (first| (with_reducible first|exact C3|refine C4 ?_ ?_)| ((with_reducible refine C0 ?_);first|exact CB rfl|exact CC)|fail))⟩,⟨by simp,by simp[sgL],_,rfl,aP (by(try unfold rq0 rqB);repeat' (first| (with_reducible first|exact C3|refine C4 ?_ ?_)| ((with_reducible refine C0 ?_);first|exact CB rfl|exact CQ (by omega) rfl rfl (by omega) rfl)|refine C4 ?_ ?_|fail))⟩,⟨by simp,by simp[sgL],_,rfl,bP (aG bF _) rfl rfl⟩,⟨by simp,by simp[sgL],_,rfl,bP (aG bF _) rfl rfl⟩,trivial⟩ (by simp[sgL])))
 rintro⟨⟨⟨id,kind,addr,many,wrap,da,la⟩,q',ca,cl⟩,⟨g1,g2,g3,g4⟩,g5,g6⟩
 dsimp only at g1 g2 g3 g4 g5 g6
 have htd:da.take da.length=da:=List.take_length
 have htl:la.take la.length=la:=List.take_length
 repeat' (first| (with_reducible first| (refine hK _ _ _ ?_;clear hK K)| (refine hA ?_;clear hA hB A B)| (refine hB ?_;clear hA hB A B)|refine Z1 ?_|refine Z2 ?_|refine Z3 fun KB hKB=> ?_|refine Z6 (fun h=> ?_) fun h=> ?_|refine fun(cap:Nat) (hcap:_≤cap)=> ?_|refine fun(hcp:_≤cap)=> ?_)| (first| (with_reducible first|refine Y2 fun K hK=> ?_|refine Y3 fun A B hA hB=> ?_)| (refine d6 (n:=1) (by omega) hl (by omega) (by omega) rfl (fun p1 bb hp1 hp2 _=> ?_))| (refine aX hl (by omega) (by omega) (by omega) rfl (fun x h1 h2=> ?_)))<;>(simp only[go_sem,rqB,rq0,htd,htl])| ((with_reducible refine Y8 ?_);try simp only[AQ.then,AQ.blk,reduceIte,Nat.reduceEqDiff])| ((with_reducible refine Y0 ?_);simp only[AQ.then,AQ.blk])| ((with_reducible refine Z8 (fun h=> ?_) (fun h=> ?_))<;>try subst h)|refine⟨by omega,?_⟩| (with_reducible refine hKB _ _ _ ?_)|fail)
 all_goals first
  | (obtain⟨v,hv⟩:=aN1 (L:=[[.v (.int .i64 (-1))],[.v (.int .i64 2)]]) (by simp) h1 (by simp;omega);simp only[hv];simp only[go_sem,htd,htl])
  | (obtain⟨v,hv⟩:=aN1 (L:=[[.v (.int .i64 0)],[.v (.int .i64 5)]]) (by simp) h1 (by simp;omega);simp only[hv];simp only[go_sem,htd,htl])
  | (obtain⟨v,hv⟩:=aN1 (L:=[[.v (.int .i64 (-1))],[.v (.int .i64 64)],[.v (.int .i64 63)]]) (by simp) h1 (by simp;omega);simp only[hv];simp only[go_sem,htd,htl])
  | (obtain⟨v,hv⟩:=aN1 (L:=[[.v (.int .i64 0)],[.v (.int .i64 3)],[.v (.int .i64 8)],[.v (.int .i64 4)]]) (by simp) h1 (by simp;omega);simp only[hv];simp only[go_sem,htd,htl])
  | (obtain⟨v,hv⟩:=aN1 (L:=[[.v (.int .i64 (-1))],[.v (.int .i64 65536)]]) (by simp) h1 (by simp;omega);simp only[hv];simp only[go_sem,htd,htl])
  |skip
 all_goals try repeat' (first| (with_reducible first| (refine hK _ _ _ ?_;clear hK K)|refine Z1 ?_)| (with_reducible refine Y2 fun K hK=> ?_)<;>(simp only[go_sem,rqB,rq0,htd,htl])| ((with_reducible refine Y8 ?_);try simp only[AQ.then,AQ.blk,reduceIte,Nat.reduceEqDiff])| ((with_reducible refine Y0 ?_);simp only[AQ.then,AQ.blk])|refine⟨by omega,?_⟩| (with_reducible refine hKB _ _ _ ?_)|fail)
 all_goals first
  |exact aSU hQ rfl rfl rfl rfl (by omega) ⟨rfl,rfl⟩ (by omega)
  |exact aSU hQ (D:=da++[5]) rfl rfl rfl rfl (by omega) ⟨by simp,rfl⟩ (by omega)
  |exact aSU hQ (L:=la++[1]) rfl rfl rfl rfl (by omega) ⟨rfl,by simp⟩ (by omega)
  |exact aSU hQ (D:=da.set 0 _) rfl rfl rfl rfl (by omega) ⟨by simp,rfl⟩ (by omega)
theorem aRK {l:List Int} {p i:Nat} (hl:kZ l) (hp50:p+45<2^50) (hi:i<nx) (ho:H i=some (rdO l p)) (h: ∀(p':Nat) (q:Req),p≤p'→p'≤p+45→(q.data.length≤8∧q.lanes.length≤8)→K (dA (eB q)) (H.set i (rdO l p')) nx):
 aB Tryz.prog tS [dP 2 i,dI 1] H nx K:=
 (aQK l p hl hp50).OU i rfl (gW ⟨DG (by omega) rfl,aE rfl,trivial⟩) hi ho (aV l p) fun r o' ⟨p',q,h1,h2,h3,h4,h5⟩=>by
  subst h1;subst h4;exact EW (A:=fun d=>K d (H.set i (rdO l p')) nx) rfl (h p' q h2 h3 h5)
end
end Go.Proofs.YtegiblhkjfiooaaGreat
end
section
namespace Go.Proofs.YtegiblhkjfiooaaGreat
open Go Go.AM
set_option maxRecDepth 100000
end Go.Proofs.YtegiblhkjfiooaaGreat
end
section
namespace Go.Proofs.YtegiblhkjfiooaaGreat
open Go Go.AM
set_option maxRecDepth 100000
set_option maxHeartbeats 8000000
section
variable {H : aA} {nx : Nat} {K : D → aA → Nat → Prop}
end
end Go.Proofs.YtegiblhkjfiooaaGreat
end
