/- Texts laid together by a program: rules, contracts and the walk that leads to the law. -/
import Derived.Test.YtmccpdapaccnoaaPG3
import Derived.Test.YtmccpdapaccnoaaPG10
set_option linter.unusedVariables false
set_option linter.unusedSimpArgs false
set_option linter.unusedSectionVars false
section
namespace Go.Proofs.Ytmccpdapaccnoaa
open Go Go.AM
set_option maxRecDepth 100000
def bg6:AC:=
 (.seq (.region [rq 0 2 (.alloc [OZ,OZ,OZ]),
 rq 1 3 (.alloc [OZ,OZ,OZ,OZ,OZ])] 2 [0,2,3])
 (.seq (.region [RM 0 8 0,
 rq 1 9 (.call lJ [(.tm 8),(ki 6)]),
 rq 2 4 (.alloc [OZ,OZ,OZ]),
 rn 3 (.store 3 true (.tm 4) (.tm 9))] 4 [0,2,3,4])
 (.seq (.region [rq 0 10 (.call bhA []),
 rq 1 5 (.alloc [OZ,OZ,OZ,OZ,OZ]),
 rn 2 (.store 5 true (.tm 5) (.tm 10))] 3 [0,2,3,4,5])
 (.seq (.region [RM 0 11 0,
 rq 1 12 (.call AE [(.tm 11),(ki 40)]),
 RM 2 6 12] 3 [2,3,4,5,6])
 (.seq (.seq (.region [rq 0 7 (.move (ki 0))] 1 [2,3,4,5,6,7])
 (.block 0
 (.loop
 (.seq (.seq (.region [RM 0 13 7,
 RM 1 14 6,
 rq 2 15 (.len false (.tm 14)),
 rq 3 16 (.bin .lss (.tm 13) (.tm 15))] 4 [2,3,4,5,6,7,16])
 (.cond (.tm 16)
 .skip
 (.exit 0)))
 (.seq (.block 1
 (.region [rq 0 19 (.load 3 true (.tm 4)),
 rq 1 20 (.load 5 true (.tm 5)),
 RM 2 21 6,
 RM 3 22 7,
 rq 4 23 (.idx 3 (.tm 21) (.tm 22)),
 rq 5 24 (.load 3 true (.tm 23)),
 rq 6 25 (.call bgZ [(.tm 19),(.tm 20),(.tm 24)]),
 rn 7 (.store 5 true (.tm 5) (.tm 25))] 8 [2,3,4,5,6,7]))
 (.region [RM 0 17 7,
 rq 1 18 (.bin .add (.tm 17) (ki 1)),
 RM 2 7 18] 3 [2,3,4,5,6,7]))))))
 (.seq (.region [⟨0,(some 26),.load 3 true (.tm 4),none,[],[],true⟩,
 rq 1 27 (.load 5 true (.tm 5)),
 ⟨2,(some 28),.call bg9 [(.tm 27)],none,[],[0],false⟩,
 rn 3 (.store 3 true (.tm 2) (.tm 26)),
 rn 4 (.store 5 true (.tm 3) (.tm 28))] 5 [2,3])
 .ret))))))
def bi9:List Cert:=[⟨[],[0,2,3]⟩,⟨[],[0,2,3,4]⟩,⟨[],[0,2,3,4,5]⟩,⟨[],[2,3,4,5,6]⟩,⟨[],[2,3,4,5,6,7]⟩,⟨[],[2,3,4,5,6,7,16]⟩,⟨[cz 0,cz 1,cz 2,cz 3,cz 4,cz 5,cz 6,cz 7],[2,3,4,5,6,7]⟩,⟨[],[2,3,4,5,6,7]⟩,⟨[(0,[],[],true),cz 1,(2,[],[0],false),cz 3,cz 4],[2,3]⟩]
def bhQ:List aW:=[.cell 2 3 true,.cell 3 5 true]
theorem bi0:aO Try.prog Try.f23 bi9=some (bg6,bhQ):=by kernel_rfl
def bgW:AC:=
 (.seq (.region [rq 0 0 (.alloc [OZ,OZ,OZ,OZ,OZ])] 1 [0])
 (.seq (.region [rq 0 4 (.call v7 []),
 rq 1 5 (.build [OZ,OZ,OZ,OZ,OZ] [(0,2,(.tm 4))]),
 rq 2 1 (.alloc [OZ,OZ,OZ,OZ,OZ]),
 rn 3 (.store 5 true (.tm 1) (.tm 5))] 4 [0,1])
 (.seq (.seq (.region [rq 0 2 (.move (ki 0))] 1 [0,1,2])
 (.block 0
 (.loop
 (.seq (.seq (.region [RM 0 6 2,
 rq 1 7 (.bin .lss (.tm 6) (ki 3))] 2 [0,1,2,7])
 (.cond (.tm 7)
 .skip
 (.exit 0)))
 (.seq (.block 1
 (.region [RF 0 10 2 1,
 RL 1 11 10,
 rq 2 12 (.build [VZ,OZ,OZ,VZ] [(3,1,(ki 3))]),
 rq 3 13 (.bC 4 1 [VZ,OZ,OZ,VZ] [(0,4,(.tm 12))]),
 rq 4 14 (.append 4 (.tm 11) (.tm 13)),
 RF 5 15 2 1,
 rn 6 (.store 1 false (.tm 15) (.tm 14))] 7 [0,1,2]))
 (.region [RM 0 8 2,
 rq 1 9 (.bin .add (.tm 8) (ki 1)),
 RM 2 2 9] 3 [0,1,2]))))))
 (.seq (.seq (.region [rq 0 3 (.move (ki 0))] 1 [0,1,3])
 (.block 2
 (.loop
 (.seq (.seq (.region [RM 0 16 3,
 rq 1 17 (.bin .leq (.tm 16) (ki 3))] 2 [0,1,3,17])
 (.cond (.tm 17)
 .skip
 (.exit 2)))
 (.seq (.block 3
 (.region [RF 0 20 3 1,
 RL 1 21 20,
 rq 2 22 (.build [OZ,OZ,VZ] [(2,1,(ki 2))]),
 rq 3 23 (.bC 3 1 [OZ,OZ,VZ] [(0,3,(.tm 22))]),
 rq 4 24 (.append 3 (.tm 21) (.tm 23)),
 RF 5 25 3 1,
 rn 6 (.store 1 false (.tm 25) (.tm 24))] 7 [0,1,3]))
 (.region [RM 0 18 3,
 rq 1 19 (.bin .add (.tm 18) (ki 1)),
 RM 2 3 19] 3 [0,1,3]))))))
 (.seq (.region [rq 0 26 (.load 5 true (.tm 1)),
 rn 1 (.store 5 true (.tm 0) (.tm 26))] 2 [0])
 .ret)))))
def bjE:List Cert:=[⟨[],[0]⟩,⟨[],[0,1]⟩,⟨[],[0,1,2]⟩,⟨[],[0,1,2,7]⟩,⟨[],[0,1,2]⟩,⟨[],[0,1,2]⟩,⟨[],[0,1,3]⟩,⟨[],[0,1,3,17]⟩,⟨[],[0,1,3]⟩,⟨[],[0,1,3]⟩,⟨[],[0]⟩]
def bhP:List aW:=[.cell 0 5 true]
theorem bi6:aO Try.prog Try.f40 bjE=some (bgW,bhP):=by kernel_rfl
def bgT:AC:=
 (.seq (.region [rq 0 3 (.box true (.tm 0)),
 rq 1 4 (.box true (.tm 1)),
 rq 2 5 (.box true (.tm 2)),
 rq 3 6 (.alloc [OZ,OZ,OZ,OZ,OZ])] 4 [3,4,5,6])
 (.seq (.seq (.region [rq 0 7 (.move (ki 0))] 1 [3,4,5,6,7])
 (.block 0
 (.loop
 (.seq (.seq (.region [RM 0 12 7,
 rq 1 13 (.bin .lss (.tm 12) (ki 3))] 2 [3,4,5,6,7,13])
 (.cond (.tm 13)
 .skip
 (.exit 0)))
 (.seq (.block 1
 (.seq (.region [RF 0 16 0 5,
 RL 1 17 16,
 RM 2 18 7,
 rq 3 19 (.idx 1 (.tm 17) (.tm 18)),
 RL 4 20 19] 5 [3,4,5,6,7,20])
 (.cond (.tm 20)
 (.region [rq 0 21 (.load 5 true (.tm 4)),
 RM 1 22 7,
 rq 2 23 (.call bg8 [(.tm 21),(.tm 22)]),
 rn 3 (.store 5 true (.tm 4) (.tm 23))] 4 [3,4,5,6,7])
 .skip)))
 (.region [RM 0 14 7,
 rq 1 15 (.bin .add (.tm 14) (ki 1)),
 RM 2 7 15] 3 [3,4,5,6,7]))))))
 (.seq (.seq (.region [rq 0 8 (.move (ki 0))] 1 [3,4,5,6,8])
 (.block 2
 (.loop
 (.seq (.seq (.region [RM 0 24 8,
 rq 1 25 (.bin .leq (.tm 24) (ki 3))] 2 [3,4,5,6,8,25])
 (.cond (.tm 25)
 .skip
 (.exit 2)))
 (.seq (.block 3
 (.seq (.region [RF 0 28 1 5,
 RL 1 29 28,
 RM 2 30 8,
 rq 3 31 (.idx 1 (.tm 29) (.tm 30)),
 RL 4 32 31,
 rq 5 33 (.un .not (.tm 32))] 6 [3,4,5,6,8,33])
 (.cond (.tm 33)
 (.region [rq 0 34 (.load 3 true (.tm 3)),
 rq 1 35 (.load 5 true (.tm 4)),
 RM 2 36 8,
 rq 3 37 (.call bg7 [(.tm 34),(.tm 35),(.tm 36)]),
 rn 4 (.store 5 true (.tm 4) (.tm 37))] 5 [3,4,5,6,8])
 .skip)))
 (.region [RM 0 26 8,
 rq 1 27 (.bin .add (.tm 26) (ki 1)),
 RM 2 8 27] 3 [3,4,5,6,8]))))))
 (.seq (.region [rq 0 38 (.kY 1 [(.v (.bool false))] (ki 3) (ki 3)),
 RM 1 9 38] 2 [3,4,5,6,9])
 (.seq (.seq (.region [rq 0 10 (.move (ki 0))] 1 [3,4,5,6,9,10])
 (.block 4
 (.loop
 (.seq (.seq (.region [RM 0 39 10,
 rq 1 40 (.bin .leq (.tm 39) (ki 3))] 2 [3,4,5,6,9,10,40])
 (.cond (.tm 40)
 .skip
 (.exit 4)))
 (.seq (.block 5
 (.region [rq 0 43 (.load 3 true (.tm 3)),
 rq 1 44 (.load 5 true (.tm 4)),
 RM 2 45 10,
 RM 3 46 9,
 rq 4 47 (.call bhG [(.tm 43),(.tm 44),(.tm 45),(.tm 46)]),
 rn 5 (.store 5 true (.tm 4) (.tm 47))] 6 [3,4,5,6,9,10]))
 (.region [RM 0 41 10,
 rq 1 42 (.bin .add (.tm 41) (ki 1)),
 RM 2 10 42] 3 [3,4,5,6,9,10]))))))
 (.seq (.seq (.region [rq 0 11 (.move (ki 0))] 1 [3,4,5,6,11])
 (.block 6
 (.loop
 (.seq (.seq (.region [RM 0 48 11,
 rq 1 49 (.bin .lss (.tm 48) (ki 3))] 2 [3,4,5,6,11,49])
 (.cond (.tm 49)
 .skip
 (.exit 6)))
 (.seq (.block 7
 (.seq (.region [RF 0 52 2 5,
 RL 1 53 52,
 RM 2 54 11,
 rq 3 55 (.idx 1 (.tm 53) (.tm 54)),
 RL 4 56 55,
 RM 5 57 56,
 GQ 6 58 (.load 3 true (.tm 3)) 57 true,
 GQ 7 59 (.load 5 true (.tm 4)) 57 true,
 GQ 8 60 (.move (.tm 11)) 57 true,
 GQ 9 61 (.call bgM [(.tm 58),(.tm 59),(.tm 60)]) 57 true,
 rq 10 62 (.pick (.tm 57) (.tm 61) (.kv (.bool false)))] 11 [3,4,5,6,11,62])
 (.cond (.tm 62)
 (.seq (.region [RF 0 63 2 4,
 ⟨1,(some 64),.load 1 false (.tm 63),none,[15],[],true⟩,
 RM 2 65 11,
 RF 3 66 2 4,
 ⟨4,(some 67),.load 1 false (.tm 66),none,[15],[],false⟩,
 RM 5 68 11,
 rq 6 69 (.idx 4 (.tm 67) (.tm 68)),
 RF 7 70 1 69,
 ⟨8,(some 71),.load 1 false (.tm 70),none,[15],[],false⟩,
 RF 9 72 2 4,
 RL 10 73 72,
 RM 11 74 11,
 rq 12 75 (.idx 4 (.tm 73) (.tm 74)),
 RF 13 76 0 75,
 RL 14 77 76,
 rq 15 78 (.bC 1 1 [VZ] [(0,1,(.tm 77))]),
 ⟨16,(some 79),.append 1 (.tm 71) (.tm 78),none,[],[1],false⟩,
 rq 17 80 (.idx 4 (.tm 64) (.tm 65)),
 RF 18 81 1 80,
 rn 19 (.store 1 false (.tm 81) (.tm 79))] 20 [3,4,5,6,11])
 (.region [RF 0 82 2 4,
 RL 1 83 82,
 RM 2 84 11,
 RF 3 85 2 4,
 RL 4 86 85,
 RM 5 87 11,
 rq 6 88 (.idx 4 (.tm 86) (.tm 87)),
 RF 7 89 0 88,
 RL 8 90 89,
 rq 9 91 (.bin .add (.tm 90) (ki 1)),
 rq 10 92 (.idx 4 (.tm 83) (.tm 84)),
 RF 11 93 0 92,
 rn 12 (.store 1 false (.tm 93) (.tm 91))] 13 [3,4,5,6,11]))
 .skip)))
 (.region [RM 0 50 11,
 rq 1 51 (.bin .add (.tm 50) (ki 1)),
 RM 2 11 51] 3 [3,4,5,6,11]))))))
 (.seq (.region [rq 0 94 (.load 5 true (.tm 4)),
 rn 1 (.store 5 true (.tm 6) (.tm 94))] 2 [6])
 .ret)))))))
def biM:List Cert:=[⟨[],[3,4,5,6]⟩,⟨[],[3,4,5,6,7]⟩,⟨[],[3,4,5,6,7,13]⟩,⟨[],[3,4,5,6,7,20]⟩,⟨[],[3,4,5,6,7]⟩,⟨[],[3,4,5,6,7]⟩,⟨[],[3,4,5,6,8]⟩,⟨[],[3,4,5,6,8,25]⟩,⟨[],[3,4,5,6,8,33]⟩,⟨[],[3,4,5,6,8]⟩,⟨[],[3,4,5,6,8]⟩,⟨[],[3,4,5,6,9]⟩,⟨[],[3,4,5,6,9,10]⟩,⟨[],[3,4,5,6,9,10,40]⟩,⟨[],[3,4,5,6,9,10]⟩,⟨[],[3,4,5,6,9,10]⟩,⟨[],[3,4,5,6,11]⟩,⟨[],[3,4,5,6,11,49]⟩,⟨[],[3,4,5,6,11,62]⟩,⟨[cz 0,(1,[15],[],true),cz 2,cz 3,(4,[15],[],false),cz 5,cz 6,cz 7,(8,[15],[],false),cz 9,cz 10,cz 11,cz 12,cz 13,cz 14,cz 15,(16,[],[1],false),cz 17,cz 18,cz 19],[3,4,5,6,11]⟩,⟨[cz 0,cz 1,cz 2,cz 3,cz 4,cz 5,cz 6,cz 7,cz 8,cz 9,cz 10,cz 11,cz 12],[3,4,5,6,11]⟩,⟨[],[3,4,5,6,11]⟩,⟨[],[6]⟩]
def bhK:List aW:=[.cell 6 5 true]
theorem biJ:aO Try.prog Try.f42 biM=some (bgT,bhK):=by kernel_rfl
def bg0:AC:=
 (.seq (.region [rq 0 1 (.box true (.tm 0)),
 rq 1 2 (.alloc [OZ,OZ,OZ,OZ,OZ])] 2 [1,2])
 (.seq (.region [RF 0 8 0 1,
 ⟨1,(some 9),.load 2 true (.tm 8),none,[7],[],false⟩,
 RF 3 11 4 1,
 ⟨4,(some 12),.load 1 false (.tm 11),none,[7],[],true⟩,
 rq 7 3 (.alloc [OZ,OZ,OZ,OZ,OZ]),
 ⟨2,(some 10),.call aIR [(.tm 9)],none,[7],[4],false⟩,
 ⟨5,(some 13),.call aIM [(.tm 12)],none,[7],[],false⟩,
 rq 6 14 (.build [OZ,OZ,OZ,OZ,OZ] [(0,2,(.tm 10)),(4,1,(.tm 13))]),
 rn 8 (.store 5 true (.tm 3) (.tm 14))] 9 [1,2,3])
 (.seq (.seq (.region [rq 0 4 (.move (ki 0))] 1 [1,2,3,4])
 (.block 0
 (.loop
 (.seq (.seq (.region [RM 0 15 4,
 RF 1 16 2 1,
 RL 2 17 16,
 rq 3 18 (.len false (.tm 17)),
 rq 4 19 (.bin .lss (.tm 15) (.tm 18))] 5 [1,2,3,4,19])
 (.cond (.tm 19)
 .skip
 (.exit 0)))
 (.seq (.block 1
 (.seq (.region [RF 0 22 2 1,
 RL 1 23 22,
 RM 2 24 4,
 rq 3 25 (.idx 4 (.tm 23) (.tm 24)),
 rq 4 26 (.load 4 true (.tm 25)),
 rq 5 5 (.alloc [VZ,OZ,OZ,VZ]),
 rn 6 (.store 4 true (.tm 5) (.tm 26))] 7 [1,2,3,4,5])
 (.region [RF 0 27 2 3,
 ⟨1,(some 28),.load 1 false (.tm 27),none,[4,8,15],[],true⟩,
 RF 2 29 0 5,
 ⟨3,(some 30),.load 1 false (.tm 29),none,[4,8,15],[],true⟩,
 rq 4 31 (.bC 1 0 [VZ] []),
 RF 5 32 1 5,
 ⟨6,(some 33),.load 1 false (.tm 32),none,[4,8],[],false⟩,
 rq 8 35 (.bC 3 0 [VZ,VZ,VZ] []),
 RF 9 36 2 5,
 ⟨10,(some 37),.load 1 false (.tm 36),none,[4,8,15],[],true⟩,
 RF 12 39 3 5,
 ⟨13,(some 40),.load 1 false (.tm 39),none,[4,8,15],[],true⟩,
 ⟨7,(some 34),.append 1 (.tm 31) (.tm 33),none,[8],[1,3,10,13],false⟩,
 ⟨11,(some 38),.append 3 (.tm 35) (.tm 37),none,[],[1,3,13],false⟩,
 rq 14 41 (.build [VZ,OZ,OZ,VZ] [(0,1,(.tm 30)),(1,1,(.tm 34)),(2,1,(.tm 38)),(3,1,(.tm 40))]),
 rq 15 42 (.bC 4 1 [VZ,OZ,OZ,VZ] [(0,4,(.tm 41))]),
 rq 16 43 (.append 4 (.tm 28) (.tm 42)),
 RF 17 44 2 3,
 rn 18 (.store 1 false (.tm 44) (.tm 43))] 19 [1,2,3,4])))
 (.region [RM 0 20 4,
 rq 1 21 (.bin .add (.tm 20) (ki 1)),
 RM 2 4 21] 3 [1,2,3,4]))))))
 (.seq (.seq (.region [rq 0 6 (.move (ki 0))] 1 [1,2,3,6])
 (.block 2
 (.loop
 (.seq (.seq (.region [RM 0 45 6,
 RF 1 46 3 1,
 RL 2 47 46,
 rq 3 48 (.len false (.tm 47)),
 rq 4 49 (.bin .lss (.tm 45) (.tm 48))] 5 [1,2,3,6,49])
 (.cond (.tm 49)
 .skip
 (.exit 2)))
 (.seq (.block 3
 (.seq (.region [RF 0 52 3 1,
 RL 1 53 52,
 RM 2 54 6,
 rq 3 55 (.idx 3 (.tm 53) (.tm 54)),
 rq 4 56 (.load 3 true (.tm 55)),
 rq 5 7 (.alloc [OZ,OZ,VZ]),
 rn 6 (.store 3 true (.tm 7) (.tm 56))] 7 [1,2,3,6,7])
 (.region [RF 0 57 3 3,
 ⟨1,(some 58),.load 1 false (.tm 57),none,[2,12],[],true⟩,
 rq 2 59 (.bC 3 0 [VZ,VZ,VZ] []),
 RF 3 60 0 7,
 ⟨4,(some 61),.load 1 false (.tm 60),none,[2],[],false⟩,
 RF 6 63 1 7,
 ⟨7,(some 64),.load 1 false (.tm 63),none,[2,12],[],true⟩,
 RF 9 66 2 7,
 ⟨10,(some 67),.load 1 false (.tm 66),none,[2,12],[],true⟩,
 ⟨5,(some 62),.append 3 (.tm 59) (.tm 61),none,[],[1,7,10],false⟩,
 ⟨8,(some 65),.call aIM [(.tm 64)],none,[],[1,10],false⟩,
 rq 11 68 (.build [OZ,OZ,VZ] [(0,1,(.tm 62)),(1,1,(.tm 65)),(2,1,(.tm 67))]),
 rq 12 69 (.bC 3 1 [OZ,OZ,VZ] [(0,3,(.tm 68))]),
 rq 13 70 (.append 3 (.tm 58) (.tm 69)),
 RF 14 71 3 3,
 rn 15 (.store 1 false (.tm 71) (.tm 70))] 16 [1,2,3,6])))
 (.region [RM 0 50 6,
 rq 1 51 (.bin .add (.tm 50) (ki 1)),
 RM 2 6 51] 3 [1,2,3,6]))))))
 (.seq (.region [rq 0 72 (.load 5 true (.tm 3)),
 rn 1 (.store 5 true (.tm 2) (.tm 72))] 2 [2])
 .ret)))))
def bjC:List Cert:=[⟨[],[1,2]⟩,⟨[cz 0,(1,[7],[],false),cz 3,(4,[7],[],true),cz 7,(2,[7],[4],false),(5,[7],[],false),cz 6,cz 8],[1,2,3]⟩,⟨[],[1,2,3,4]⟩,⟨[],[1,2,3,4,19]⟩,⟨[],[1,2,3,4,5]⟩,⟨[cz 0,(1,[4,8,15],[],true),cz 2,(3,[4,8,15],[],true),cz 4,cz 5,(6,[4,8],[],false),cz 8,cz 9,(10,[4,8,15],[],true),cz 12,(13,[4,8,15],[],true),(7,[8],[1,3,10,13],false),(11,[],[1,3,13],false),cz 14,cz 15,cz 16,cz 17,cz 18],[1,2,3,4]⟩,⟨[],[1,2,3,4]⟩,⟨[],[1,2,3,6]⟩,⟨[],[1,2,3,6,49]⟩,⟨[],[1,2,3,6,7]⟩,⟨[cz 0,(1,[2,12],[],true),cz 2,cz 3,(4,[2],[],false),cz 6,(7,[2,12],[],true),cz 9,(10,[2,12],[],true),(5,[],[1,7,10],false),(8,[],[1,10],false),cz 11,cz 12,cz 13,cz 14,cz 15],[1,2,3,6]⟩,⟨[],[1,2,3,6]⟩,⟨[],[2]⟩]
def bhN:List aW:=[.cell 2 5 true]
theorem biR:aO Try.prog Try.f43 bjC=some (bg0,bhN):=by kernel_rfl
def bg1:AC:=
 (.seq (.region [rq 0 2 (.box true (.tm 0)),
 rq 1 4 (.alloc [OZ,OZ,OZ,OZ,OZ])] 2 [1,2,4])
 (.seq (.region [rq 0 7 (.load 5 true (.tm 2)),
 RM 1 8 1,
 rq 2 9 (.call bgR [(.tm 7),(.tm 8)]),
 RM 3 5 9] 4 [1,2,4,5])
 (.seq (.seq (.region [RM 0 10 5,
 rq 1 11 (.bin .lss (.tm 10) (ki 0))] 2 [1,2,4,5,11])
 (.cond (.tm 11)
 (.seq (.region [rq 0 12 (.load 5 true (.tm 2)),
 rn 1 (.store 5 true (.tm 4) (.tm 12))] 2 [4])
 .ret)
 .skip))
 (.seq (.region [RF 0 13 3 2,
 RL 1 14 13,
 RM 2 15 5,
 rq 3 16 (.idx 3 (.tm 14) (.tm 15)),
 RF 4 17 1 16,
 RL 5 18 17,
 rq 6 19 (.idx 5 (.tm 18) (ki 0)),
 rq 7 20 (.load 5 true (.tm 19)),
 rq 8 6 (.alloc [VZ,VZ,VZ,VZ,OZ]),
 rn 9 (.store 5 true (.tm 6) (.tm 20))] 10 [1,2,4,5,6])
 (.seq (.region [RF 0 21 3 2,
 ⟨1,(some 22),.load 1 false (.tm 21),none,[],[],true⟩,
 RM 2 23 5,
 RF 3 24 3 2,
 RL 4 25 24,
 RM 5 26 5,
 rq 6 27 (.idx 3 (.tm 25) (.tm 26)),
 RF 7 28 1 27,
 RL 8 29 28,
 rq 9 30 (.slc 5 (.tm 29) (some (ki 1)) none none),
 ⟨10,(some 31),.call aIM [(.tm 30)],none,[],[1],false⟩,
 rq 11 32 (.idx 3 (.tm 22) (.tm 23)),
 RF 12 33 1 32,
 rn 13 (.store 1 false (.tm 33) (.tm 31))] 14 [1,2,4,5,6])
 (.seq (.region [RF 0 34 2 2,
 ⟨1,(some 35),.load 1 false (.tm 34),none,[],[],true⟩,
 RM 2 36 1,
 RF 3 37 2 2,
 RL 4 38 37,
 RM 5 39 1,
 rq 6 40 (.idx 4 (.tm 38) (.tm 39)),
 RF 7 41 2 40,
 RL 8 42 41,
 RF 9 43 1 6,
 RL 10 44 43,
 ⟨11,(some 45),.call bhB [(.tm 42),(.tm 44)],none,[],[1],false⟩,
 rq 12 46 (.idx 4 (.tm 35) (.tm 36)),
 RF 13 47 2 46,
 rn 14 (.store 1 false (.tm 47) (.tm 45))] 15 [1,2,4,5,6])
 (.seq (.region [RF 0 48 2 2,
 RL 1 49 48,
 RM 2 50 1,
 RM 3 51 5,
 rq 4 52 (.idx 4 (.tm 49) (.tm 50)),
 RF 5 53 3 52,
 rn 6 (.store 1 false (.tm 53) (.tm 51))] 7 [2,4,6])
 (.seq (.region [RF 0 54 4 2,
 RL 1 55 54,
 rq 2 56 (.load 5 true (.tm 6)),
 rq 3 57 (.bC 5 1 [VZ,VZ,VZ,VZ,OZ] [(0,5,(.tm 56))]),
 rq 4 58 (.append 5 (.tm 55) (.tm 57)),
 RF 5 59 4 2,
 rn 6 (.store 1 false (.tm 59) (.tm 58))] 7 [2,4])
 (.seq (.region [rq 0 60 (.load 5 true (.tm 2)),
 rn 1 (.store 5 true (.tm 4) (.tm 60))] 2 [4])
 .ret)))))))))
def biN:List Cert:=[⟨[],[1,2,4]⟩,⟨[],[1,2,4,5]⟩,⟨[],[1,2,4,5,11]⟩,⟨[],[4]⟩,⟨[],[1,2,4,5,6]⟩,⟨[cz 0,(1,[],[],true),cz 2,cz 3,cz 4,cz 5,cz 6,cz 7,cz 8,cz 9,(10,[],[1],false),cz 11,cz 12,cz 13],[1,2,4,5,6]⟩,⟨[cz 0,(1,[],[],true),cz 2,cz 3,cz 4,cz 5,cz 6,cz 7,cz 8,cz 9,cz 10,(11,[],[1],false),cz 12,cz 13,cz 14],[1,2,4,5,6]⟩,⟨[],[2,4,6]⟩,⟨[],[2,4]⟩,⟨[],[4]⟩]
def bhM:List aW:=[.cell 4 5 true]
theorem biT:aO Try.prog Try.f55 biN=some (bg1,bhM):=by kernel_rfl
def bg2:AC:=
 (.seq (.region [rq 0 3 (.box true (.tm 0)),
 rq 1 4 (.box true (.tm 1)),
 rq 2 6 (.alloc [OZ,OZ,OZ,OZ,OZ])] 3 [2,3,4,6])
 (.seq (.region [RF 0 11 3 4,
 RL 1 12 11,
 RM 2 13 2,
 rq 3 14 (.idx 3 (.tm 12) (.tm 13)),
 rq 4 15 (.load 3 true (.tm 14)),
 rq 5 7 (.alloc [OZ,OZ,VZ]),
 rn 6 (.store 3 true (.tm 7) (.tm 15))] 7 [2,3,4,6,7])
 (.seq (.seq (.region [RF 0 16 0 7,
 RL 1 17 16,
 rq 2 18 (.len false (.tm 17)),
 rq 3 19 (.bin .eql (.tm 18) (ki 0))] 4 [2,3,4,6,7,19])
 (.cond (.tm 19)
 (.seq (.region [rq 0 20 (.load 5 true (.tm 4)),
 rn 1 (.store 5 true (.tm 6) (.tm 20))] 2 [6])
 .ret)
 .skip))
 (.seq (.seq (.region [rq 0 21 (.load 5 true (.tm 4)),
 RM 1 22 2,
 rq 2 23 (.call bgN [(.tm 21),(.tm 22)]),
 rq 3 24 (.un .not (.tm 23))] 4 [2,3,4,6,7,24])
 (.cond (.tm 24)
 (.seq (.seq (.region [RF 0 25 0 7,
 RL 1 26 25,
 rq 2 27 (.idx 3 (.tm 26) (ki 0)),
 RF 3 28 2 27,
 RL 4 29 28,
 rq 5 30 (.bin .gtr (.tm 29) (ki 0))] 6 [2,4,6,7,30])
 (.cond (.tm 30)
 (.region [RF 0 31 3 4,
 RL 1 32 31,
 RM 2 33 2,
 rq 3 34 (.idx 3 (.tm 32) (.tm 33)),
 RF 4 35 0 34,
 RL 5 36 35,
 RF 6 37 0 7,
 RL 7 38 37,
 rq 8 39 (.idx 3 (.tm 38) (ki 0)),
 RF 9 40 2 39,
 RL 10 41 40,
 rq 11 42 (.bin .sub (.tm 41) (ki 1)),
 rq 12 43 (.idx 3 (.tm 36) (ki 0)),
 RF 13 44 2 43,
 rn 14 (.store 1 false (.tm 44) (.tm 42))] 15 [4,6])
 .skip))
 (.seq (.region [rq 0 45 (.load 5 true (.tm 4)),
 rn 1 (.store 5 true (.tm 6) (.tm 45))] 2 [6])
 .ret))
 .skip))
 (.seq (.region [RF 0 46 0 7,
 RL 1 47 46,
 rq 2 48 (.idx 3 (.tm 47) (ki 0)),
 rq 3 49 (.load 3 true (.tm 48)),
 rq 4 8 (.alloc [VZ,VZ,VZ]),
 rn 5 (.store 3 true (.tm 8) (.tm 49))] 6 [2,3,4,6,7,8])
 (.seq (.region [RF 0 51 0 3,
 ⟨1,(some 52),.load 1 false (.tm 51),none,[20,21],[],false⟩,
 RF 2 53 0 4,
 ⟨3,(some 54),.load 2 true (.tm 53),none,[20,21],[],false⟩,
 RF 4 55 0 8,
 ⟨5,(some 56),.load 1 false (.tm 55),none,[20,21],[],false⟩,
 RF 6 57 2 3,
 ⟨7,(some 58),.load 1 false (.tm 57),none,[20,21],[],false⟩,
 RF 8 59 0 8,
 ⟨9,(some 60),.load 1 false (.tm 59),none,[20,21],[],false⟩,
 rq 10 61 (.idx 1 (.tm 58) (.tm 60)),
 ⟨11,(some 62),.load 1 false (.tm 61),none,[20,21],[],false⟩,
 RF 12 63 1 8,
 ⟨13,(some 64),.load 1 false (.tm 63),none,[20,21],[],false⟩,
 rq 14 65 (.idx 7 (.tm 62) (.tm 64)),
 ⟨15,(some 66),.load 7 true (.tm 65),none,[20,21],[],false⟩,
 rq 20 9 (.alloc [OZ,OZ]),
 rq 21 10 (.alloc [VZ,VZ,OZ]),
 ⟨16,(some 67),.call aN2 [(.tm 52),(.tm 54),(.tm 56),(.tm 66)],none,[20,21],[],false⟩,
 RM 17 50 67,
 rq 18 68 (.ext (.tm 50) 0),
 rq 19 69 (.ext (.tm 50) 1),
 rn 22 (.store 2 true (.tm 9) (.tm 68)),
 rn 23 (.store 3 true (.tm 10) (.tm 69))] 24 [2,4,6,7,8,9,10])
 (.seq (.region [rq 0 70 (.load 2 true (.tm 9)),
 RF 1 71 0 4,
 rn 2 (.store 2 true (.tm 71) (.tm 70))] 3 [2,4,6,7,8,10])
 (.seq (.region [RF 0 72 3 4,
 ⟨1,(some 73),.load 1 false (.tm 72),none,[3],[],true⟩,
 RM 2 74 2,
 rq 3 75 (.bC 3 0 [VZ,VZ,VZ] []),
 RF 4 76 0 7,
 ⟨5,(some 77),.load 1 false (.tm 76),none,[3],[],false⟩,
 rq 6 78 (.slc 3 (.tm 77) (some (ki 1)) none none),
 ⟨7,(some 79),.append 3 (.tm 75) (.tm 78),none,[],[1],false⟩,
 rq 8 80 (.idx 3 (.tm 73) (.tm 74)),
 RF 9 81 0 80,
 rn 10 (.store 1 false (.tm 81) (.tm 79))] 11 [2,4,6,7,8,10])
 (.seq (.region [RF 0 82 3 4,
 ⟨1,(some 83),.load 1 false (.tm 82),none,[11],[],true⟩,
 RM 2 84 2,
 RF 3 85 1 7,
 ⟨4,(some 86),.load 1 false (.tm 85),none,[11],[],false⟩,
 RF 5 87 0 8,
 RL 6 88 87,
 RF 7 89 1 8,
 RL 8 90 89,
 rq 9 91 (.load 3 true (.tm 10)),
 rq 10 92 (.build [VZ,VZ,VZ,VZ,OZ] [(0,1,(.tm 88)),(1,1,(.tm 90)),(2,3,(.tm 91))]),
 rq 11 93 (.bC 5 1 [VZ,VZ,VZ,VZ,OZ] [(0,5,(.tm 92))]),
 ⟨12,(some 94),.append 5 (.tm 86) (.tm 93),none,[],[1],false⟩,
 rq 13 95 (.idx 3 (.tm 83) (.tm 84)),
 RF 14 96 1 95,
 rn 15 (.store 1 false (.tm 96) (.tm 94))] 16 [4,6])
 (.seq (.region [rq 0 97 (.load 5 true (.tm 4)),
 rn 1 (.store 5 true (.tm 6) (.tm 97))] 2 [6])
 .ret))))))))))
def biS:List Cert:=[⟨[],[2,3,4,6]⟩,⟨[],[2,3,4,6,7]⟩,⟨[],[2,3,4,6,7,19]⟩,⟨[],[6]⟩,⟨[],[2,3,4,6,7,24]⟩,⟨[],[2,4,6,7,30]⟩,⟨[cz 0,cz 1,cz 2,cz 3,cz 4,cz 5,cz 6,cz 7,cz 8,cz 9,cz 10,cz 11,cz 12,cz 13,cz 14],[4,6]⟩,⟨[],[6]⟩,⟨[],[2,3,4,6,7,8]⟩,⟨[cz 0,(1,[20,21],[],false),cz 2,(3,[20,21],[],false),cz 4,(5,[20,21],[],false),cz 6,(7,[20,21],[],false),cz 8,(9,[20,21],[],false),cz 10,(11,[20,21],[],false),cz 12,(13,[20,21],[],false),cz 14,(15,[20,21],[],false),cz 20,cz 21,(16,[20,21],[],false),cz 17,cz 18,cz 19,cz 22,cz 23],[2,4,6,7,8,9,10]⟩,⟨[],[2,4,6,7,8,10]⟩,⟨[cz 0,(1,[3],[],true),cz 2,cz 3,cz 4,(5,[3],[],false),cz 6,(7,[],[1],false),cz 8,cz 9,cz 10],[2,4,6,7,8,10]⟩,⟨[cz 0,(1,[11],[],true),cz 2,cz 3,(4,[11],[],false),cz 5,cz 6,cz 7,cz 8,cz 9,cz 10,cz 11,(12,[],[1],false),cz 13,cz 14,cz 15],[4,6]⟩,⟨[],[6]⟩]
def bhS:List aW:=[.cell 6 5 true]
theorem bjA:aO Try.prog Try.f56 biS=some (bg2,bhS):=by kernel_rfl
def bhD:AC:=
 (.seq (.region [rq 0 4 (.box true (.tm 0)),
 rq 1 5 (.box true (.tm 1)),
 rq 2 8 (.alloc [OZ,OZ,OZ,OZ,OZ])] 3 [2,3,4,5,8])
 (.seq (.seq (.region [RF 0 13 3 5,
 RL 1 14 13,
 RM 2 15 2,
 rq 3 16 (.idx 3 (.tm 14) (.tm 15)),
 RF 4 17 0 16,
 RL 5 18 17,
 rq 6 19 (.len false (.tm 18)),
 rq 7 20 (.bin .eql (.tm 19) (ki 2))] 8 [2,3,4,5,8,20])
 (.cond (.tm 20)
 (.seq (.region [rq 0 21 (.load 5 true (.tm 5)),
 rn 1 (.store 5 true (.tm 8) (.tm 21))] 2 [8])
 .ret)
 .skip))
 (.seq (.seq (.region [rq 0 9 (.move (ki 1))] 1 [2,3,4,5,8,9])
 (.block 0
 (.loop
 (.seq (.seq (.region [RM 0 22 9,
 rq 1 23 (.bin .leq (.tm 22) (ki 3))] 2 [2,3,4,5,8,9,23])
 (.cond (.tm 23)
 .skip
 (.exit 0)))
 (.seq (.block 1
 (.seq (.region [RF 0 26 3 5,
 RL 1 27 26,
 RM 2 28 2,
 rq 3 29 (.idx 3 (.tm 27) (.tm 28)),
 RF 4 30 2 29,
 RL 5 31 30,
 RM 6 32 9,
 rq 7 33 (.bin .add (.tm 31) (.tm 32)),
 rq 8 34 (.bin .rem (.tm 33) (ki 3)),
 RM 9 10 34] 10 [2,3,4,5,8,9,10])
 (.seq (.region [RM 0 35 3,
 RM 1 36 10,
 rq 2 37 (.idx 1 (.tm 35) (.tm 36)),
 RL 3 38 37,
 rq 4 39 (.un .not (.tm 38)),
 RM 5 40 39,
 GQ 6 41 (.load 3 true (.tm 4)) 40 true,
 GQ 7 42 (.load 5 true (.tm 5)) 40 true,
 GQ 8 43 (.move (.tm 10)) 40 true,
 GQ 9 44 (.move (.tm 2)) 40 true,
 GQ 10 45 (.call bgQ [(.tm 41),(.tm 42),(.tm 43),(.tm 44)]) 40 true,
 rq 11 46 (.pick (.tm 40) (.tm 45) (.kv (.bool false)))] 12 [2,3,4,5,8,9,10,46])
 (.cond (.tm 46)
 (.seq (.region [RM 0 47 3,
 RM 1 48 10,
 rq 2 49 (.idx 1 (.tm 47) (.tm 48)),
 rn 3 (.store 1 false (.tm 49) (.kv (.bool true)))] 4 [2,4,5,8,10])
 (.seq (.region [RF 0 50 2 5,
 RL 1 51 50,
 RM 2 52 10,
 rq 3 53 (.idx 4 (.tm 51) (.tm 52)),
 rq 4 54 (.load 4 true (.tm 53)),
 rq 5 11 (.alloc [VZ,OZ,OZ,VZ]),
 rn 6 (.store 4 true (.tm 11) (.tm 54))] 7 [2,4,5,8,10,11])
 (.seq (.region [RF 0 55 1 11,
 RL 1 56 55,
 rq 2 57 (.idx 1 (.tm 56) (ki 0)),
 RL 3 58 57,
 RM 4 12 58] 5 [2,4,5,8,10,11,12])
 (.seq (.region [RF 0 59 2 5,
 ⟨1,(some 60),.load 1 false (.tm 59),none,[3],[],true⟩,
 RM 2 61 10,
 rq 3 62 (.bC 1 0 [VZ] []),
 RF 4 63 1 11,
 ⟨5,(some 64),.load 1 false (.tm 63),none,[3],[],false⟩,
 rq 6 65 (.slc 1 (.tm 64) (some (ki 1)) none none),
 ⟨7,(some 66),.append 1 (.tm 62) (.tm 65),none,[],[1],false⟩,
 rq 8 67 (.idx 4 (.tm 60) (.tm 61)),
 RF 9 68 1 67,
 rn 10 (.store 1 false (.tm 68) (.tm 66))] 11 [2,4,5,8,10,11,12])
 (.seq (.region [RF 0 69 2 5,
 ⟨1,(some 70),.load 1 false (.tm 69),none,[9],[],true⟩,
 RM 2 71 10,
 RF 3 72 2 11,
 ⟨4,(some 73),.load 1 false (.tm 72),none,[9],[],false⟩,
 RM 5 74 10,
 RM 6 75 12,
 RM 7 76 2,
 rq 8 77 (.build [VZ,VZ,VZ] [(0,1,(.tm 74)),(1,1,(.tm 75)),(2,1,(.tm 76))]),
 rq 9 78 (.bC 3 1 [VZ,VZ,VZ] [(0,3,(.tm 77))]),
 ⟨10,(some 79),.append 3 (.tm 73) (.tm 78),none,[],[1],false⟩,
 rq 11 80 (.idx 4 (.tm 70) (.tm 71)),
 RF 12 81 2 80,
 rn 13 (.store 1 false (.tm 81) (.tm 79))] 14 [2,4,5,8,10,12])
 (.seq (.region [RF 0 82 3 5,
 ⟨1,(some 83),.load 1 false (.tm 82),none,[17],[],true⟩,
 RM 2 84 2,
 RF 3 85 3 5,
 ⟨4,(some 86),.load 1 false (.tm 85),none,[17],[],false⟩,
 RM 5 87 2,
 rq 6 88 (.idx 3 (.tm 86) (.tm 87)),
 RF 7 89 0 88,
 ⟨8,(some 90),.load 1 false (.tm 89),none,[17],[],false⟩,
 RM 9 91 10,
 RM 10 92 12,
 RF 11 93 1 4,
 RL 12 94 93,
 RM 13 95 2,
 rq 14 96 (.idx 1 (.tm 94) (.tm 95)),
 RL 15 97 96,
 rq 16 98 (.build [VZ,VZ,VZ] [(0,1,(.tm 91)),(1,1,(.tm 92)),(2,1,(.tm 97))]),
 rq 17 99 (.bC 3 1 [VZ,VZ,VZ] [(0,3,(.tm 98))]),
 ⟨18,(some 100),.append 3 (.tm 90) (.tm 99),none,[],[1],false⟩,
 rq 19 101 (.idx 3 (.tm 83) (.tm 84)),
 RF 20 102 0 101,
 rn 21 (.store 1 false (.tm 102) (.tm 100))] 22 [2,5,8,10])
 (.seq (.region [RF 0 103 3 5,
 RL 1 104 103,
 RM 2 105 2,
 RM 3 106 10,
 rq 4 107 (.idx 3 (.tm 104) (.tm 105)),
 RF 5 108 2 107,
 rn 6 (.store 1 false (.tm 108) (.tm 106))] 7 [5,8])
 (.seq (.region [rq 0 109 (.load 5 true (.tm 5)),
 rn 1 (.store 5 true (.tm 8) (.tm 109))] 2 [8])
 .ret))))))))
 .skip))))
 (.region [RM 0 24 9,
 rq 1 25 (.bin .add (.tm 24) (ki 1)),
 RM 2 9 25] 3 [2,3,4,5,8,9]))))))
 (.seq (.region [rq 0 110 (.load 5 true (.tm 5)),
 rn 1 (.store 5 true (.tm 8) (.tm 110))] 2 [8])
 .ret))))
def bjG:List Cert:=[⟨[],[2,3,4,5,8]⟩,⟨[],[2,3,4,5,8,20]⟩,⟨[],[8]⟩,⟨[],[2,3,4,5,8,9]⟩,⟨[],[2,3,4,5,8,9,23]⟩,⟨[],[2,3,4,5,8,9,10]⟩,⟨[],[2,3,4,5,8,9,10,46]⟩,⟨[],[2,4,5,8,10]⟩,⟨[],[2,4,5,8,10,11]⟩,⟨[],[2,4,5,8,10,11,12]⟩,⟨[cz 0,(1,[3],[],true),cz 2,cz 3,cz 4,(5,[3],[],false),cz 6,(7,[],[1],false),cz 8,cz 9,cz 10],[2,4,5,8,10,11,12]⟩,⟨[cz 0,(1,[9],[],true),cz 2,cz 3,(4,[9],[],false),cz 5,cz 6,cz 7,cz 8,cz 9,(10,[],[1],false),cz 11,cz 12,cz 13],[2,4,5,8,10,12]⟩,⟨[cz 0,(1,[17],[],true),cz 2,cz 3,(4,[17],[],false),cz 5,cz 6,cz 7,(8,[17],[],false),cz 9,cz 10,cz 11,cz 12,cz 13,cz 14,cz 15,cz 16,cz 17,(18,[],[1],false),cz 19,cz 20,cz 21],[2,5,8,10]⟩,⟨[],[5,8]⟩,⟨[],[8]⟩,⟨[],[2,3,4,5,8,9]⟩,⟨[],[8]⟩]
def bhW:List aW:=[.cell 8 5 true]
theorem bjN:aO Try.prog Try.f57 bjG=some (bhD,bhW):=by kernel_rfl
def bgV:AC:=
 (.seq (.region [rq 0 3 (.box true (.tm 0)),
 rq 1 4 (.box true (.tm 1)),
 rq 2 6 (.move (.kv (.bool false)))] 3 [2,3,4])
 (.seq (.region [RF 0 7 2 4,
 RL 1 8 7,
 RM 2 9 2,
 rq 3 10 (.idx 4 (.tm 8) (.tm 9)),
 RF 4 11 0 10,
 RL 5 12 11,
 RF 6 13 2 3,
 RL 7 14 13,
 RM 8 15 2,
 rq 9 16 (.idx 1 (.tm 14) (.tm 15)),
 RL 10 17 16,
 rq 11 18 (.len false (.tm 17)),
 rq 12 19 (.bin .lss (.tm 12) (.tm 18)),
 RM 13 20 19,
 GQ 14 21 (.fld 2 (.tm 4)) 20 true,
 GQ 15 22 (.load 1 false (.tm 21)) 20 true,
 GQ 16 23 (.move (.tm 2)) 20 true,
 GQ 17 24 (.idx 4 (.tm 22) (.tm 23)) 20 true,
 GQ 18 25 (.fld 1 (.tm 24)) 20 true,
 GQ 19 26 (.load 1 false (.tm 25)) 20 true,
 GQ 20 27 (.len false (.tm 26)) 20 true,
 GQ 21 28 (.bin .lss (.tm 27) (ki 2)) 20 true,
 rq 22 29 (.pick (.tm 20) (.tm 28) (.kv (.bool false))),
 RM 23 6 29] 24 [6])
 .ret))
def biK:List Cert:=[⟨[],[2,3,4]⟩,⟨[cz 0,cz 1,cz 2,cz 3,cz 4,cz 5,cz 6,cz 7,cz 8,cz 9,cz 10,cz 11,cz 12,cz 13,cz 14,cz 15,cz 16,cz 17,cz 18,cz 19,cz 20,cz 21,cz 22,cz 23],[6]⟩]
def bhI:List aW:=[.tm 6]
theorem biE:aO Try.prog Try.f58 biK=some (bgV,bhI):=by kernel_rfl
theorem biC:aN Try.prog bgM Try.f58 bgV bhI:=
 aN.mk Try.func58 (by kernel_rfl) biE
def bgX:AC:=
 (.seq (.region [rq 0 2 (.box true (.tm 0)),
 rq 1 4 (.move (ki 0))] 2 [1,2])
 (.seq (.seq (.region [rq 0 5 (.move (ki 1))] 1 [1,2,5])
 (.block 0
 (.loop
 (.seq (.seq (.region [RM 0 7 5,
 rq 1 8 (.bin .leq (.tm 7) (ki 4))] 2 [1,2,5,8])
 (.cond (.tm 8)
 .skip
 (.exit 0)))
 (.seq (.block 1
 (.seq (.region [RF 0 11 2 2,
 RL 1 12 11,
 RM 2 13 1,
 rq 3 14 (.idx 4 (.tm 12) (.tm 13)),
 RF 4 15 3 14,
 RL 5 16 15,
 RM 6 17 5,
 rq 7 18 (.bin .add (.tm 16) (.tm 17)),
 rq 8 19 (.bin .rem (.tm 18) (ki 4)),
 RM 9 6 19] 10 [1,2,5,6])
 (.seq (.region [RF 0 20 3 2,
 RL 1 21 20,
 RM 2 22 6,
 rq 3 23 (.idx 3 (.tm 21) (.tm 22)),
 RF 4 24 1 23,
 RL 5 25 24,
 rq 6 26 (.len false (.tm 25)),
 rq 7 27 (.bin .gtr (.tm 26) (ki 0)),
 RM 8 28 27,
 GQ 9 29 (.fld 3 (.tm 2)) 28 true,
 GQ 10 30 (.load 1 false (.tm 29)) 28 true,
 GQ 11 31 (.move (.tm 6)) 28 true,
 GQ 12 32 (.idx 3 (.tm 30) (.tm 31)) 28 true,
 GQ 13 33 (.fld 1 (.tm 32)) 28 true,
 GQ 14 34 (.load 1 false (.tm 33)) 28 true,
 GQ 15 35 (.idx 5 (.tm 34) (ki 0)) 28 true,
 GQ 16 36 (.fld 0 (.tm 35)) 28 true,
 GQ 17 37 (.load 1 false (.tm 36)) 28 true,
 GQ 18 38 (.move (.tm 1)) 28 true,
 GQ 19 39 (.bin .eql (.tm 37) (.tm 38)) 28 true,
 rq 20 40 (.pick (.tm 28) (.tm 39) (.kv (.bool false)))] 21 [1,2,5,6,40])
 (.cond (.tm 40)
 (.seq (.region [RM 0 41 6,
 RM 1 4 41] 2 [4])
 .ret)
 .skip))))
 (.region [RM 0 9 5,
 rq 1 10 (.bin .add (.tm 9) (ki 1)),
 RM 2 5 10] 3 [1,2,5]))))))
 (.seq (.region [rq 0 4 (.move (.kv (.int .i64 (-1))))] 1 [4])
 .ret)))
def biP:List Cert:=[⟨[],[1,2]⟩,⟨[],[1,2,5]⟩,⟨[],[1,2,5,8]⟩,⟨[],[1,2,5,6]⟩,⟨[],[1,2,5,6,40]⟩,⟨[],[4]⟩,⟨[],[1,2,5]⟩,⟨[],[4]⟩]
def bhL:List aW:=[.tm 4]
theorem biQ:aO Try.prog Try.f65 biP=some (bgX,bhL):=by kernel_rfl
theorem biV:aN Try.prog bgR Try.f65 bgX bhL:=
 aN.mk Try.func65 (by kernel_rfl) biQ
def bg4:AC:=
 (.seq (.region [rq 0 4 (.move (.kv (.slice none 0 0)))] 1 [0,1])
 (.seq (.region [rq 0 7 (.bC 3 0 [VZ,VZ,VZ] []),
 RM 1 5 7] 2 [0,1,5])
 (.seq (.seq (.region [rq 0 6 (.move (ki 0))] 1 [0,1,5,6])
 (.block 0
 (.loop
 (.seq (.seq (.region [RM 0 8 6,
 RM 1 9 0,
 rq 2 10 (.len false (.tm 9)),
 rq 3 11 (.bin .lss (.tm 8) (.tm 10))] 4 [0,1,5,6,11])
 (.cond (.tm 11)
 .skip
 (.exit 0)))
 (.seq (.block 1
 (.seq (.region [RM 0 14 0,
 RM 1 15 6,
 rq 2 16 (.idx 3 (.tm 14) (.tm 15)),
 RF 3 17 1 16,
 RL 4 18 17,
 RM 5 19 1,
 rq 6 20 (.bin .neq (.tm 18) (.tm 19))] 7 [0,1,5,6,20])
 (.cond (.tm 20)
 (.region [RM 0 21 5,
 RM 1 22 0,
 RM 2 23 6,
 rq 3 24 (.idx 3 (.tm 22) (.tm 23)),
 rq 4 25 (.load 3 true (.tm 24)),
 rq 5 26 (.bC 3 1 [VZ,VZ,VZ] [(0,3,(.tm 25))]),
 rq 6 27 (.append 3 (.tm 21) (.tm 26)),
 RM 7 5 27] 8 [0,1,5,6])
 .skip)))
 (.region [RM 0 12 6,
 rq 1 13 (.bin .add (.tm 12) (ki 1)),
 RM 2 6 13] 3 [0,1,5,6]))))))
 (.seq (.region [RM 0 28 5,
 RM 1 4 28] 2 [4])
 .ret))))
def biX:List Cert:=[⟨[],[0,1]⟩,⟨[],[0,1,5]⟩,⟨[],[0,1,5,6]⟩,⟨[],[0,1,5,6,11]⟩,⟨[],[0,1,5,6,20]⟩,⟨[],[0,1,5,6]⟩,⟨[],[0,1,5,6]⟩,⟨[],[4]⟩]
def bhR:List aW:=[.tm 4]
theorem biU:aO Try.prog Try.f66 biX=some (bg4,bhR):=by kernel_rfl
def bgU:AC:=
 (.seq (.region [rq 0 2 (.box true (.tm 0)),
 rq 1 4 (.move (.kv (.bool false)))] 2 [1,2])
 (.seq (.region [RF 0 6 3 2,
 RL 1 7 6,
 RM 2 8 1,
 rq 3 9 (.idx 3 (.tm 7) (.tm 8)),
 rq 4 10 (.load 3 true (.tm 9)),
 rq 5 5 (.alloc [OZ,OZ,VZ]),
 rn 6 (.store 3 true (.tm 5) (.tm 10))] 7 [5])
 (.seq (.region [RF 0 11 0 5,
 RL 1 12 11,
 rq 2 13 (.len false (.tm 12)),
 rq 3 14 (.bin .gtr (.tm 13) (ki 0)),
 RM 4 15 14,
 GQ 5 16 (.fld 0 (.tm 5)) 15 true,
 GQ 6 17 (.load 1 false (.tm 16)) 15 true,
 GQ 7 18 (.idx 3 (.tm 17) (ki 0)) 15 true,
 GQ 8 19 (.fld 2 (.tm 18)) 15 true,
 GQ 9 20 (.load 1 false (.tm 19)) 15 true,
 GQ 10 21 (.bin .eql (.tm 20) (ki 0)) 15 true,
 rq 11 22 (.pick (.tm 15) (.tm 21) (.kv (.bool false))),
 RM 12 23 22,
 GQ 13 24 (.fld 1 (.tm 5)) 23 true,
 GQ 14 25 (.load 1 false (.tm 24)) 23 true,
 GQ 15 26 (.len false (.tm 25)) 23 true,
 GQ 16 27 (.bin .lss (.tm 26) (ki 2)) 23 true,
 rq 17 28 (.pick (.tm 23) (.tm 27) (.kv (.bool false))),
 RM 18 4 28] 19 [4])
 .ret)))
def biD:List Cert:=[⟨[],[1,2]⟩,⟨[],[5]⟩,⟨[],[4]⟩]
def bhH:List aW:=[.tm 4]
theorem biF:aO Try.prog Try.f67 biD=some (bgU,bhH):=by kernel_rfl
theorem biH:aN Try.prog bgN Try.f67 bgU bhH:=
 aN.mk Try.func67 (by kernel_rfl) biF
def bg5:AC:=
 (.seq (.region [rq 0 4 (.box true (.tm 0)),
 rq 1 5 (.box true (.tm 1)),
 rq 2 8 (.move (.kv (.bool false)))] 3 [2,3,4,5])
 (.seq (.region [RF 0 12 2 5,
 RL 1 13 12,
 RM 2 14 2,
 rq 3 15 (.idx 4 (.tm 13) (.tm 14)),
 rq 4 16 (.load 4 true (.tm 15)),
 rq 5 9 (.alloc [VZ,OZ,OZ,VZ]),
 rn 6 (.store 4 true (.tm 9) (.tm 16))] 7 [2,3,4,9])
 (.seq (.seq (.region [RF 0 17 1 9,
 RL 1 18 17,
 rq 2 19 (.len false (.tm 18)),
 rq 3 20 (.bin .eql (.tm 19) (ki 0)),
 RM 4 21 20,
 GQ 5 22 (.fld 2 (.tm 9)) 21 false,
 GQ 6 23 (.load 1 false (.tm 22)) 21 false,
 GQ 7 24 (.len false (.tm 23)) 21 false,
 GQ 8 25 (.bin .eql (.tm 24) (ki 4)) 21 false,
 rq 9 26 (.pick (.tm 21) (.kv (.bool true)) (.tm 25))] 10 [2,3,4,9,26])
 (.cond (.tm 26)
 (.seq (.region [rq 0 8 (.move (.kv (.bool false)))] 1 [8])
 .ret)
 .skip))
 (.seq (.region [RF 0 27 2 4,
 ⟨1,(some 28),.load 1 false (.tm 27),none,[11],[],false⟩,
 RM 2 29 2,
 rq 3 30 (.idx 1 (.tm 28) (.tm 29)),
 ⟨4,(some 31),.load 1 false (.tm 30),none,[11],[],false⟩,
 RF 5 32 1 9,
 ⟨6,(some 33),.load 1 false (.tm 32),none,[11],[],false⟩,
 rq 7 34 (.idx 1 (.tm 33) (ki 0)),
 ⟨8,(some 35),.load 1 false (.tm 34),none,[11],[],false⟩,
 rq 9 36 (.idx 7 (.tm 31) (.tm 35)),
 ⟨10,(some 37),.load 7 true (.tm 36),none,[11],[],false⟩,
 rq 11 10 (.alloc [VZ,VZ,VZ,VZ,(.v (.bool false)),OZ,OZ]),
 rn 12 (.store 7 true (.tm 10) (.tm 37))] 13 [2,3,4,9,10])
 (.seq (.seq (.region [RF 0 38 0 4,
 RL 1 39 38,
 rq 2 40 (.load 7 true (.tm 10)),
 rq 3 41 (.call y3 [(.tm 39),(.tm 40)]),
 RM 4 42 3,
 rq 5 43 (.bin .neq (.tm 41) (.tm 42))] 6 [2,3,4,9,10,43])
 (.cond (.tm 43)
 (.seq (.region [rq 0 8 (.move (.kv (.bool false)))] 1 [8])
 .ret)
 .skip))
 (.seq (.seq (.region [rq 0 11 (.move (ki 0))] 1 [2,3,4,9,10,11])
 (.block 0
 (.loop
 (.seq (.seq (.region [RM 0 44 11,
 RF 1 45 2 9,
 RL 2 46 45,
 rq 3 47 (.len false (.tm 46)),
 rq 4 48 (.bin .lss (.tm 44) (.tm 47))] 5 [2,3,4,9,10,11,48])
 (.cond (.tm 48)
 .skip
 (.exit 0)))
 (.seq (.block 1
 (.seq (.region [RF 0 51 2 4,
 RL 1 52 51,
 RM 2 53 2,
 rq 3 54 (.idx 1 (.tm 52) (.tm 53)),
 RL 4 55 54,
 RF 5 56 2 9,
 RL 6 57 56,
 RM 7 58 11,
 rq 8 59 (.idx 3 (.tm 57) (.tm 58)),
 RF 9 60 1 59,
 RL 10 61 60,
 rq 11 62 (.idx 7 (.tm 55) (.tm 61)),
 RF 12 63 0 62,
 RL 13 64 63,
 RF 14 65 0 10,
 RL 15 66 65,
 rq 16 67 (.bin .eql (.tm 64) (.tm 66)),
 RM 17 68 67,
 GQ 18 69 (.fld 2 (.tm 9)) 68 true,
 GQ 19 70 (.load 1 false (.tm 69)) 68 true,
 GQ 20 71 (.move (.tm 11)) 68 true,
 GQ 21 72 (.idx 3 (.tm 70) (.tm 71)) 68 true,
 GQ 22 73 (.fld 2 (.tm 72)) 68 true,
 GQ 23 74 (.load 1 false (.tm 73)) 68 true,
 GQ 24 75 (.move (.tm 3)) 68 true,
 GQ 25 76 (.bin .neq (.tm 74) (.tm 75)) 68 true,
 rq 26 77 (.pick (.tm 68) (.tm 76) (.kv (.bool false)))] 27 [2,3,4,9,10,11,77])
 (.cond (.tm 77)
 (.seq (.region [rq 0 8 (.move (.kv (.bool false)))] 1 [8])
 .ret)
 .skip)))
 (.region [RM 0 49 11,
 rq 1 50 (.bin .add (.tm 49) (ki 1)),
 RM 2 11 50] 3 [2,3,4,9,10,11]))))))
 (.seq (.region [rq 0 8 (.move (.kv (.bool true)))] 1 [8])
 .ret)))))))
def bjB:List Cert:=[⟨[],[2,3,4,5]⟩,⟨[],[2,3,4,9]⟩,⟨[],[2,3,4,9,26]⟩,⟨[],[8]⟩,⟨[cz 0,(1,[11],[],false),cz 2,cz 3,(4,[11],[],false),cz 5,(6,[11],[],false),cz 7,(8,[11],[],false),cz 9,(10,[11],[],false),cz 11,cz 12],[2,3,4,9,10]⟩,⟨[],[2,3,4,9,10,43]⟩,⟨[],[8]⟩,⟨[],[2,3,4,9,10,11]⟩,⟨[],[2,3,4,9,10,11,48]⟩,⟨[cz 0,cz 1,cz 2,cz 3,cz 4,cz 5,cz 6,cz 7,cz 8,cz 9,cz 10,cz 11,cz 12,cz 13,cz 14,cz 15,cz 16,cz 17,cz 18,cz 19,cz 20,cz 21,cz 22,cz 23,cz 24,cz 25,cz 26],[2,3,4,9,10,11,77]⟩,⟨[],[8]⟩,⟨[],[2,3,4,9,10,11]⟩,⟨[],[8]⟩]
def bhU:List aW:=[.tm 8]
theorem biW:aO Try.prog Try.f69 bjB=some (bg5,bhU):=by kernel_rfl
theorem biY:aN Try.prog bgQ Try.f69 bg5 bhU:=
 aN.mk Try.func69 (by kernel_rfl) biW
end Go.Proofs.Ytmccpdapaccnoaa
end
section
namespace Go.Proofs.Ytmccpdapaccnoaa
open Go Go.AM
set_option maxRecDepth 100000
set_option maxHeartbeats 8000000
section
variable {H : aA} {nx : Nat} {K : D → aA → Nat → Prop}
theorem bjK (c:Cfg) (s:CSt) (i:CIn) (k:Nat) (hs:COk c s) (hk:k<3) (hr:i.ready.getD k default=true):aB Try.prog bgR [dA (eI s),dI k] .nil 0 fun rr _ _=>rr.plain=true∧(fun r=>(vT i s k=none∧r=dI (-1))∨ ∃st:Nat,st<4∧vT i s k=some (.tell k st)∧r=dI st) rr:=by
 refine biV rfl fun Q hQ=> ?_
 unfold bgX
 have hpl:=hs.pl
 have hsl:=hs.sl
 obtain⟨hla,hlb⟩:=(hs.port k hk).last
 obtain⟨p,hp⟩: ∃p,s.bM.getD k default=p:=⟨_,rfl⟩
 have hp':aF s k=p:=hp
 rw[hp'] at hla hlb
 repeat' (first| (with_reducible first| (refine hK _ _ _ ?_;clear hK K)|refine Z1 ?_|refine Z3 fun KB hKB=> ?_)| (with_reducible refine Y2 fun K hK=> ?_)<;>(simp only[go_sem])|fail)
 (have hKX:=hKB;clear hKB)
 refine aM.gP (β:=Nat) (fun j=>en [(5,dI j),(2,.one (.c (.ptr 5 0 0 0))),(1,dI k)]) (fun j H1 _=>H1 0=some ⟨5,1,[eI s]⟩∧1≤j∧j≤5∧ ∀j',1≤j'→j'<j→NN s k (pQ s k j')=false) (fun j=>5-j) 1 ⟨noF,_,by repeat' (first| (with_reducible first|exact C1|refine C2 ?_ ?_)| ((with_reducible refine C0 ?_);exact CE (by omega) rfl)| ((with_reducible refine D0 ?_);first|exact CA rfl|refine CJ ?_)|fail),aK,rfl,by omega,by omega,fun j' h1 h2=>by omega⟩ ?_
 rintro j H1 nx1 hnx1 ⟨g0,hj1,hj5,hinv⟩ KL hKL
 by_cases hj4:j≤4
 ·obtain⟨st,hst⟩: ∃st,st=pQ s k j:=⟨_,rfl⟩
  have hst':st=((p.last+(j:Int))%4).toNat:=by rw[hst,←hp'];rfl
  have hst4:st<4:=by omega
  have hmod:(p.last+(j:Int)).tmod 4=(st:Int):=by rw[Int.tmod_eq_emod_of_nonneg (by omega)];omega
  obtain⟨v,hv⟩: ∃v,s.dD.getD st default=v:=⟨_,rfl⟩
  have hv':aL s st=v:=hv
  by_cases hd0:v.done.length=0
  ·have hlen:(0<(v.done.length:Int))=False:=eq_false (by omega)
   repeat' (first| (with_reducible first| (refine hK _ _ _ ?_;clear hK K)| (refine hA ?_;clear hA hB A B)| (refine hB ?_;clear hA hB A B)|refine Z1 ?_|refine Z2 ?_|refine Z3 fun KB hKB=> ?_|refine Z4 (by omega) ?_)| (with_reducible first|refine Y2 fun K hK=> ?_|refine Y3 fun A B hA hB=> ?_)<;>(simp only[go_sem,g0,hpl,hsl,hp,hv,hmod,hlen];try simp (disch:=omega) only[Iw])| ((with_reducible refine Y0 ?_);simp only[AQ.then,AQ.blk])|refine⟨by omega,?_⟩| (with_reducible refine hKB _ _ _ ?_)|fail)
   exact hKL _ _ _ (j+1) noF _ (by omega) (by omega) (by repeat' (first| (with_reducible first|exact C1|refine C2 ?_ ?_)| ((with_reducible refine C0 ?_);exact CE (by omega) rfl)| ((with_reducible refine D0 ?_);first|exact CA rfl|refine CJ ?_)|fail)) aK ⟨g0,by omega,by omega,fun j' h1 h2=>by
    by_cases hj:j'<j
    ·exact hinv j' h1 hj
    ·have:j'=j:=by omega
     subst this
     rw[←hst]
     exact decide_eq_false fun hc=>by rw[hv'] at hc;omega⟩
  have hlen:(0<(v.done.length:Int))=True:=eq_true (by omega)
  obtain⟨d,hd⟩: ∃d,v.done.getD 0 default=d:=⟨_,rfl⟩
  by_cases hwho:d.who=k
  ·have hwt:(d.who=(k:Int))=True:=eq_true hwho
   repeat' (first| (with_reducible first| (refine hK _ _ _ ?_;clear hK K)| (refine hA ?_;clear hA hB A B)|refine Z1 ?_|refine Z2 ?_|refine Z3 fun KB hKB=> ?_|refine Z4 (by omega) ?_)| (with_reducible first|refine Y2 fun K hK=> ?_|refine Y3 fun A B hA hB=> ?_)<;>(simp only[go_sem,g0,hpl,hsl,hp,hv,hmod,hlen,hd,hwt];try simp (disch:=omega) only[Iw])| ((with_reducible refine Y8 ?_);try simp only[AQ.then,AQ.blk,reduceIte,Nat.reduceEqDiff])|refine⟨by omega,?_⟩|fail)
   refine aZ hQ _ rfl rfl (.inr ⟨st,hst4,?_,rfl⟩)
   rw[hst]
   exact acB hr hj1 hj4 hinv (by rw[←hst];exact decide_eq_true ⟨by rw[hv'];omega,by rw[hv',hd];exact hwho⟩)
  ·have hwf:(d.who=(k:Int))=False:=eq_false hwho
   repeat' (first| (with_reducible first| (refine hK _ _ _ ?_;clear hK K)| (refine hA ?_;clear hA hB A B)| (refine hB ?_;clear hA hB A B)|refine Z1 ?_|refine Z2 ?_|refine Z3 fun KB hKB=> ?_|refine Z4 (by omega) ?_)| (with_reducible first|refine Y2 fun K hK=> ?_|refine Y3 fun A B hA hB=> ?_)<;>(simp only[go_sem,g0,hpl,hsl,hp,hv,hmod,hlen,hd,hwf];try simp (disch:=omega) only[Iw])| ((with_reducible refine Y0 ?_);simp only[AQ.then,AQ.blk])|refine⟨by omega,?_⟩| (with_reducible refine hKB _ _ _ ?_)|fail)
   exact hKL _ _ _ (j+1) noF _ (by omega) (by omega) (by repeat' (first| (with_reducible first|exact C1|refine C2 ?_ ?_)| ((with_reducible refine C0 ?_);exact CE (by omega) rfl)| ((with_reducible refine D0 ?_);first|exact CA rfl|refine CJ ?_)|fail)) aK ⟨g0,by omega,by omega,fun j' h1 h2=>by
    by_cases hj:j'<j
    ·exact hinv j' h1 hj
    ·have:j'=j:=by omega
     subst this
     rw[←hst]
     exact decide_eq_false fun hc=>hwho (by rw[←hd,←hv'];exact hc.2)⟩
 ·repeat' (first| (with_reducible first| (refine hK _ _ _ ?_;clear hK K)| (refine hB ?_;clear hA hB A B)|refine Z1 ?_|refine Z5 (by omega) ?_|refine hKX _ _ _ ?_)| (with_reducible first|refine Y2 fun K hK=> ?_|refine Y3 fun A B hA hB=> ?_)<;>(simp only[go_sem])| ((with_reducible first|refine Y8 ?_|refine Y9 ?_);try simp only[AQ.then,AQ.blk,reduceIte,Nat.reduceEqDiff])|fail)
  exact aZ hQ _ rfl rfl (.inl ⟨acZ fun j' h1 h2=>hinv j' h1 (by omega),rfl⟩)
theorem bjH {c:Cfg} {s:CSt} {i:CIn} {k:Nat} (hs:COk c s) (hk:k<3) (hr:i.ready.getD k default=true) {d0:D} (hd0:CvD H (fun _=>True) id 0 (dA (eI s)) d0) (h: ∀r,(fun r=>(vT i s k=none∧r=dI (-1))∨ ∃st:Nat,st<4∧vT i s k=some (.tell k st)∧r=dI st) r→K r H nx):aB Try.prog bgR [d0,dI k] H nx K:=
 (bjK c s i k hs hk hr).pure rfl (aI ⟨hd0,aE rfl,trivial⟩) (h)
theorem bi4 (c:Cfg) (s:CSt) (st:Nat) (hs:COk c s) (hst:st<4):aB Try.prog bgN [dA (eI s),dI st] .nil 0 fun rr _ _=>rr.plain=true∧rr=dB (decide (0<(aL s st).pipe.length∧(bI s st).left=0∧(aL s st).done.length<2)):=by
 refine biH rfl fun Q hQ=> ?_
 unfold bgU
 have hsl:=hs.sl
 obtain⟨v,hv⟩: ∃v,s.dD.getD st default=v:=⟨_,rfl⟩
 have hv':aL s st=v:=hv
 obtain⟨d,hd⟩: ∃d,v.pipe.getD 0 default=d:=⟨_,rfl⟩
 have e:(0<(aL s st).pipe.length∧(bI s st).left=0∧(aL s st).done.length<2)↔(0<v.pipe.length∧d.left=0∧v.done.length<2):=by unfold bI;rw[hv',hd]
 repeat' (first| (with_reducible first| (refine hK _ _ _ ?_;clear hK K)|refine Z1 ?_)| (with_reducible first|refine Y2 fun K hK=> ?_|refine Y6 (fun h=> ?_) fun h=> ?_)<;>(simp only[go_sem,hsl,hv,hd])| ((with_reducible refine Y8 ?_);try simp only[AQ.then,AQ.blk,reduceIte,Nat.reduceEqDiff])|refine⟨by omega,?_⟩|fail)
 all_goals first|exact aZ hQ _ rfl rfl (pD (by rw[e];omega))|exact aZ hQ _ rfl rfl (j7 (by rw[e];omega))|exact aZ hQ _ rfl rfl (q9 (by rw[e];omega))
theorem bgY {c:Cfg} {s:CSt} {st:Nat} (hs:COk c s) (hst:st<4) {d0:D} (hd0:CvD H (fun _=>True) id 0 (dA (eI s)) d0) (h:K (dB (decide (0<(aL s st).pipe.length∧(bI s st).left=0∧(aL s st).done.length<2))) H nx):aB Try.prog bgN [d0,dI st] H nx K:=
 (bi4 c s st hs hst).pure rfl (aI ⟨hd0,aE rfl,trivial⟩) (fun r hr=>hr▸h)
theorem biO (c:Cfg) (s:CSt) (k:Nat) (hb:aQ c) (hs:COk c s) (hk:k<3):aB Try.prog bgM [dA (cU c),dA (eI s),dI k] .nil 0 fun rr _ _=>rr.plain=true∧rr=dB (decide ((aF s k).queue.length<2∧(aF s k).next<(c.cP.getD k default).length)):=by
 refine biC rfl fun Q hQ=> ?_
 unfold bgV
 have hpl:=hs.pl
 have hp3:=(hC hb).1
 obtain⟨p,hp⟩: ∃p,s.bM.getD k default=p:=⟨_,rfl⟩
 have hp':aF s k=p:=hp
 have e:((aF s k).queue.length<2∧(aF s k).next<(c.cP.getD k default).length)↔(p.queue.length<2∧p.next<(c.cP.getD k default).length):=by rw[hp']
 repeat' (first| (with_reducible first| (refine hK _ _ _ ?_;clear hK K)|refine Z1 ?_)| (with_reducible first|refine Y2 fun K hK=> ?_|refine Y6 (fun h=> ?_) fun h=> ?_)<;>(simp only[go_sem,hpl,hp,hp3])| ((with_reducible refine Y8 ?_);try simp only[AQ.then,AQ.blk,reduceIte,Nat.reduceEqDiff])|refine⟨by omega,?_⟩|fail)
 all_goals first|exact aZ hQ _ rfl rfl (pD (by rw[e];omega))|exact aZ hQ _ rfl rfl (j7 (by rw[e];omega))|exact aZ hQ _ rfl rfl (q9 (by rw[e];omega))
theorem bhT {c:Cfg} {s:CSt} {k:Nat} (hb:aQ c) (hs:COk c s) (hk:k<3) {d1:D} (hd1:CvD H (fun _=>True) id 0 (dA (eI s)) d1) (h:K (dB (decide ((aF s k).queue.length<2∧(aF s k).next<(c.cP.getD k default).length))) H nx):aB Try.prog bgM [dA (cU c),d1,dI k] H nx K:=
 (biO c s k hb hs hk).pure rfl (aI ⟨aE rfl,hd1,aE rfl,trivial⟩) (fun r hr=>hr▸h)
end
end Go.Proofs.Ytmccpdapaccnoaa
end
section
namespace Go.Proofs.Ytmccpdapaccnoaa
open Go Go.AM
set_option maxRecDepth 100000
def aBO:AC:=
 (.seq (.region [rq 0 2 (.move (.kv (.bool false)))] 1 [0])
 (.seq (.seq (.region [RM 0 6 0,
 rq 1 7 (.len false (.tm 6)),
 rq 2 8 (.bin .gtr (.tm 7) (ki 4))] 3 [0,8])
 (.cond (.tm 8)
 (.seq (.region [rq 0 2 (.move (.kv (.bool false)))] 1 [2])
 .ret)
 .skip))
 (.seq (.seq (.region [rq 0 3 (.move (ki 0))] 1 [0,3])
 (.block 0
 (.loop
 (.seq (.seq (.region [RM 0 9 3,
 RM 1 10 0,
 rq 2 11 (.len false (.tm 10)),
 rq 3 12 (.bin .lss (.tm 9) (.tm 11))] 4 [0,3,12])
 (.cond (.tm 12)
 .skip
 (.exit 0)))
 (.seq (.block 1
 (.seq (.region [RM 0 15 0,
 RM 1 16 3,
 rq 2 17 (.idx 4 (.tm 15) (.tm 16)),
 rq 3 18 (.load 4 true (.tm 17)),
 rq 4 4 (.alloc [VZ,VZ,VZ,(.v (.bool false))]),
 rn 5 (.store 4 true (.tm 4) (.tm 18))] 6 [0,3,4])
 (.seq (.seq (.region [RF 0 19 0 4,
 RL 1 20 19,
 RF 2 21 1 4,
 RL 3 22 21,
 rq 4 23 (.call y2 [(.tm 20),(ki 0),(.tm 22)]),
 rq 5 24 (.un .not (.tm 23)),
 RM 6 25 24,
 GQ 7 26 (.fld 1 (.tm 4)) 25 false,
 GQ 8 27 (.load 1 false (.tm 26)) 25 false,
 GQ 9 28 (.bin .gtr (.tm 27) (ki 63)) 25 false,
 rq 10 29 (.pick (.tm 25) (.kv (.bool true)) (.tm 28)),
 RM 11 30 29,
 GQ 12 31 (.fld 2 (.tm 4)) 30 false,
 GQ 13 32 (.load 1 false (.tm 31)) 30 false,
 GQ 14 33 (.call y2 [(.tm 32),(ki 0),(ki 2)]) 30 false,
 GQ 15 34 (.un .not (.tm 33)) 30 false,
 rq 16 35 (.pick (.tm 30) (.kv (.bool true)) (.tm 34))] 17 [0,3,4,35])
 (.cond (.tm 35)
 (.seq (.region [rq 0 2 (.move (.kv (.bool false)))] 1 [2])
 .ret)
 .skip))
 (.seq (.region [rq 0 5 (.move (ki 0))] 1 [0,3,4,5])
 (.block 2
 (.loop
 (.seq (.seq (.region [RM 0 36 5,
 RM 1 37 3,
 rq 2 38 (.bin .lss (.tm 36) (.tm 37))] 3 [0,3,4,5,38])
 (.cond (.tm 38)
 .skip
 (.exit 2)))
 (.seq (.block 3
 (.seq (.region [RF 0 41 0 4,
 RL 1 42 41,
 RM 2 43 0,
 RM 3 44 5,
 rq 4 45 (.idx 4 (.tm 43) (.tm 44)),
 RF 5 46 1 45,
 RL 6 47 46,
 rq 7 48 (.bin .leq (.tm 42) (.tm 47)),
 RM 8 49 48,
 GQ 9 50 (.move (.tm 0)) 49 true,
 GQ 10 51 (.move (.tm 5)) 49 true,
 GQ 11 52 (.idx 4 (.tm 50) (.tm 51)) 49 true,
 GQ 12 53 (.fld 0 (.tm 52)) 49 true,
 GQ 13 54 (.load 1 false (.tm 53)) 49 true,
 GQ 14 55 (.fld 1 (.tm 4)) 49 true,
 GQ 15 56 (.load 1 false (.tm 55)) 49 true,
 GQ 16 57 (.bin .leq (.tm 54) (.tm 56)) 49 true,
 rq 17 58 (.pick (.tm 49) (.tm 57) (.kv (.bool false)))] 18 [0,3,4,5,58])
 (.cond (.tm 58)
 (.seq (.region [rq 0 2 (.move (.kv (.bool false)))] 1 [2])
 .ret)
 .skip)))
 (.region [RM 0 39 5,
 rq 1 40 (.bin .add (.tm 39) (ki 1)),
 RM 2 5 40] 3 [0,3,4,5])))))))))
 (.region [RM 0 13 3,
 rq 1 14 (.bin .add (.tm 13) (ki 1)),
 RM 2 3 14] 3 [0,3]))))))
 (.seq (.region [rq 0 2 (.move (.kv (.bool true)))] 1 [2])
 .ret))))
def aDQ:List Cert:=[⟨[],[0]⟩,⟨[],[0,8]⟩,⟨[],[2]⟩,⟨[],[0,3]⟩,⟨[],[0,3,12]⟩,⟨[],[0,3,4]⟩,⟨[],[0,3,4,35]⟩,⟨[],[2]⟩,⟨[],[0,3,4,5]⟩,⟨[],[0,3,4,5,38]⟩,⟨[cz 0,cz 1,cz 2,cz 3,cz 4,cz 5,cz 6,cz 7,cz 8,cz 9,cz 10,cz 11,cz 12,cz 13,cz 14,cz 15,cz 16,cz 17],[0,3,4,5,58]⟩,⟨[],[2]⟩,⟨[],[0,3,4,5]⟩,⟨[],[0,3]⟩,⟨[],[2]⟩]
def aB3:List aW:=[.tm 2]
theorem aDZ:aO Try.prog Try.f81 aDQ=some (aBO,aB3):=by kernel_rfl
theorem aDM:aN Try.prog aBG Try.f81 aBO aB3:=
 aN.mk Try.func81 (by kernel_rfl) aDZ
def aBM:AC:=
 (.seq (.region [rq 0 1 (.box true (.tm 0)),
 rq 1 2 (.move (.kv (.bool false)))] 2 [1])
 (.seq (.seq (.region [RF 0 3 0 1,
 RL 1 4 3,
 rq 2 5 (.call y2 [(.tm 4),(ki 0),(ki 1)]),
 rq 3 6 (.un .not (.tm 5)),
 RM 4 7 6,
 GQ 5 8 (.fld 1 (.tm 1)) 7 false,
 GQ 6 9 (.load 1 false (.tm 8)) 7 false,
 GQ 7 10 (.call y2 [(.tm 9),(ki 1),(ki 4)]) 7 false,
 GQ 8 11 (.un .not (.tm 10)) 7 false,
 rq 9 12 (.pick (.tm 7) (.kv (.bool true)) (.tm 11)),
 RM 10 13 12,
 GQ 11 14 (.fld 2 (.tm 1)) 13 false,
 GQ 12 15 (.load 1 false (.tm 14)) 13 false,
 GQ 13 16 (.fld 3 (.tm 1)) 13 false,
 GQ 14 17 (.load 1 false (.tm 16)) 13 false,
 GQ 15 18 (.fld 4 (.tm 1)) 13 false,
 GQ 16 19 (.load 1 false (.tm 18)) 13 false,
 GQ 17 20 (.call aA6 [(.tm 15),(.tm 17),(.tm 19)]) 13 false,
 GQ 18 21 (.un .not (.tm 20)) 13 false,
 rq 19 22 (.pick (.tm 13) (.kv (.bool true)) (.tm 21))] 20 [1,22])
 (.cond (.tm 22)
 (.seq (.region [rq 0 2 (.move (.kv (.bool false)))] 1 [2])
 .ret)
 .skip))
 (.seq (.seq (.region [RF 0 23 1 1,
 RL 1 24 23,
 rq 2 25 (.bin .geq (.tm 24) (ki 3)),
 RM 3 26 25,
 GQ 4 27 (.fld 3 (.tm 1)) 26 true,
 GQ 5 28 (.load 1 false (.tm 27)) 26 true,
 GQ 6 29 (.bin .neq (.tm 28) (ki 1)) 26 true,
 rq 7 30 (.pick (.tm 26) (.tm 29) (.kv (.bool false)))] 8 [1,30])
 (.cond (.tm 30)
 (.seq (.region [rq 0 2 (.move (.kv (.bool false)))] 1 [2])
 .ret)
 .skip))
 (.seq (.seq (.region [rq 0 31 (.load 7 true (.tm 1)),
 rq 1 32 (.call aAZ [(.tm 31)]),
 rq 2 33 (.un .not (.tm 32))] 3 [1,33])
 (.cond (.tm 33)
 (.seq (.region [RF 0 34 5 1,
 RL 1 35 34,
 rq 2 36 (.len false (.tm 35)),
 rq 3 37 (.bin .eql (.tm 36) (ki 0)),
 RM 4 38 37,
 GQ 5 39 (.fld 6 (.tm 1)) 38 true,
 GQ 6 40 (.load 1 false (.tm 39)) 38 true,
 GQ 7 41 (.len false (.tm 40)) 38 true,
 GQ 8 42 (.bin .eql (.tm 41) (ki 0)) 38 true,
 rq 9 43 (.pick (.tm 38) (.tm 42) (.kv (.bool false))),
 RM 10 2 43] 11 [2])
 .ret)
 .skip))
 (.seq (.region [RF 0 44 5 1,
 RL 1 45 44,
 rq 2 46 (.len false (.tm 45)),
 RF 3 47 3 1,
 RL 4 48 47,
 rq 5 49 (.bin .eql (.tm 46) (.tm 48)),
 RM 6 50 49,
 GQ 7 51 (.fld 6 (.tm 1)) 50 true,
 GQ 8 52 (.load 1 false (.tm 51)) 50 true,
 GQ 9 53 (.len false (.tm 52)) 50 true,
 GQ 10 54 (.fld 3 (.tm 1)) 50 true,
 GQ 11 55 (.load 1 false (.tm 54)) 50 true,
 GQ 12 56 (.bin .eql (.tm 53) (.tm 55)) 50 true,
 rq 13 57 (.pick (.tm 50) (.tm 56) (.kv (.bool false))),
 RM 14 58 57,
 GQ 15 59 (.fld 5 (.tm 1)) 58 true,
 GQ 16 60 (.load 1 false (.tm 59)) 58 true,
 GQ 17 61 (.call aA3 [(.tm 60),(ki 0),(ki 65535)]) 58 true,
 rq 18 62 (.pick (.tm 58) (.tm 61) (.kv (.bool false))),
 RM 19 63 62,
 GQ 20 64 (.fld 6 (.tm 1)) 63 true,
 GQ 21 65 (.load 1 false (.tm 64)) 63 true,
 GQ 22 66 (.call aA3 [(.tm 65),(ki 0),(ki 3)]) 63 true,
 rq 23 67 (.pick (.tm 63) (.tm 66) (.kv (.bool false))),
 RM 24 2 67] 25 [2])
 .ret)))))
def aDV:List Cert:=[⟨[],[1]⟩,⟨[],[1,22]⟩,⟨[],[2]⟩,⟨[],[1,30]⟩,⟨[],[2]⟩,⟨[],[1,33]⟩,⟨[],[2]⟩,⟨[],[2]⟩]
def aB4:List aW:=[.tm 2]
theorem aDY:aO Try.prog Try.f82 aDV=some (aBM,aB4):=by kernel_rfl
theorem aDW:aN Try.prog aBF Try.f82 aBM aB4:=
 aN.mk Try.func82 (by kernel_rfl) aDY
def aBP:AC:=
 (.seq (.region [rq 0 6 (.move (.kv (.bool false)))] 1 [0,1,2])
 (.seq (.seq (.region [rq 0 7 (.move (ki 0))] 1 [0,1,2,7])
 (.block 0
 (.loop
 (.seq (.seq (.region [RM 0 8 7,
 RM 1 9 0,
 rq 2 10 (.len false (.tm 9)),
 rq 3 11 (.bin .lss (.tm 8) (.tm 10))] 4 [0,1,2,7,11])
 (.cond (.tm 11)
 .skip
 (.exit 0)))
 (.seq (.block 1
 (.seq (.region [RM 0 14 0,
 RM 1 15 7,
 rq 2 16 (.idx 1 (.tm 14) (.tm 15)),
 RL 3 17 16,
 RM 4 18 1,
 RM 5 19 2,
 rq 6 20 (.call y2 [(.tm 17),(.tm 18),(.tm 19)]),
 rq 7 21 (.un .not (.tm 20))] 8 [0,1,2,7,21])
 (.cond (.tm 21)
 (.seq (.region [rq 0 6 (.move (.kv (.bool false)))] 1 [6])
 .ret)
 .skip)))
 (.region [RM 0 12 7,
 rq 1 13 (.bin .add (.tm 12) (ki 1)),
 RM 2 7 13] 3 [0,1,2,7]))))))
 (.seq (.region [rq 0 6 (.move (.kv (.bool true)))] 1 [6])
 .ret)))
def aDP:List Cert:=[⟨[],[0,1,2]⟩,⟨[],[0,1,2,7]⟩,⟨[],[0,1,2,7,11]⟩,⟨[],[0,1,2,7,21]⟩,⟨[],[6]⟩,⟨[],[0,1,2,7]⟩,⟨[],[6]⟩]
def aB1:List aW:=[.tm 6]
theorem aDO:aO Try.prog Try.f84 aDP=some (aBP,aB1):=by kernel_rfl
theorem aDN:aN Try.prog aA3 Try.f84 aBP aB1:=
 aN.mk Try.func84 (by kernel_rfl) aDO
end Go.Proofs.Ytmccpdapaccnoaa
end
