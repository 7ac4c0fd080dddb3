/- Texts laid together by a program: rules, contracts and the walk that leads to the law. -/
import Derived.Test.YtegiblhkjfiooaaGreatPu3
set_option linter.unusedVariables false
set_option linter.unusedSimpArgs false
set_option linter.unusedSectionVars false
section
namespace Go.Proofs.YtegiblhkjfiooaaGreat
open Go Go.AM
set_option maxRecDepth 100000
def aYR:AC:=
 (.seq (.region [rq 0 2 (.move (.kv (.bool false)))] 1 [0])
 (.seq (.seq (.region [RM 0 16 0,
 rq 1 17 (.len false (.tm 16)),
 rq 2 18 (.bin .gtr (.tm 17) (ki 1048576))] 3 [0,18])
 (.cond (.tm 18)
 (.seq (.region [rq 0 2 (.move (.kv (.bool true)))] 1 [2])
 .ret)
 .skip))
 (.seq (.region [RM 0 20 0,
 rq 1 21 (.call aYQ [(.tm 20)]),
 RM 2 19 21,
 rq 3 22 (.ext (.tm 19) 0),
 rq 4 23 (.ext (.tm 19) 1),
 rq 5 24 (.ext (.tm 19) 2),
 rq 6 3 (.alloc [OZ,OZ,OZ]),
 rq 7 4 (.alloc [OZ,OZ,OZ,OZ,OZ,OZ]),
 rn 8 (.store 3 true (.tm 3) (.tm 22)),
 rn 9 (.store 6 true (.tm 4) (.tm 23)),
 RM 10 5 24] 11 [3,4,5])
 (.seq (.region [rq 0 26 (.load 3 true (.tm 3)),
 rq 1 27 (.load 6 true (.tm 4)),
 RM 2 28 5,
 rq 3 29 (.call auW [(.tm 26),(.tm 27),(.tm 28)]),
 RM 4 25 29,
 rq 5 30 (.ext (.tm 25) 0),
 rq 6 31 (.ext (.tm 25) 1),
 rq 7 6 (.alloc [OZ,OZ,OZ,OZ,OZ,OZ]),
 rn 8 (.store 6 true (.tm 6) (.tm 30)),
 RM 9 7 31] 10 [3,4,5,6,7])
 (.seq (.region [rq 0 33 (.load 3 true (.tm 3)),
 rq 1 34 (.load 6 true (.tm 4)),
 RM 2 35 5,
 rq 3 36 (.call aYN [(.tm 33),(.tm 34),(.tm 35)]),
 RM 4 32 36,
 rq 5 37 (.ext (.tm 32) 0),
 rq 6 38 (.ext (.tm 32) 1),
 rq 7 8 (.alloc [OZ,OZ,OZ,OZ,OZ,OZ]),
 rn 8 (.store 6 true (.tm 8) (.tm 37)),
 RM 9 9 38] 10 [3,4,5,6,7,8,9])
 (.seq (.seq (.region [rq 0 39 (.load 6 true (.tm 6)),
 rq 1 40 (.load 6 true (.tm 8)),
 rq 2 41 (.call au9 [(.tm 39),(.tm 40)]),
 rq 3 42 (.un .not (.tm 41)),
 RM 4 43 42,
 GQ 5 44 (.move (.tm 7)) 43 false,
 GQ 6 45 (.move (.tm 9)) 43 false,
 GQ 7 46 (.bin .neq (.tm 44) (.tm 45)) 43 false,
 rq 8 47 (.pick (.tm 43) (.kv (.bool true)) (.tm 46))] 9 [3,4,5,6,7,47])
 (.cond (.tm 47)
 (.seq (.region [rq 0 2 (.move (.kv (.bool false)))] 1 [2])
 .ret)
 .skip))
 (.seq (.seq (.region [RM 0 48 7,
 rq 1 49 (.bin .lss (.tm 48) (ki 0))] 2 [3,4,5,6,7,49])
 (.cond (.tm 49)
 (.seq (.region [RM 0 50 7,
 rq 1 51 (.bin .eql (.tm 50) (.kv (.int .i64 (-1)))),
 RM 2 52 51,
 GQ 3 53 (.fld 2 (.tm 6)) 52 true,
 GQ 4 54 (.load 1 false (.tm 53)) 52 true,
 GQ 5 55 (.len false (.tm 54)) 52 true,
 GQ 6 56 (.bin .eql (.tm 55) (ki 0)) 52 true,
 rq 7 57 (.pick (.tm 52) (.tm 56) (.kv (.bool false))),
 RM 8 58 57,
 GQ 9 59 (.call E2 []) 58 true,
 rq 10 60 (.pick (.tm 58) (.tm 59) (.kv (.bool false))),
 RM 11 2 60] 12 [2])
 .ret)
 .skip))
 (.seq (.region [rq 0 61 (.load 6 true (.tm 4)),
 rq 1 10 (.alloc [OZ,OZ,OZ,OZ,OZ,OZ]),
 rn 2 (.store 6 true (.tm 10) (.tm 61))] 3 [3,5,6,7,10])
 (.seq (.seq (.region [rq 0 11 (.move (ki 0))] 1 [3,5,6,7,10,11])
 (.block 0
 (.loop
 (.seq (.seq (.region [RM 0 62 11,
 RM 1 63 7,
 rq 2 64 (.bin .lss (.tm 62) (.tm 63))] 3 [3,5,6,7,10,11,64])
 (.cond (.tm 64)
 .skip
 (.exit 0)))
 (.seq (.block 1
 (.seq (.region [⟨0,(some 68),.load 3 true (.tm 3),none,[10],[],false⟩,
 ⟨1,(some 69),.load 6 true (.tm 10),none,[10],[],false⟩,
 RM 2 70 5,
 RM 3 71 11,
 rq 4 72 (.idx 3 (.tm 70) (.tm 71)),
 ⟨5,(some 73),.load 3 true (.tm 72),none,[10],[],false⟩,
 rq 10 12 (.alloc [OZ,OZ,OZ,OZ,OZ,OZ]),
 ⟨6,(some 74),.call dW [(.tm 68),(.tm 69),(.tm 73)],none,[10],[],false⟩,
 RM 7 67 74,
 rq 8 75 (.ext (.tm 67) 0),
 rq 9 76 (.ext (.tm 67) 1),
 rn 11 (.store 6 true (.tm 12) (.tm 75)),
 RM 12 13 76] 13 [3,5,6,7,10,11,12,13])
 (.seq (.seq (.region [RM 0 77 13,
 rq 1 78 (.un .not (.tm 77))] 2 [3,5,6,7,10,11,12,78])
 (.cond (.tm 78)
 (.seq (.region [rq 0 2 (.move (.kv (.bool false)))] 1 [2])
 .ret)
 .skip))
 (.region [rq 0 79 (.load 6 true (.tm 12)),
 rn 1 (.store 6 true (.tm 10) (.tm 79))] 2 [3,5,6,7,10,11]))))
 (.region [RM 0 65 11,
 rq 1 66 (.bin .add (.tm 65) (ki 1)),
 RM 2 11 66] 3 [3,5,6,7,10,11]))))))
 (.seq (.seq (.region [RM 0 80 7,
 RM 1 81 5,
 rq 2 82 (.len false (.tm 81)),
 rq 3 83 (.bin .lss (.tm 80) (.tm 82))] 4 [3,5,6,7,10,83])
 (.cond (.tm 83)
 (.seq (.region [⟨0,(some 85),.load 3 true (.tm 3),none,[10],[],false⟩,
 ⟨1,(some 86),.load 6 true (.tm 10),none,[10],[],false⟩,
 RM 2 87 5,
 RM 3 88 7,
 rq 4 89 (.idx 3 (.tm 87) (.tm 88)),
 ⟨5,(some 90),.load 3 true (.tm 89),none,[10],[],false⟩,
 rq 10 14 (.alloc [OZ,OZ,OZ,OZ,OZ,OZ]),
 ⟨6,(some 91),.call dW [(.tm 85),(.tm 86),(.tm 90)],none,[10],[],false⟩,
 RM 7 84 91,
 rq 8 92 (.ext (.tm 84) 0),
 rq 9 93 (.ext (.tm 84) 1),
 rn 11 (.store 6 true (.tm 14) (.tm 92)),
 RM 12 15 93] 13 [6,10,15])
 (.seq (.region [RM 0 94 15] 1 [6,10,94])
 (.cond (.tm 94)
 (.seq (.region [rq 0 2 (.move (.kv (.bool false)))] 1 [2])
 .ret)
 .skip)))
 .skip))
 (.seq (.region [rq 0 95 (.load 6 true (.tm 10)),
 rq 1 96 (.load 6 true (.tm 6)),
 rq 2 97 (.call au9 [(.tm 95),(.tm 96)]),
 RM 3 2 97] 4 [2])
 .ret)))))))))))
def aY2:List Cert:=[⟨[],[0]⟩,⟨[],[0,18]⟩,⟨[],[2]⟩,⟨[],[3,4,5]⟩,⟨[],[3,4,5,6,7]⟩,⟨[],[3,4,5,6,7,8,9]⟩,⟨[],[3,4,5,6,7,47]⟩,⟨[],[2]⟩,⟨[],[3,4,5,6,7,49]⟩,⟨[],[2]⟩,⟨[],[3,5,6,7,10]⟩,⟨[],[3,5,6,7,10,11]⟩,⟨[],[3,5,6,7,10,11,64]⟩,⟨[(0,[10],[],false),(1,[10],[],false),cz 2,cz 3,cz 4,(5,[10],[],false),cz 10,(6,[10],[],false),cz 7,cz 8,cz 9,cz 11,cz 12],[3,5,6,7,10,11,12,13]⟩,⟨[],[3,5,6,7,10,11,12,78]⟩,⟨[],[2]⟩,⟨[],[3,5,6,7,10,11]⟩,⟨[],[3,5,6,7,10,11]⟩,⟨[],[3,5,6,7,10,83]⟩,⟨[(0,[10],[],false),(1,[10],[],false),cz 2,cz 3,cz 4,(5,[10],[],false),cz 10,(6,[10],[],false),cz 7,cz 8,cz 9,cz 11,cz 12],[6,10,15]⟩,⟨[],[6,10,94]⟩,⟨[],[2]⟩,⟨[],[2]⟩]
def aYU:List aW:=[.tm 2]
theorem aY3:aO Tryz.prog Tryz.f13 aY2=some (aYR,aYU):=by kernel_rfl
end Go.Proofs.YtegiblhkjfiooaaGreat
end
section
namespace Go.Proofs.YtegiblhkjfiooaaGreat
open Go Go.AM
set_option maxRecDepth 100000
end Go.Proofs.YtegiblhkjfiooaaGreat
end
section
namespace Go.Proofs.YtegiblhkjfiooaaGreat
open Go Go.AM
set_option maxRecDepth 100000
def aVB:AC:=
 (.seq (.region [rq 0 3 (.box true (.tm 0)),
 rq 1 4 (.box true (.tm 1)),
 rq 2 5 (.box true (.tm 2)),
 rq 3 6 (.alloc [OZ,OZ,OZ,OZ,OZ,OZ]),
 rq 4 7 (.move (.kv (.bool false)))] 5 [3,4,5,6])
 (.seq (.seq (.region [rq 0 9 (.load 3 true (.tm 3)),
 rq 1 10 (.load 6 true (.tm 4)),
 rq 2 11 (.call au7 [(.tm 9),(.tm 10)]),
 rq 3 12 (.un .not (.tm 11))] 4 [3,4,5,6,12])
 (.cond (.tm 12)
 (.seq (.region [rq 0 13 (.build [OZ,OZ,OZ,OZ,OZ,OZ] []),
 rn 1 (.store 6 true (.tm 6) (.tm 13)),
 rq 2 7 (.move (.kv (.bool false)))] 3 [6,7])
 .ret)
 .skip))
 (.seq (.region [rq 0 14 (.load 6 true (.tm 4)),
 rq 1 15 (.call iG [(.tm 14)]),
 rq 2 8 (.alloc [OZ,OZ,OZ,OZ,OZ,OZ]),
 rn 3 (.store 6 true (.tm 8) (.tm 15))] 4 [3,4,5,6,8])
 (.seq (.seq (.region [rq 0 16 (.load 3 true (.tm 3)),
 rq 1 17 (.load 6 true (.tm 4)),
 rq 2 18 (.load 3 true (.tm 5)),
 rq 3 19 (.call auN [(.tm 16),(.tm 17),(.tm 18)]),
 rq 4 20 (.bin .neq (.tm 19) (ki 0))] 5 [3,5,6,8,20])
 (.cond (.tm 20)
 (.seq (.region [rq 0 21 (.load 6 true (.tm 8)),
 rn 1 (.store 6 true (.tm 6) (.tm 21)),
 rq 2 7 (.move (.kv (.bool false)))] 3 [6,7])
 .ret)
 .skip))
 (.seq (.region [rq 0 22 (.load 3 true (.tm 3)),
 rq 1 23 (.load 3 true (.tm 5)),
 rq 2 24 (.call auD [(.tm 22),(.tm 8),(.tm 23)])] 3 [6,8])
 (.seq (.region [rq 0 25 (.load 6 true (.tm 8)),
 rq 1 26 (.call iG [(.tm 25)]),
 rn 2 (.store 6 true (.tm 6) (.tm 26)),
 rq 3 7 (.move (.kv (.bool true)))] 4 [6,7])
 .ret))))))
def aWN:List Cert:=[⟨[],[3,4,5,6]⟩,⟨[],[3,4,5,6,12]⟩,⟨[],[6,7]⟩,⟨[],[3,4,5,6,8]⟩,⟨[],[3,5,6,8,20]⟩,⟨[],[6,7]⟩,⟨[],[6,8]⟩,⟨[],[6,7]⟩]
def aVT:List aW:=[.cell 6 6 true,.tm 7]
theorem aWJ:aO Tryz.prog Tryz.f46 aWN=some (aVB,aVT):=by kernel_rfl
theorem aVV:aN Tryz.prog dW Tryz.f46 aVB aVT:=
 aN.mk Tryz.func46 (by kernel_rfl) aWJ
end Go.Proofs.YtegiblhkjfiooaaGreat
end
section
namespace Go.Proofs.YtegiblhkjfiooaaGreat
open Go Go.AM
set_option maxRecDepth 100000
def CP:AC:=
 (.seq (.region [rq 0 0 (.move (.kv (.bool false)))] 1 [])
 (.seq (.region [rq 0 1 (.call nI [(ki 5),(ki 1),(.kv (.bool false))]),
 RM 1 0 1] 2 [0])
 .ret))
def XP:List Cert:=[⟨[],[]⟩,⟨[],[0]⟩]
def LO:List aW:=[.tm 0]
theorem WZ:aO Tryz.prog Tryz.f26 XP=some (CP,LO):=by kernel_rfl
theorem XX:aN Tryz.prog E2 Tryz.f26 CP LO:=
 aN.mk Tryz.func26 (by kernel_rfl) WZ
def avV:AC:=
 (.seq (.region [rq 0 3 (.box true (.tm 0)),
 rq 1 4 (.box true (.tm 1)),
 rq 2 6 (.alloc [OZ,OZ,OZ,OZ,OZ,OZ]),
 rq 3 7 (.move (ki 0))] 4 [2,3,4,6])
 (.seq (.seq (.region [rq 0 11 (.load 3 true (.tm 3)),
 rq 1 12 (.load 6 true (.tm 4)),
 rq 2 13 (.call au7 [(.tm 11),(.tm 12)]),
 rq 3 14 (.un .not (.tm 13)),
 RM 4 15 14,
 GQ 5 16 (.move (.tm 2)) 15 false,
 GQ 6 17 (.len false (.tm 16)) 15 false,
 GQ 7 18 (.bin .gtr (.tm 17) (ki 200)) 15 false,
 rq 8 19 (.pick (.tm 15) (.kv (.bool true)) (.tm 18))] 9 [2,3,4,6,19])
 (.cond (.tm 19)
 (.seq (.region [rq 0 20 (.build [OZ,OZ,OZ,OZ,OZ,OZ] []),
 rn 1 (.store 6 true (.tm 6) (.tm 20)),
 rq 2 7 (.move (.kv (.int .i64 (-1))))] 3 [6,7])
 .ret)
 .skip))
 (.seq (.region [rq 0 21 (.load 6 true (.tm 4)),
 rq 1 22 (.call iG [(.tm 21)]),
 rq 2 8 (.alloc [OZ,OZ,OZ,OZ,OZ,OZ]),
 rn 3 (.store 6 true (.tm 8) (.tm 22))] 4 [2,3,6,8])
 (.seq (.seq (.region [RM 0 23 2,
 rq 1 24 (.len false (.tm 23)),
 rq 2 25 (.move (ki 0))] 3 [2,3,6,8,23,24,25])
 (.block 0
 (.loop
 (.seq (.region [rq 0 26 (.bin .lss (.tm 25) (.tm 24))] 1 [2,3,6,8,23,24,25,26])
 (.seq (.cond (.tm 26)
 .skip
 (.exit 0))
 (.seq (.block 1
 (.seq (.region [RM 0 27 25,
 rq 1 28 (.idx 3 (.tm 23) (.tm 25)),
 rq 2 29 (.load 3 true (.tm 28)),
 rq 3 10 (.alloc [VZ,VZ,VZ]),
 RM 4 9 27,
 rn 5 (.store 3 true (.tm 10) (.tm 29))] 6 [2,3,6,8,9,10,23,24,25])
 (.seq (.seq (.region [rq 0 30 (.load 3 true (.tm 3)),
 rq 1 31 (.load 6 true (.tm 8)),
 rq 2 32 (.load 3 true (.tm 10)),
 rq 3 33 (.call auN [(.tm 30),(.tm 31),(.tm 32)]),
 rq 4 34 (.bin .neq (.tm 33) (ki 0))] 5 [2,3,6,8,9,10,23,24,25,34])
 (.cond (.tm 34)
 (.seq (.region [rq 0 35 (.load 6 true (.tm 8)),
 rq 1 36 (.call iG [(.tm 35)]),
 RM 2 37 9,
 rn 3 (.store 6 true (.tm 6) (.tm 36)),
 RM 4 7 37] 5 [6,7])
 .ret)
 .skip))
 (.region [rq 0 38 (.load 3 true (.tm 3)),
 rq 1 39 (.load 3 true (.tm 10)),
 rq 2 40 (.call auD [(.tm 38),(.tm 8),(.tm 39)])] 3 [2,3,6,8,23,24,25]))))
 (.region [rq 0 41 (.bin .add (.tm 25) (ki 1)),
 RM 1 25 41] 2 [2,3,6,8,23,24,25])))))))
 (.seq (.region [rq 0 42 (.load 6 true (.tm 8)),
 rq 1 43 (.call iG [(.tm 42)]),
 RM 2 44 2,
 rq 3 45 (.len false (.tm 44)),
 rn 4 (.store 6 true (.tm 6) (.tm 43)),
 RM 5 7 45] 6 [6,7])
 .ret)))))
def axU:List Cert:=[⟨[],[2,3,4,6]⟩,⟨[],[2,3,4,6,19]⟩,⟨[],[6,7]⟩,⟨[],[2,3,6,8]⟩,⟨[],[2,3,6,8,23,24,25]⟩,⟨[],[2,3,6,8,23,24,25,26]⟩,⟨[],[2,3,6,8,9,10,23,24,25]⟩,⟨[],[2,3,6,8,9,10,23,24,25,34]⟩,⟨[],[6,7]⟩,⟨[],[2,3,6,8,23,24,25]⟩,⟨[],[2,3,6,8,23,24,25]⟩,⟨[],[6,7]⟩]
def awK:List aW:=[.cell 6 6 true,.tm 7]
theorem ax8:aO Tryz.prog Tryz.f36 axU=some (avV,awK):=by kernel_rfl
theorem axV:aN Tryz.prog auW Tryz.f36 avV awK:=
 aN.mk Tryz.func36 (by kernel_rfl) ax8
def av2:AC:=
 (.seq (.region [rq 0 2 (.box true (.tm 0)),
 rq 1 3 (.box true (.tm 1)),
 rq 2 4 (.move (.kv (.bool false)))] 3 [2,3])
 (.seq (.region [rq 0 5 (.load 3 true (.tm 2)),
 rq 1 6 (.call wF [(.tm 5)]),
 RM 2 7 6,
 GQ 3 8 (.load 3 true (.tm 2)) 7 true,
 GQ 4 9 (.load 6 true (.tm 3)) 7 true,
 GQ 5 10 (.call j9 [(.tm 8),(.tm 9)]) 7 true,
 rq 6 11 (.pick (.tm 7) (.tm 10) (.kv (.bool false))),
 RM 7 4 11] 8 [4])
 .ret))
def ayG:List Cert:=[⟨[],[2,3]⟩,⟨[],[4]⟩]
def aw0:List aW:=[.tm 4]
theorem ayI:aO Tryz.prog Tryz.f49 ayG=some (av2,aw0):=by kernel_rfl
theorem ayK:aN Tryz.prog au7 Tryz.f49 av2 aw0:=
 aN.mk Tryz.func49 (by kernel_rfl) ayI
def oT:AC:=
 (.seq (.region [rq 0 2 (.move (.kv (.pointer none)))] 1 [0])
 (.seq (.seq (.region [RM 0 3 0,
 rq 1 4 (.len false (.tm 3)),
 rq 2 5 (.bin .gtr (.tm 4) (ki 2000))] 3 [0,5])
 (.cond (.tm 5)
 (.region [RM 0 6 0,
 rq 1 7 (.slc 1 (.tm 6) none (some (ki 2000)) none),
 RM 2 0 7] 3 [0])
 .skip))
 (.seq (.region [RM 0 8 0,
 rq 1 9 (.build [OZ,VZ] [(0,1,(.tm 8))]),
 rq 2 10 (.box true (.tm 9)),
 RM 3 2 10] 4 [2])
 .ret)))
def N1:List Cert:=[⟨[],[0]⟩,⟨[],[0,5]⟩,⟨[],[0]⟩,⟨[],[2]⟩]
def DN:List aW:=[.tm 2]
theorem OT:aO Tryz.prog Tryz.f55 N1=some (oT,DN):=by kernel_rfl
theorem DY:aN Tryz.prog kN Tryz.f55 oT DN:=
 aN.mk Tryz.func55 (by kernel_rfl) OT
def qQ:AC:=
 (.seq (.region [rq 0 4 (.alloc [OZ,OZ,OZ])] 1 [0,1,4])
 (.seq (.region [RM 0 11 0,
 rq 1 12 (.call tN [(.tm 11),(ki 99999)]),
 rq 2 13 (.build [OZ,OZ,OZ] [(0,1,(.tm 12))]),
 rq 3 5 (.alloc [OZ,OZ,OZ]),
 rn 4 (.store 3 true (.tm 5) (.tm 13))] 5 [0,1,4,5])
 (.seq (.seq (.region [rq 0 6 (.move (ki 0))] 1 [0,1,4,5,6])
 (.block 0
 (.loop
 (.seq (.seq (.region [RM 0 14 6,
 rq 1 15 (.bin .leq (.tm 14) (ki 3))] 2 [0,1,4,5,6,15])
 (.cond (.tm 15)
 .skip
 (.exit 0)))
 (.seq (.block 1
 (.region [RF 0 18 1 5,
 ⟨1,(some 19),.load 1 false (.tm 18),none,[4],[],true⟩,
 RM 2 20 0,
 ⟨3,(some 21),.call aD [(.tm 20),(ki 4)],none,[],[1],false⟩,
 rq 4 22 (.bC 1 1 [VZ] [(0,1,(.tm 21))]),
 rq 5 23 (.append 1 (.tm 19) (.tm 22)),
 RF 6 24 1 5,
 rn 7 (.store 1 false (.tm 24) (.tm 23))] 8 [0,1,4,5,6]))
 (.region [RM 0 16 6,
 rq 1 17 (.bin .add (.tm 16) (ki 1)),
 RM 2 6 17] 3 [0,1,4,5,6]))))))
 (.seq (.seq (.region [rq 0 7 (.move (ki 0))] 1 [0,1,4,5,7])
 (.block 2
 (.loop
 (.seq (.seq (.region [RM 0 25 7,
 rq 1 26 (.bin .lss (.tm 25) (ki 3))] 2 [0,1,4,5,7,26])
 (.cond (.tm 26)
 .skip
 (.exit 2)))
 (.seq (.block 3
 (.seq (.region [rq 0 29 (.bC 7 0 [VZ,VZ,VZ,VZ,(.v (.bool false)),OZ,OZ] []),
 RM 1 8 29] 2 [0,1,4,5,7,8])
 (.seq (.seq (.region [RM 0 30 0,
 RM 1 31 1,
 rq 2 32 (.bin .add (.tm 31) (ki 1)),
 rq 3 33 (.call aD [(.tm 30),(.tm 32)]),
 RM 4 9 33] 5 [0,1,4,5,7,8,9])
 (.block 4
 (.loop
 (.seq (.seq (.region [RM 0 34 9,
 rq 1 35 (.bin .gtr (.tm 34) (ki 0))] 2 [0,1,4,5,7,8,9,35])
 (.cond (.tm 35)
 .skip
 (.exit 4)))
 (.seq (.block 5
 (.seq (.region [RM 0 38 0,
 rq 1 39 (.call tS [(.tm 38),(ki 99999)]),
 rq 2 10 (.alloc [VZ,VZ,VZ,VZ,(.v (.bool false)),OZ,OZ]),
 rn 3 (.store 7 true (.tm 10) (.tm 39))] 4 [0,1,4,5,7,8,9,10])
 (.seq (.seq (.region [RF 0 40 1 10,
 RL 1 41 40,
 rq 2 42 (.bin .eql (.tm 41) (ki 4)),
 RM 3 43 42,
 GQ 4 44 (.move (.tm 8)) 43 true,
 GQ 5 45 (.len false (.tm 44)) 43 true,
 GQ 6 46 (.bin .gtr (.tm 45) (ki 0)) 43 true,
 rq 7 47 (.pick (.tm 43) (.tm 46) (.kv (.bool false))),
 RM 8 48 47,
 GQ 9 49 (.move (.tm 0)) 48 true,
 GQ 10 50 (.call aD [(.tm 49),(ki 2)]) 48 true,
 GQ 11 51 (.bin .eql (.tm 50) (ki 0)) 48 true,
 rq 12 52 (.pick (.tm 48) (.tm 51) (.kv (.bool false)))] 13 [0,1,4,5,7,8,9,10,52])
 (.cond (.tm 52)
 (.region [RM 0 53 8,
 RF 1 54 0 10,
 RL 2 55 54,
 RF 3 56 2 10,
 RL 4 57 56,
 rq 5 58 (.build [VZ,VZ,VZ,VZ,(.v (.bool false)),OZ,OZ] [(0,1,(.tm 55)),(1,1,(ki 3)),(2,1,(.tm 57)),(3,1,(ki 1))]),
 rq 6 59 (.bC 7 1 [VZ,VZ,VZ,VZ,(.v (.bool false)),OZ,OZ] [(0,7,(.tm 58))]),
 rq 7 60 (.append 7 (.tm 53) (.tm 59)),
 RM 8 8 60] 9 [0,1,4,5,7,8,9,10])
 .skip))
 (.region [RM 0 61 8,
 rq 1 62 (.load 7 true (.tm 10)),
 rq 2 63 (.bC 7 1 [VZ,VZ,VZ,VZ,(.v (.bool false)),OZ,OZ] [(0,7,(.tm 62))]),
 rq 3 64 (.append 7 (.tm 61) (.tm 63)),
 RM 4 8 64] 5 [0,1,4,5,7,8,9]))))
 (.region [RM 0 36 9,
 rq 1 37 (.bin .sub (.tm 36) (ki 1)),
 RM 2 9 37] 3 [0,1,4,5,7,8,9]))))))
 (.region [RF 0 65 2 5,
 ⟨1,(some 66),.load 1 false (.tm 65),none,[7],[],false⟩,
 RM 2 67 8,
 RM 3 68 8,
 rq 4 69 (.len false (.tm 68)),
 rq 5 70 (.mmx true (.tm 69) (ki 12)),
 rq 6 71 (.slc 7 (.tm 67) none (some (.tm 70)) none),
 rq 7 72 (.bC 1 1 [OZ] [(0,1,(.tm 71))]),
 rq 8 73 (.append 1 (.tm 66) (.tm 72)),
 RF 9 74 2 5,
 rn 10 (.store 1 false (.tm 74) (.tm 73))] 11 [0,1,4,5,7]))))
 (.region [RM 0 27 7,
 rq 1 28 (.bin .add (.tm 27) (ki 1)),
 RM 2 7 28] 3 [0,1,4,5,7]))))))
 (.seq (.region [rq 0 75 (.load 3 true (.tm 5)),
 rn 1 (.store 3 true (.tm 4) (.tm 75))] 2 [4])
 .ret)))))
def QI:List Cert:=[⟨[],[0,1,4]⟩,⟨[],[0,1,4,5]⟩,⟨[],[0,1,4,5,6]⟩,⟨[],[0,1,4,5,6,15]⟩,⟨[cz 0,(1,[4],[],true),cz 2,(3,[],[1],false),cz 4,cz 5,cz 6,cz 7],[0,1,4,5,6]⟩,⟨[],[0,1,4,5,6]⟩,⟨[],[0,1,4,5,7]⟩,⟨[],[0,1,4,5,7,26]⟩,⟨[],[0,1,4,5,7,8]⟩,⟨[],[0,1,4,5,7,8,9]⟩,⟨[],[0,1,4,5,7,8,9,35]⟩,⟨[],[0,1,4,5,7,8,9,10]⟩,⟨[],[0,1,4,5,7,8,9,10,52]⟩,⟨[],[0,1,4,5,7,8,9,10]⟩,⟨[],[0,1,4,5,7,8,9]⟩,⟨[],[0,1,4,5,7,8,9]⟩,⟨[cz 0,(1,[7],[],false),cz 2,cz 3,cz 4,cz 5,cz 6,cz 7,cz 8,cz 9,cz 10],[0,1,4,5,7]⟩,⟨[],[0,1,4,5,7]⟩,⟨[],[4]⟩]
def FY:List aW:=[.cell 4 3 true]
theorem QV:aO Tryz.prog Tryz.f56 QI=some (qQ,FY):=by kernel_rfl
theorem FC:aN Tryz.prog lJ Tryz.f56 qQ FY:=
 aN.mk Tryz.func56 (by kernel_rfl) QV
def z4:AC:=
 (.seq (.region [rq 0 1 (.box true (.tm 0)),
 rq 1 2 (.move (.kv (.bool false)))] 2 [1])
 (.seq (.region [RF 0 3 0 1,
 RL 1 4 3,
 rq 2 5 (.call wR [(.tm 4)]),
 RM 3 6 5,
 GQ 4 7 (.fld 1 (.tm 1)) 6 true,
 GQ 5 8 (.load 1 false (.tm 7)) 6 true,
 GQ 6 9 (.len false (.tm 8)) 6 true,
 GQ 7 10 (.bin .eql (.tm 9) (ki 4)) 6 true,
 rq 8 11 (.pick (.tm 6) (.tm 10) (.kv (.bool false))),
 RM 9 12 11,
 GQ 10 13 (.fld 1 (.tm 1)) 12 true,
 GQ 11 14 (.load 1 false (.tm 13)) 12 true,
 GQ 12 15 (.call bN [(.tm 14),(.fn qK)]) 12 true,
 GQ 13 16 (.un .not (.tm 15)) 12 true,
 rq 14 17 (.pick (.tm 12) (.tm 16) (.kv (.bool false))),
 RM 15 18 17,
 GQ 16 19 (.fld 2 (.tm 1)) 18 true,
 GQ 17 20 (.load 1 false (.tm 19)) 18 true,
 GQ 18 21 (.len false (.tm 20)) 18 true,
 GQ 19 22 (.bin .eql (.tm 21) (ki 3)) 18 true,
 rq 20 23 (.pick (.tm 18) (.tm 22) (.kv (.bool false))),
 RM 21 24 23,
 GQ 22 25 (.fld 2 (.tm 1)) 24 true,
 GQ 23 26 (.load 1 false (.tm 25)) 24 true,
 GQ 24 27 (.call cF [(.tm 26),(.fn rR)]) 24 true,
 GQ 25 28 (.un .not (.tm 27)) 24 true,
 rq 26 29 (.pick (.tm 24) (.tm 28) (.kv (.bool false))),
 RM 27 2 29] 28 [2])
 .ret))
def UE:List Cert:=[⟨[],[1]⟩,⟨[],[2]⟩]
def H7:List aW:=[.tm 2]
theorem T6:aO Tryz.prog Tryz.f58 UE=some (z4,H7):=by kernel_rfl
theorem T9:aN Tryz.prog wF Tryz.f58 z4 H7:=
 aN.mk Tryz.func58 (by kernel_rfl) T6
def sZ:AC:=
 (.seq (.region [rq 0 2 (.move (.kv (.bool false)))] 1 [0])
 (.seq (.region [RM 0 3 0,
 rq 1 4 (.call cQ [(.tm 3),(ki 0),(ki 2)]),
 RM 2 2 4] 3 [2])
 .ret))
def MG:List Cert:=[⟨[],[0]⟩,⟨[],[2]⟩]
def A0:List aW:=[.tm 2]
theorem MB:aO Tryz.prog Tryz.f59 MG=some (sZ,A0):=by kernel_rfl
theorem MZ:aN Tryz.prog jA Tryz.f59 sZ A0:=
 aN.mk Tryz.func59 (by kernel_rfl) MB
def z3:AC:=
 (.seq (.region [rq 0 1 (.box true (.tm 0)),
 rq 1 2 (.move (.kv (.bool false)))] 2 [1])
 (.seq (.region [RF 0 3 0 1,
 rq 1 4 (.load 1 true (.tm 3)),
 rq 2 5 (.call wP [(.tm 4)]),
 RM 3 6 5,
 GQ 4 7 (.fld 1 (.tm 1)) 6 true,
 GQ 5 8 (.load 1 false (.tm 7)) 6 true,
 GQ 6 9 (.len false (.tm 8)) 6 true,
 GQ 7 10 (.bin .eql (.tm 9) (ki 6)) 6 true,
 rq 8 11 (.pick (.tm 6) (.tm 10) (.kv (.bool false))),
 RM 9 12 11,
 GQ 10 13 (.fld 1 (.tm 1)) 12 true,
 GQ 11 14 (.load 1 false (.tm 13)) 12 true,
 GQ 12 15 (.call bN [(.tm 14),(.fn rC)]) 12 true,
 GQ 13 16 (.un .not (.tm 15)) 12 true,
 rq 14 17 (.pick (.tm 12) (.tm 16) (.kv (.bool false))),
 RM 15 2 17] 16 [2])
 .ret))
def TN:List Cert:=[⟨[],[1]⟩,⟨[],[2]⟩]
def H9:List aW:=[.tm 2]
theorem U4:aO Tryz.prog Tryz.f64 TN=some (z3,H9):=by kernel_rfl
theorem UK:aN Tryz.prog rG Tryz.f64 z3 H9:=
 aN.mk Tryz.func64 (by kernel_rfl) U4
def mC:AC:=
 (.seq (.region [rq 0 2 (.box true (.tm 0)),
 rq 1 3 (.box true (.tm 1)),
 rq 2 4 (.move (.kv (.bool false)))] 3 [2,3])
 (.seq (.seq (.region [RF 0 13 0 3,
 rq 1 14 (.load 2 true (.tm 13)),
 rq 2 15 (.call rG [(.tm 14)]),
 rq 3 16 (.un .not (.tm 15)),
 RM 4 17 16,
 GQ 5 18 (.fld 2 (.tm 3)) 17 false,
 GQ 6 19 (.load 1 false (.tm 18)) 17 false,
 GQ 7 20 (.len false (.tm 19)) 17 false,
 GQ 8 21 (.bin .neq (.tm 20) (ki 3)) 17 false,
 rq 9 22 (.pick (.tm 17) (.kv (.bool true)) (.tm 21)),
 RM 10 23 22,
 GQ 11 24 (.fld 3 (.tm 3)) 23 false,
 GQ 12 25 (.load 1 false (.tm 24)) 23 false,
 GQ 13 26 (.call oI [(.tm 25)]) 23 false,
 GQ 14 27 (.un .not (.tm 26)) 23 false,
 rq 15 28 (.pick (.tm 23) (.kv (.bool true)) (.tm 27)),
 RM 16 29 28,
 GQ 17 30 (.fld 4 (.tm 3)) 29 false,
 GQ 18 31 (.load 1 false (.tm 30)) 29 false,
 GQ 19 32 (.call oI [(.tm 31)]) 29 false,
 GQ 20 33 (.un .not (.tm 32)) 29 false,
 rq 21 34 (.pick (.tm 29) (.kv (.bool true)) (.tm 33))] 22 [2,3,34])
 (.cond (.tm 34)
 (.seq (.region [rq 0 4 (.move (.kv (.bool false)))] 1 [4])
 .ret)
 .skip))
 (.seq (.region [rq 0 5 (.move (ki 0))] 1 [2,3,5])
 (.seq (.seq (.region [RF 0 35 2 3,
 RL 1 36 35,
 rq 2 37 (.len false (.tm 36)),
 rq 3 38 (.move (ki 0))] 4 [2,3,5,36,37,38])
 (.block 0
 (.loop
 (.seq (.region [rq 0 39 (.bin .lss (.tm 38) (.tm 37))] 1 [2,3,5,36,37,38,39])
 (.seq (.cond (.tm 39)
 .skip
 (.exit 0))
 (.seq (.block 1
 (.seq (.region [RM 0 40 38,
 rq 1 41 (.idx 1 (.tm 36) (.tm 38)),
 RL 2 42 41,
 RM 3 6 40,
 RM 4 7 42] 5 [2,3,5,6,7,36,37,38])
 (.seq (.seq (.region [RM 0 43 7,
 RF 1 44 2 2,
 RL 2 45 44,
 RM 3 46 6,
 rq 4 47 (.idx 1 (.tm 45) (.tm 46)),
 RL 5 48 47,
 rq 6 49 (.len false (.tm 48)),
 rq 7 50 (.call cQ [(.tm 43),(ki 0),(.tm 49)]),
 rq 8 51 (.un .not (.tm 50))] 9 [2,3,5,7,36,37,38,51])
 (.cond (.tm 51)
 (.seq (.region [rq 0 4 (.move (.kv (.bool false)))] 1 [4])
 .ret)
 .skip))
 (.region [RM 0 52 5,
 RM 1 53 7,
 rq 2 54 (.bin .add (.tm 52) (.tm 53)),
 RM 3 5 54] 4 [2,3,5,36,37,38]))))
 (.region [rq 0 55 (.bin .add (.tm 38) (ki 1)),
 RM 1 38 55] 2 [2,3,5,36,37,38])))))))
 (.seq (.region [rq 0 56 (.xop (.DS 2 true) []),
 RM 1 8 56] 2 [2,3,5,8])
 (.seq (.seq (.region [RF 0 57 3 3,
 RL 1 58 57,
 RF 2 59 4 3,
 RL 3 60 59,
 RF 4 61 5 3,
 RL 5 62 61,
 rq 6 63 (.bC 1 3 [OZ] [(0,1,(.tm 58)),(1,1,(.tm 60)),(2,1,(.tm 62))]),
 rq 7 64 (.len false (.tm 63)),
 rq 8 65 (.move (ki 0))] 9 [2,3,5,8,63,64,65])
 (.block 2
 (.loop
 (.seq (.region [rq 0 66 (.bin .lss (.tm 65) (.tm 64))] 1 [2,3,5,8,63,64,65,66])
 (.seq (.cond (.tm 66)
 .skip
 (.exit 2))
 (.seq (.block 3
 (.seq (.region [RM 0 67 65,
 rq 1 68 (.idx 1 (.tm 63) (.tm 65)),
 RL 2 69 68,
 RM 3 9 67,
 RM 4 10 69] 5 [2,3,5,8,9,10,63,64,65])
 (.seq (.region [RM 0 70 10,
 rq 1 71 (.len false (.tm 70)),
 rq 2 72 (.move (ki 0))] 3 [2,3,5,8,9,63,64,65,70,71,72])
 (.block 4
 (.loop
 (.seq (.region [rq 0 73 (.bin .lss (.tm 72) (.tm 71))] 1 [2,3,5,8,9,63,64,65,70,71,72,73])
 (.seq (.cond (.tm 73)
 .skip
 (.exit 4))
 (.seq (.block 5
 (.seq (.region [rq 0 74 (.idx 5 (.tm 70) (.tm 72)),
 rq 1 75 (.load 5 true (.tm 74)),
 rq 2 12 (.alloc [VZ,VZ,VZ,VZ,OZ]),
 rn 3 (.store 5 true (.tm 12) (.tm 75))] 4 [2,3,5,8,9,12,63,64,65,70,71,72])
 (.seq (.seq (.region [RF 0 76 0 12,
 RL 1 77 76,
 rq 2 78 (.call jA [(.tm 77)]),
 rq 3 79 (.un .not (.tm 78)),
 RM 4 80 79,
 GQ 5 81 (.fld 1 (.tm 12)) 80 false,
 GQ 6 82 (.load 1 false (.tm 81)) 80 false,
 GQ 7 83 (.fld 2 (.tm 3)) 80 false,
 GQ 8 84 (.load 1 false (.tm 83)) 80 false,
 GQ 9 85 (.fld 0 (.tm 12)) 80 false,
 GQ 10 86 (.load 1 false (.tm 85)) 80 false,
 GQ 11 87 (.idx 1 (.tm 84) (.tm 86)) 80 false,
 GQ 12 88 (.load 1 false (.tm 87)) 80 false,
 GQ 13 89 (.bin .sub (.tm 88) (ki 1)) 80 false,
 GQ 14 90 (.call cQ [(.tm 82),(ki 0),(.tm 89)]) 80 false,
 GQ 15 91 (.un .not (.tm 90)) 80 false,
 rq 16 92 (.pick (.tm 80) (.kv (.bool true)) (.tm 91)),
 RM 17 93 92,
 GQ 18 94 (.move (.tm 8)) 93 false,
 GQ 19 95 (.fld 0 (.tm 12)) 93 false,
 GQ 20 96 (.load 1 false (.tm 95)) 93 false,
 GQ 21 97 (.fld 1 (.tm 12)) 93 false,
 GQ 22 98 (.load 1 false (.tm 97)) 93 false,
 GQ 23 99 (.build [VZ,VZ] [(0,1,(.tm 96)),(1,1,(.tm 98))]) 93 false,
 GQ 24 100 (.xop (.rA 2 true false) [(.tm 94),(.tm 99)]) 93 false,
 rq 25 101 (.pick (.tm 93) (.kv (.bool true)) (.tm 100))] 26 [2,3,5,8,9,12,63,64,65,70,71,72,101])
 (.cond (.tm 101)
 (.seq (.region [rq 0 4 (.move (.kv (.bool false)))] 1 [4])
 .ret)
 .skip))
 (.seq (.region [RM 0 102 8,
 RF 1 103 0 12,
 RL 2 104 103,
 RF 3 105 1 12,
 RL 4 106 105,
 rq 5 107 (.build [VZ,VZ] [(0,1,(.tm 104)),(1,1,(.tm 106))]),
 rn 6 (.xop (.vM 2 true) [(.tm 102),(.tm 107),(.kv (.bool true))])] 7 [2,3,5,8,9,12,63,64,65,70,71,72])
 (.seq (.region [RM 0 108 9,
 rq 1 109 (.bin .eql (.tm 108) (ki 0)),
 RM 2 110 109,
 GQ 3 111 (.fld 2 (.tm 12)) 110 true,
 GQ 4 112 (.load 3 true (.tm 111)) 110 true,
 GQ 5 113 (.call iT [(.tm 112)]) 110 true,
 GQ 6 114 (.un .not (.tm 113)) 110 true,
 rq 7 115 (.pick (.tm 110) (.tm 114) (.kv (.bool false))),
 RM 8 116 115,
 GQ 9 117 (.move (.tm 9)) 116 false,
 GQ 10 118 (.bin .gtr (.tm 117) (ki 0)) 116 false,
 GQ 11 119 (.move (.tm 118)) 116 false,
 GQ 12 120 (.fld 2 (.tm 12)) 119 true,
 GQ 13 121 (.load 3 true (.tm 120)) 119 true,
 GQ 14 122 (.call m6 [(.tm 121)]) 119 true,
 GQ 15 123 (.un .not (.tm 122)) 119 true,
 GQ 16 124 (.move (.tm 123)) 119 true,
 GQ 17 125 (.fld 2 (.tm 12)) 124 false,
 GQ 18 126 (.fld 0 (.tm 125)) 124 false,
 ⟨19,(some 127),.load 1 false (.tm 126),(some (124,false)),[],[],true⟩,
 GQ 20 128 (.load 3 true (.tm 2)) 124 false,
 GQ 21 129 (.fld 0 (.tm 12)) 124 false,
 GQ 22 130 (.load 1 false (.tm 129)) 124 false,
 GQ 23 131 (.fld 1 (.tm 12)) 124 false,
 GQ 24 132 (.load 1 false (.tm 131)) 124 false,
 ⟨25,(some 133),.call fB [(.tm 128),(.tm 130),(.tm 132)],(some (124,false)),[],[19],false⟩,
 GQ 26 134 (.bin .neq (.tm 127) (.tm 133)) 124 false,
 GQ 27 135 (.pick (.tm 124) (.kv (.bool true)) (.tm 134)) 119 true,
 GQ 28 136 (.pick (.tm 119) (.tm 135) (.kv (.bool false))) 116 false,
 rq 29 137 (.pick (.tm 116) (.kv (.bool true)) (.tm 136))] 30 [2,3,5,8,9,63,64,65,70,71,72,137])
 (.cond (.tm 137)
 (.seq (.region [rq 0 4 (.move (.kv (.bool false)))] 1 [4])
 .ret)
 .skip))))))
 (.region [rq 0 138 (.bin .add (.tm 72) (ki 1)),
 RM 1 72 138] 2 [2,3,5,8,9,63,64,65,70,71,72])))))))))
 (.region [rq 0 139 (.bin .add (.tm 65) (ki 1)),
 RM 1 65 139] 2 [2,3,5,8,63,64,65])))))))
 (.seq (.region [RM 0 140 8,
 rq 1 141 (.xop .sS [(.tm 140)]),
 RM 2 142 5,
 rq 3 143 (.bin .eql (.tm 141) (.tm 142)),
 RM 4 4 143] 5 [4])
 .ret)))))))
def GR:List Cert:=[⟨[],[2,3]⟩,⟨[],[2,3,34]⟩,⟨[],[4]⟩,⟨[],[2,3,5]⟩,⟨[],[2,3,5,36,37,38]⟩,⟨[],[2,3,5,36,37,38,39]⟩,⟨[],[2,3,5,6,7,36,37,38]⟩,⟨[],[2,3,5,7,36,37,38,51]⟩,⟨[],[4]⟩,⟨[],[2,3,5,36,37,38]⟩,⟨[],[2,3,5,36,37,38]⟩,⟨[],[2,3,5,8]⟩,⟨[],[2,3,5,8,63,64,65]⟩,⟨[],[2,3,5,8,63,64,65,66]⟩,⟨[],[2,3,5,8,9,10,63,64,65]⟩,⟨[],[2,3,5,8,9,63,64,65,70,71,72]⟩,⟨[],[2,3,5,8,9,63,64,65,70,71,72,73]⟩,⟨[],[2,3,5,8,9,12,63,64,65,70,71,72]⟩,⟨[cz 0,cz 1,cz 2,cz 3,cz 4,cz 5,cz 6,cz 7,cz 8,cz 9,cz 10,cz 11,cz 12,cz 13,cz 14,cz 15,cz 16,cz 17,cz 18,cz 19,cz 20,cz 21,cz 22,cz 23,cz 24,cz 25],[2,3,5,8,9,12,63,64,65,70,71,72,101]⟩,⟨[],[4]⟩,⟨[],[2,3,5,8,9,12,63,64,65,70,71,72]⟩,⟨[cz 0,cz 1,cz 2,cz 3,cz 4,cz 5,cz 6,cz 7,cz 8,cz 9,cz 10,cz 11,cz 12,cz 13,cz 14,cz 15,cz 16,cz 17,cz 18,(19,[],[],true),cz 20,cz 21,cz 22,cz 23,cz 24,(25,[],[19],false),cz 26,cz 27,cz 28,cz 29],[2,3,5,8,9,63,64,65,70,71,72,137]⟩,⟨[],[4]⟩,⟨[],[2,3,5,8,9,63,64,65,70,71,72]⟩,⟨[],[2,3,5,8,63,64,65]⟩,⟨[],[4]⟩]
def uT:List aW:=[.tm 4]
theorem FR:aO Tryz.prog Tryz.f67 GR=some (mC,uT):=by kernel_rfl
theorem GV:aN Tryz.prog j9 Tryz.f67 mC uT:=
 aN.mk Tryz.func67 (by kernel_rfl) FR
def z5:AC:=
 (.seq (.region [rq 0 6 (.move (.kv (.bool false)))] 1 [0,1,2])
 (.seq (.region [RM 0 7 1,
 rq 1 8 (.bin .eql (.tm 7) (ki 1)),
 RM 2 9 8,
 GQ 3 10 (.move (.tm 1)) 9 false,
 GQ 4 11 (.bin .eql (.tm 10) (ki 2)) 9 false,
 rq 5 12 (.pick (.tm 9) (.kv (.bool true)) (.tm 11)),
 RM 6 13 12,
 GQ 7 14 (.move (.tm 1)) 13 false,
 GQ 8 15 (.bin .eql (.tm 14) (ki 4)) 13 false,
 rq 9 16 (.pick (.tm 13) (.kv (.bool true)) (.tm 15)),
 RM 10 17 16,
 GQ 11 18 (.move (.tm 0)) 17 true,
 GQ 12 19 (.call cQ [(.tm 18),(ki 0),(ki 63)]) 17 true,
 rq 13 20 (.pick (.tm 17) (.tm 19) (.kv (.bool false))),
 RM 14 21 20,
 GQ 15 22 (.move (.tm 2)) 21 true,
 GQ 16 23 (.move (.tm 22)) 21 true,
 GQ 17 24 (.move (.tm 0)) 23 false,
 GQ 18 25 (.move (.tm 1)) 23 false,
 GQ 19 26 (.bin .add (.tm 24) (.tm 25)) 23 false,
 GQ 20 27 (.bin .sub (.tm 26) (ki 1)) 23 false,
 GQ 21 28 (.bin .leq (.tm 27) (ki 63)) 23 false,
 GQ 22 29 (.pick (.tm 23) (.kv (.bool true)) (.tm 28)) 21 true,
 rq 23 30 (.pick (.tm 21) (.tm 29) (.kv (.bool false))),
 RM 24 6 30] 25 [6])
 .ret))
def TH:List Cert:=[⟨[],[0,1,2]⟩,⟨[],[6]⟩]
def IN:List aW:=[.tm 6]
theorem VH:aO Tryz.prog Tryz.f71 TH=some (z5,IN):=by kernel_rfl
theorem VQ:aN Tryz.prog nI Tryz.f71 z5 IN:=
 aN.mk Tryz.func71 (by kernel_rfl) VH
def dX:AC:=
 (.seq (.region [rq 0 4 (.move (.kv (.bool false)))] 1 [0,1])
 (.seq (.region [RM 0 5 0,
 RM 1 6 1,
 rq 2 7 (.call dC [(.tm 5),(.tm 6)]),
 rq 3 8 (.bin .geq (.tm 7) (ki 0)),
 RM 4 4 8] 5 [4])
 .ret))
def m8:List Cert:=[⟨[],[0,1]⟩,⟨[],[4]⟩]
def gQ:List aW:=[.tm 4]
theorem nA:aO Tryz.prog Tryz.f74 m8=some (dX,gQ):=by kernel_rfl
theorem m7:aN Tryz.prog cN Tryz.f74 dX gQ:=
 aN.mk Tryz.func74 (by kernel_rfl) nA
def aBW:AC:=
 (.seq (.region [rq 0 6 (.move (.kv (.bool false)))] 1 [0,1,2])
 (.seq (.region [RM 0 7 0,
 RM 1 8 1,
 rq 2 9 (.bin .geq (.tm 7) (.tm 8)),
 RM 3 10 9,
 GQ 4 11 (.move (.tm 0)) 10 true,
 GQ 5 12 (.move (.tm 2)) 10 true,
 GQ 6 13 (.bin .leq (.tm 11) (.tm 12)) 10 true,
 rq 7 14 (.pick (.tm 10) (.tm 13) (.kv (.bool false))),
 RM 8 6 14] 9 [6])
 .ret))
def aD4:List Cert:=[⟨[],[0,1,2]⟩,⟨[],[6]⟩]
def aCD:List aW:=[.tm 6]
theorem aD3:aO Tryz.prog Tryz.f77 aD4=some (aBW,aCD):=by kernel_rfl
theorem aD6:aN Tryz.prog y2 Tryz.f77 aBW aCD:=
 aN.mk Tryz.func77 (by kernel_rfl) aD3
def tD:AC:=
 (.seq (.region [rq 0 2 (.move (.kv (.slice none 0 0)))] 1 [0])
 (.seq (.region [RM 0 6 0,
 rq 1 7 (.call gG [(.tm 6)]),
 RM 2 3 7] 3 [3])
 (.seq (.seq (.region [RM 0 8 3,
 rq 1 9 (.len false (.tm 8)),
 rq 2 10 (.move (ki 0))] 3 [3,8,9,10])
 (.block 0
 (.loop
 (.seq (.region [rq 0 11 (.bin .lss (.tm 10) (.tm 9))] 1 [3,8,9,10,11])
 (.seq (.cond (.tm 11)
 .skip
 (.exit 0))
 (.seq (.block 1
 (.seq (.region [RM 0 12 10,
 rq 1 13 (.idx 5 (.tm 8) (.tm 10)),
 rq 2 14 (.load 5 true (.tm 13)),
 rq 3 5 (.alloc [VZ,VZ,VZ,VZ,OZ]),
 RM 4 4 12,
 rn 5 (.store 5 true (.tm 5) (.tm 14))] 6 [3,4,5,8,9,10])
 (.region [RM 0 15 3,
 RM 1 16 4,
 RF 2 17 2 5,
 RF 3 18 2 17,
 RL 4 19 18,
 rq 5 20 (.call eX [(.tm 19)]),
 rq 6 21 (.idx 5 (.tm 15) (.tm 16)),
 RF 7 22 2 21,
 RF 8 23 2 22,
 rn 9 (.store 1 false (.tm 23) (.tm 20))] 10 [3,8,9,10])))
 (.region [rq 0 24 (.bin .add (.tm 10) (ki 1)),
 RM 1 10 24] 2 [3,8,9,10])))))))
 (.seq (.region [RM 0 25 3,
 RM 1 2 25] 2 [2])
 .ret))))
def MF:List Cert:=[⟨[],[0]⟩,⟨[],[3]⟩,⟨[],[3,8,9,10]⟩,⟨[],[3,8,9,10,11]⟩,⟨[],[3,4,5,8,9,10]⟩,⟨[],[3,8,9,10]⟩,⟨[],[3,8,9,10]⟩,⟨[],[2]⟩]
def BL:List aW:=[.tm 2]
theorem MI:aO Tryz.prog Tryz.f80 MF=some (tD,BL):=by kernel_rfl
theorem MD:aN Tryz.prog eO Tryz.f80 tD BL:=
 aN.mk Tryz.func80 (by kernel_rfl) MI
def au0:AC:=
 (.seq (.region [rq 0 3 (.box true (.tm 0)),
 rq 1 4 (.box true (.tm 1)),
 rq 2 5 (.box true (.tm 2)),
 rq 3 6 (.move (ki 0))] 4 [3,4,5])
 (.seq (.seq (.region [rq 0 7 (.load 3 true (.tm 3)),
 RF 1 8 1 5,
 RL 2 9 8,
 RF 3 10 2 5,
 RL 4 11 10,
 rq 5 12 (.call at3 [(.tm 7),(.tm 9),(.tm 11)]),
 rq 6 13 (.un .not (.tm 12)),
 RM 7 14 13,
 GQ 8 15 (.fld 0 (.tm 5)) 14 false,
 GQ 9 16 (.load 1 false (.tm 15)) 14 false,
 GQ 10 17 (.call cQ [(.tm 16),(ki 1),(ki 3)]) 14 false,
 GQ 11 18 (.un .not (.tm 17)) 14 false,
 rq 12 19 (.pick (.tm 14) (.kv (.bool true)) (.tm 18))] 13 [3,4,5,19])
 (.cond (.tm 19)
 (.seq (.region [rq 0 6 (.move (ki 1))] 1 [6])
 .ret)
 .skip))
 (.seq (.seq (.region [RF 0 20 0 5,
 RL 1 21 20] 2 [3,4,5,21])
 (.block 0
 (.seq (.region [rq 0 23 (.bin .eql (.tm 21) (ki 1)),
 RM 1 22 23] 2 [3,4,5,21,22])
 (.cond (.tm 22)
 (.seq (.region [RF 0 24 2 5,
 RL 1 25 24,
 RF 2 26 2 4,
 RL 3 27 26,
 RF 4 28 1 5,
 RL 5 29 28,
 rq 6 30 (.idx 1 (.tm 27) (.tm 29)),
 RL 7 31 30,
 rq 8 32 (.bin .neq (.tm 25) (.tm 31))] 9 [32])
 (.cond (.tm 32)
 (.seq (.region [rq 0 6 (.move (ki 2))] 1 [6])
 .ret)
 .skip))
 (.seq (.region [rq 0 34 (.bin .eql (.tm 21) (ki 2)),
 RM 1 33 34] 2 [3,4,5,21,33])
 (.cond (.tm 33)
 (.block 1
 (.seq (.region [RF 0 36 3 4,
 RL 1 37 36,
 RF 2 38 1 5,
 RL 3 39 38,
 RF 4 40 2 5,
 RL 5 41 40,
 rq 6 42 (.call auK [(.tm 37),(.tm 39),(.tm 41)]),
 rq 7 43 (.bin .lss (.tm 42) (ki 0)),
 RM 8 35 43] 9 [3,4,5,35])
 (.cond (.tm 35)
 (.seq (.region [rq 0 6 (.move (ki 3))] 1 [6])
 .ret)
 (.seq (.region [rq 0 45 (.load 3 true (.tm 3)),
 RF 1 46 3 4,
 RL 2 47 46,
 rq 3 48 (.load 3 true (.tm 5)),
 rq 4 49 (.call atY [(.tm 45),(.tm 47),(.tm 48)]),
 RM 5 44 49] 6 [44])
 (.cond (.tm 44)
 (.seq (.region [rq 0 6 (.move (ki 4))] 1 [6])
 .ret)
 .skip)))))
 (.seq (.region [rq 0 51 (.bin .eql (.tm 21) (ki 3)),
 RM 1 50 51] 2 [3,4,5,50])
 (.cond (.tm 50)
 (.block 2
 (.seq (.region [RF 0 53 4 4,
 RL 1 54 53,
 RF 2 55 1 5,
 RL 3 56 55,
 RF 4 57 2 5,
 RL 5 58 57,
 rq 6 59 (.call auK [(.tm 54),(.tm 56),(.tm 58)]),
 rq 7 60 (.bin .lss (.tm 59) (ki 0)),
 RM 8 52 60] 9 [3,4,5,52])
 (.cond (.tm 52)
 (.seq (.region [rq 0 6 (.move (ki 5))] 1 [6])
 .ret)
 (.seq (.region [rq 0 62 (.load 3 true (.tm 3)),
 RF 1 63 3 4,
 RL 2 64 63,
 rq 3 65 (.load 3 true (.tm 5)),
 rq 4 66 (.call atY [(.tm 62),(.tm 64),(.tm 65)]),
 RM 5 67 66,
 GQ 6 68 (.load 3 true (.tm 3)) 67 false,
 GQ 7 69 (.fld 4 (.tm 4)) 67 false,
 GQ 8 70 (.load 1 false (.tm 69)) 67 false,
 GQ 9 71 (.load 3 true (.tm 5)) 67 false,
 GQ 10 72 (.call atY [(.tm 68),(.tm 70),(.tm 71)]) 67 false,
 rq 11 73 (.pick (.tm 67) (.kv (.bool true)) (.tm 72)),
 RM 12 61 73] 13 [61])
 (.cond (.tm 61)
 (.seq (.region [rq 0 6 (.move (ki 6))] 1 [6])
 .ret)
 .skip)))))
 .skip))))))))
 (.seq (.region [rq 0 6 (.move (ki 0))] 1 [6])
 .ret))))
def axB:List Cert:=[⟨[],[3,4,5]⟩,⟨[],[3,4,5,19]⟩,⟨[],[6]⟩,⟨[],[3,4,5,21]⟩,⟨[],[3,4,5,21,22]⟩,⟨[cz 0,cz 1,cz 2,cz 3,cz 4,cz 5,cz 6,cz 7,cz 8],[32]⟩,⟨[],[6]⟩,⟨[],[3,4,5,21,33]⟩,⟨[],[3,4,5,35]⟩,⟨[],[6]⟩,⟨[],[44]⟩,⟨[],[6]⟩,⟨[],[3,4,5,50]⟩,⟨[],[3,4,5,52]⟩,⟨[],[6]⟩,⟨[],[61]⟩,⟨[],[6]⟩,⟨[],[6]⟩]
def avY:List aW:=[.tm 6]
theorem aw8:aO Tryz.prog Tryz.f82 axB=some (au0,avY):=by kernel_rfl
theorem axA:aN Tryz.prog auN Tryz.f82 au0 avY:=
 aN.mk Tryz.func82 (by kernel_rfl) aw8
def auM:AC:=
 (.seq (.region [rq 0 3 (.box true (.tm 0)),
 rq 1 5 (.box true (.tm 2))] 2 [1,3,5])
 (.seq (.region [RF 0 8 0 5,
 RL 1 9 8] 2 [1,3,5,9])
 (.block 0
 (.seq (.region [rq 0 11 (.bin .eql (.tm 9) (ki 1)),
 RM 1 10 11] 2 [1,3,5,9,10])
 (.cond (.tm 10)
 (.seq (.region [RM 0 12 1,
 RK 1 13 12,
 RF 2 14 2 13,
 RL 3 15 14,
 RF 4 16 1 5,
 RL 5 17 16,
 rq 6 18 (.idx 1 (.tm 15) (.tm 17)),
 RL 7 19 18,
 rq 8 20 (.bin .add (.tm 19) (ki 1)),
 rq 9 21 (.idx 1 (.tm 15) (.tm 17)),
 rn 10 (.store 1 false (.tm 21) (.tm 20))] 11 [1,5])
 (.region [RM 0 22 1,
 RM 1 23 1,
 RK 2 24 23,
 RF 3 25 3 24,
 RL 4 26 25,
 RF 5 27 1 5,
 RL 6 28 27,
 RF 7 29 2 5,
 RL 8 30 29,
 rq 9 31 (.build [VZ,VZ,VZ,VZ,OZ] [(0,1,(.tm 28)),(1,1,(.tm 30))]),
 rq 10 32 (.call auE [(.tm 26),(.tm 31)]),
 RK 11 33 22,
 RF 12 34 3 33,
 rn 13 (.store 1 false (.tm 34) (.tm 32))] 14 []))
 (.seq (.region [rq 0 36 (.bin .eql (.tm 9) (ki 2)),
 RM 1 35 36] 2 [1,3,5,9,35])
 (.cond (.tm 35)
 (.seq (.region [RM 0 37 1,
 RK 1 38 37,
 RF 2 39 3 38,
 RL 3 40 39,
 RF 4 41 1 5,
 RL 5 42 41,
 RF 6 43 2 5,
 RL 7 44 43,
 rq 8 45 (.call auK [(.tm 40),(.tm 42),(.tm 44)]),
 RM 9 6 45] 10 [1,3,5,6])
 (.seq (.region [RM 0 46 1,
 RM 1 47 1,
 RK 2 48 47,
 RF 3 49 3 48,
 RL 4 50 49,
 RM 5 51 6,
 RM 6 52 6,
 rq 7 53 (.bin .add (.tm 52) (ki 1)),
 rq 8 54 (.call x4 [(.tm 50),(.tm 51),(.tm 53)]),
 RK 9 55 46,
 RF 10 56 3 55,
 rn 11 (.store 1 false (.tm 56) (.tm 54))] 12 [1,3,5])
 (.region [RM 0 57 1,
 RM 1 58 1,
 RK 2 59 58,
 RF 3 60 4 59,
 ⟨4,(some 61),.load 1 false (.tm 60),none,[],[],true⟩,
 RF 5 62 1 5,
 ⟨6,(some 63),.load 1 false (.tm 62),none,[],[],true⟩,
 RF 7 64 2 5,
 ⟨8,(some 65),.load 1 false (.tm 64),none,[],[],true⟩,
 RM 9 66 1,
 RK 10 67 66,
 RF 11 68 0 67,
 RF 12 69 0 3,
 RL 13 70 69,
 RF 14 71 1 5,
 RL 15 72 71,
 RF 16 73 2 3,
 RL 17 74 73,
 RF 18 75 1 5,
 RL 19 76 75,
 rq 20 77 (.idx 1 (.tm 74) (.tm 76)),
 RL 21 78 77,
 RF 22 79 2 5,
 RL 23 80 79,
 rq 24 81 (.idx 7 (.tm 78) (.tm 80)),
 rq 25 82 (.load 7 true (.tm 81)),
 ⟨26,(some 83),.call pL [(.tm 68),(.tm 70),(.tm 72),(.tm 82)],none,[],[4,6,8],false⟩,
 rq 27 84 (.build [VZ,VZ,VZ,VZ,OZ] [(0,1,(.tm 63)),(1,1,(.tm 65)),(2,3,(.tm 83))]),
 rq 28 85 (.call auE [(.tm 61),(.tm 84)]),
 RK 29 86 57,
 RF 30 87 4 86,
 rn 31 (.store 1 false (.tm 87) (.tm 85))] 32 [])))
 (.seq (.region [rq 0 89 (.bin .eql (.tm 9) (ki 3)),
 RM 1 88 89] 2 [1,5,88])
 (.cond (.tm 88)
 (.seq (.region [RM 0 90 1,
 RK 1 91 90,
 RF 2 92 4 91,
 RL 3 93 92,
 RF 4 94 1 5,
 RL 5 95 94,
 RF 6 96 2 5,
 RL 7 97 96,
 rq 8 98 (.call auK [(.tm 93),(.tm 95),(.tm 97)]),
 RM 9 7 98] 10 [1,7])
 (.seq (.region [RM 0 99 1,
 RM 1 100 1,
 RK 2 101 100,
 RF 3 102 5 101,
 ⟨4,(some 103),.load 1 false (.tm 102),none,[12],[],false⟩,
 RM 5 104 1,
 RK 6 105 104,
 RF 7 106 4 105,
 RL 8 107 106,
 RM 9 108 7,
 rq 10 109 (.idx 5 (.tm 107) (.tm 108)),
 rq 11 110 (.load 5 true (.tm 109)),
 rq 12 111 (.bC 5 1 [VZ,VZ,VZ,VZ,OZ] [(0,5,(.tm 110))]),
 rq 13 112 (.append 5 (.tm 103) (.tm 111)),
 RK 14 113 99,
 RF 15 114 5 113,
 rn 16 (.store 1 false (.tm 114) (.tm 112))] 17 [1,7])
 (.region [RM 0 115 1,
 RM 1 116 1,
 RK 2 117 116,
 RF 3 118 4 117,
 RL 4 119 118,
 RM 5 120 7,
 RM 6 121 7,
 rq 7 122 (.bin .add (.tm 121) (ki 1)),
 rq 8 123 (.call x4 [(.tm 119),(.tm 120),(.tm 122)]),
 RK 9 124 115,
 RF 10 125 4 124,
 rn 11 (.store 1 false (.tm 125) (.tm 123))] 12 [])))
 .skip)))))))))
def awH:List Cert:=[⟨[],[1,3,5]⟩,⟨[],[1,3,5,9]⟩,⟨[],[1,3,5,9,10]⟩,⟨[cz 0,cz 1,cz 2,cz 3,cz 4,cz 5,cz 6,cz 7,cz 8,cz 9,cz 10],[1,5]⟩,⟨[cz 0,cz 1,cz 2,cz 3,cz 4,cz 5,cz 6,cz 7,cz 8,cz 9,cz 10,cz 11,cz 12,cz 13],[]⟩,⟨[],[1,3,5,9,35]⟩,⟨[cz 0,cz 1,cz 2,cz 3,cz 4,cz 5,cz 6,cz 7,cz 8,cz 9],[1,3,5,6]⟩,⟨[],[1,3,5]⟩,⟨[cz 0,cz 1,cz 2,cz 3,(4,[],[],true),cz 5,(6,[],[],true),cz 7,(8,[],[],true),cz 9,cz 10,cz 11,cz 12,cz 13,cz 14,cz 15,cz 16,cz 17,cz 18,cz 19,cz 20,cz 21,cz 22,cz 23,cz 24,cz 25,(26,[],[4,6,8],false),cz 27,cz 28,cz 29,cz 30,cz 31],[]⟩,⟨[],[1,5,88]⟩,⟨[cz 0,cz 1,cz 2,cz 3,cz 4,cz 5,cz 6,cz 7,cz 8,cz 9],[1,7]⟩,⟨[cz 0,cz 1,cz 2,cz 3,(4,[12],[],false),cz 5,cz 6,cz 7,cz 8,cz 9,cz 10,cz 11,cz 12,cz 13,cz 14,cz 15,cz 16],[1,7]⟩,⟨[],[]⟩]
def avH:List aW:=[]
theorem awF:aO Tryz.prog Tryz.f83 awH=some (auM,avH):=by kernel_rfl
theorem awG:aN Tryz.prog auD Tryz.f83 auM avH:=
 aN.mk Tryz.func83 (by kernel_rfl) awF
def kD:AC:=
 (.seq (.region [rq 0 1 (.box true (.tm 0)),
 rq 1 2 (.alloc [OZ,OZ,OZ,OZ,OZ,OZ])] 2 [1,2])
 (.seq (.region [RF 0 3 0 1,
 rq 1 4 (.load 2 true (.tm 3)),
 RF 3 6 2 1,
 ⟨4,(some 7),.load 1 false (.tm 6),none,[],[],true⟩,
 RF 6 9 3 1,
 ⟨7,(some 10),.load 1 false (.tm 9),none,[],[],true⟩,
 RF 9 12 4 1,
 ⟨10,(some 13),.load 1 false (.tm 12),none,[],[],true⟩,
 RF 12 15 5 1,
 ⟨13,(some 16),.load 1 false (.tm 15),none,[],[],true⟩,
 ⟨2,(some 5),.call fL [(.tm 4)],none,[],[4,7,10,13],false⟩,
 ⟨5,(some 8),.call eX [(.tm 7)],none,[],[7,10,13],false⟩,
 ⟨8,(some 11),.call eO [(.tm 10)],none,[],[10,13],false⟩,
 ⟨11,(some 14),.call eO [(.tm 13)],none,[],[13],false⟩,
 rq 14 17 (.call eO [(.tm 16)]),
 rq 15 18 (.build [OZ,OZ,OZ,OZ,OZ,OZ] [(0,2,(.tm 5)),(2,1,(.tm 8)),(3,1,(.tm 11)),(4,1,(.tm 14)),(5,1,(.tm 17))]),
 rn 16 (.store 6 true (.tm 2) (.tm 18))] 17 [2])
 .ret))
def BO:List Cert:=[⟨[],[1,2]⟩,⟨[cz 0,cz 1,cz 3,(4,[],[],true),cz 6,(7,[],[],true),cz 9,(10,[],[],true),cz 12,(13,[],[],true),(2,[],[4,7,10,13],false),(5,[],[7,10,13],false),(8,[],[10,13],false),(11,[],[13],false),cz 14,cz 15,cz 16],[2]⟩]
def pT:List aW:=[.cell 2 6 true]
theorem A3:aO Tryz.prog Tryz.f85 BO=some (kD,pT):=by kernel_rfl
theorem AY:aN Tryz.prog iG Tryz.f85 kD pT:=
 aN.mk Tryz.func85 (by kernel_rfl) A3
def nP:AC:=
 (.seq (.region [rq 0 2 (.box true (.tm 0)),
 rq 1 3 (.box true (.tm 1)),
 rq 2 4 (.move (ki 0))] 3 [2,3])
 (.seq (.region [RF 0 5 0 2,
 RL 1 6 5,
 RF 2 7 0 3,
 RL 3 8 7,
 RF 5 10 1 2,
 ⟨6,(some 11),.load 1 false (.tm 10),none,[10],[],true⟩,
 RF 7 12 1 3,
 ⟨8,(some 13),.load 1 false (.tm 12),none,[10],[],true⟩,
 ⟨4,(some 9),.call jC [(.tm 6),(.tm 8)],none,[],[6,8],false⟩,
 rq 9 14 (.call jC [(.tm 11),(.tm 13)]),
 rq 10 15 (.bC 1 2 [VZ] [(0,1,(.tm 9)),(1,1,(.tm 14))]),
 rq 11 16 (.call wC [(.tm 15)]),
 RM 12 4 16] 13 [4])
 .ret))
def HO:List Cert:=[⟨[],[2,3]⟩,⟨[cz 0,cz 1,cz 2,cz 3,cz 5,(6,[10],[],true),cz 7,(8,[10],[],true),(4,[],[6,8],false),cz 9,cz 10,cz 11,cz 12],[4]⟩]
def vV:List aW:=[.tm 4]
theorem HE:aO Tryz.prog Tryz.f87 HO=some (nP,vV):=by kernel_rfl
theorem HI:aN Tryz.prog bJ Tryz.f87 nP vV:=
 aN.mk Tryz.func87 (by kernel_rfl) HE
def auT:AC:=
 (.seq (.region [rq 0 3 (.box true (.tm 0)),
 rq 1 6 (.move (.kv (.bool false)))] 2 [1,2,3])
 (.seq (.region [RM 0 7 1,
 rq 1 8 (.call jA [(.tm 7)]),
 RM 2 9 8,
 GQ 3 10 (.move (.tm 2)) 9 true,
 GQ 4 11 (.fld 2 (.tm 3)) 9 true,
 GQ 5 12 (.load 1 false (.tm 11)) 9 true,
 GQ 6 13 (.move (.tm 1)) 9 true,
 GQ 7 14 (.idx 1 (.tm 12) (.tm 13)) 9 true,
 GQ 8 15 (.load 1 false (.tm 14)) 9 true,
 GQ 9 16 (.len false (.tm 15)) 9 true,
 GQ 10 17 (.bin .sub (.tm 16) (ki 1)) 9 true,
 GQ 11 18 (.call cQ [(.tm 10),(ki 0),(.tm 17)]) 9 true,
 rq 12 19 (.pick (.tm 9) (.tm 18) (.kv (.bool false))),
 RM 13 6 19] 14 [6])
 .ret))
def awY:List Cert:=[⟨[],[1,2,3]⟩,⟨[],[6]⟩]
def avR:List aW:=[.tm 6]
theorem awT:aO Tryz.prog Tryz.f88 awY=some (auT,avR):=by kernel_rfl
theorem awU:aN Tryz.prog at3 Tryz.f88 auT avR:=
 aN.mk Tryz.func88 (by kernel_rfl) awT
def nS:AC:=
 (.seq (.region [rq 0 7 (.box true (.tm 3)),
 rq 1 8 (.alloc [VZ,VZ,OZ])] 2 [0,1,2,7,8])
 (.seq (.region [RM 0 19 1,
 rq 1 20 (.load 7 true (.tm 7)),
 rq 2 21 (.call mZ [(.tm 19),(.tm 20)]),
 RM 3 9 21] 4 [0,1,2,7,8,9])
 (.seq (.region [RF 0 22 0 7,
 RL 1 23 22,
 rq 2 24 (.build [VZ,VZ,OZ] [(0,1,(.tm 23)),(1,1,(ki 1))]),
 rq 3 10 (.alloc [VZ,VZ,OZ]),
 rn 4 (.store 3 true (.tm 10) (.tm 24))] 5 [0,1,2,7,8,9,10])
 (.seq (.region [RM 0 25 0,
 RK 1 26 25,
 RF 2 27 1 26,
 RL 3 28 27,
 RM 4 29 2,
 rq 5 30 (.bin .mul (.tm 29) (ki 2)),
 RF 6 31 0 7,
 RL 7 32 31,
 rq 8 33 (.bin .add (.tm 30) (.tm 32)),
 rq 9 34 (.idx 1 (.tm 28) (.tm 33)),
 RM 10 11 34] 11 [0,1,7,8,9,10,11])
 (.seq (.block 0
 (.seq (.region [RM 0 36 9,
 rq 1 37 (.bin .lss (.tm 36) (ki 0)),
 RM 2 35 37] 3 [0,1,7,8,9,10,11,35])
 (.cond (.tm 35)
 (.seq (.region [RF 0 38 1 10,
 rn 1 (.store 1 false (.tm 38) (ki 4))] 2 [8,10])
 (.seq (.region [rq 0 39 (.load 3 true (.tm 10)),
 rn 1 (.store 3 true (.tm 8) (.tm 39))] 2 [8])
 .ret))
 (.seq (.region [rq 0 41 (.load 7 true (.tm 7)),
 rq 1 42 (.call eY [(.tm 41)]),
 RM 2 43 42,
 GQ 3 44 (.move (.tm 1)) 43 true,
 GQ 4 45 (.move (.tm 9)) 43 true,
 GQ 5 46 (.idx 4 (.tm 44) (.tm 45)) 43 true,
 GQ 6 47 (.fld 3 (.tm 46)) 43 true,
 GQ 7 48 (.load 1 false (.tm 47)) 43 true,
 rq 8 49 (.pick (.tm 43) (.tm 48) (.kv (.bool false))),
 RM 9 40 49] 10 [0,7,8,10,11,40])
 (.cond (.tm 40)
 (.seq (.region [RF 0 50 1 10,
 rn 1 (.store 1 false (.tm 50) (ki 3))] 2 [8,10])
 (.seq (.region [rq 0 51 (.load 3 true (.tm 10)),
 rn 1 (.store 3 true (.tm 8) (.tm 51))] 2 [8])
 .ret))
 (.seq (.region [RF 0 53 1 7,
 RL 1 54 53,
 rq 2 55 (.bin .eql (.tm 54) (ki 4)),
 RM 3 56 55,
 GQ 4 57 (.move (.tm 11)) 56 true,
 GQ 5 58 (.tF (.tm 57)) 56 true,
 GQ 6 59 (.load 1 false (.tm 58)) 56 true,
 GQ 7 60 (.fld 2 (.tm 7)) 56 true,
 GQ 8 61 (.load 1 false (.tm 60)) 56 true,
 GQ 9 62 (.bin .neq (.tm 59) (.tm 61)) 56 true,
 rq 10 63 (.pick (.tm 56) (.tm 62) (.kv (.bool false))),
 RM 11 52 63] 12 [0,7,8,10,11,52])
 (.cond (.tm 52)
 (.seq (.region [rq 0 64 (.load 3 true (.tm 10)),
 rn 1 (.store 3 true (.tm 8) (.tm 64))] 2 [8])
 .ret)
 .skip)))))))
 (.seq (.region [rq 0 65 (.load 7 true (.tm 7)),
 rq 1 66 (.call fP [(.tm 65)]),
 RM 2 12 66] 3 [0,7,8,10,11,12])
 (.seq (.seq (.region [rq 0 67 (.load 7 true (.tm 7)),
 rq 1 68 (.call eY [(.tm 67)]),
 rq 2 69 (.un .not (.tm 68))] 3 [0,7,8,10,11,12,69])
 (.cond (.tm 69)
 (.seq (.region [RM 0 70 12,
 rq 1 71 (.len false (.tm 70)),
 rq 2 72 (.kY 1 [VZ] (.tm 71) (.tm 71)),
 RF 3 73 2 10,
 rn 4 (.store 1 false (.tm 73) (.tm 72))] 5 [0,7,8,10,11,12])
 (.seq (.seq (.region [RM 0 74 12,
 rq 1 75 (.len false (.tm 74)),
 rq 2 76 (.move (ki 0))] 3 [0,7,8,10,11,74,75,76])
 (.block 1
 (.loop
 (.seq (.region [rq 0 77 (.bin .lss (.tm 76) (.tm 75))] 1 [0,7,8,10,11,74,75,76,77])
 (.seq (.cond (.tm 77)
 .skip
 (.exit 1))
 (.seq (.block 2
 (.seq (.region [RM 0 78 76,
 rq 1 79 (.idx 1 (.tm 74) (.tm 76)),
 RL 2 80 79,
 RM 3 13 78,
 RM 4 14 80] 5 [0,7,8,10,11,13,14,74,75,76])
 (.region [RF 0 81 2 10,
 RL 1 82 81,
 RM 2 83 13,
 RM 3 84 0,
 RK 4 85 84,
 RF 5 86 0 85,
 RF 6 87 0 86,
 RL 7 88 87,
 RM 8 89 14,
 rq 9 90 (.idx 1 (.tm 88) (.tm 89)),
 RL 10 91 90,
 rq 11 92 (.idx 1 (.tm 82) (.tm 83)),
 rn 12 (.store 1 false (.tm 92) (.tm 91))] 13 [0,7,8,10,11,74,75,76])))
 (.region [rq 0 93 (.bin .add (.tm 76) (ki 1)),
 RM 1 76 93] 2 [0,7,8,10,11,74,75,76])))))))
 (.seq (.seq (.region [RF 0 94 1 7,
 RL 1 95 94,
 rq 2 96 (.bin .eql (.tm 95) (ki 3))] 3 [7,8,10,11,96])
 (.cond (.tm 96)
 (.seq (.region [RF 0 97 1 10,
 rn 1 (.store 1 false (.tm 97) (ki 2))] 2 [7,8,10,11])
 (.region [RM 0 98 11,
 RF 1 99 2 7,
 RL 2 100 99,
 RK 3 101 98,
 rn 4 (.store 1 false (.tm 101) (.tm 100))] 5 [8,10]))
 .skip))
 (.seq (.region [rq 0 102 (.load 3 true (.tm 10)),
 rn 1 (.store 3 true (.tm 8) (.tm 102))] 2 [8])
 .ret))))
 .skip))
 (.seq (.seq (.region [RF 0 103 1 7,
 RL 1 104 103,
 rq 2 105 (.bin .eql (.tm 104) (ki 4))] 3 [0,7,8,10,12,105])
 (.cond (.tm 105)
 (.region [RF 0 106 1 10,
 rn 1 (.store 1 false (.tm 106) (ki 2))] 2 [0,7,8,10,12])
 .skip))
 (.seq (.seq (.region [RM 0 107 12,
 rq 1 108 (.len false (.tm 107)),
 rq 2 109 (.move (ki 0))] 3 [0,7,8,10,12,107,108,109])
 (.block 3
 (.loop
 (.seq (.region [rq 0 110 (.bin .lss (.tm 109) (.tm 108))] 1 [0,7,8,10,12,107,108,109,110])
 (.seq (.cond (.tm 110)
 .skip
 (.exit 3))
 (.seq (.block 4
 (.seq (.region [RM 0 111 109,
 rq 1 112 (.idx 1 (.tm 107) (.tm 109)),
 RL 2 113 112,
 RM 3 15 111,
 RM 4 16 113] 5 [0,7,8,10,12,15,16,107,108,109])
 (.region [RM 0 114 0,
 RK 1 115 114,
 RF 2 116 0 115,
 RF 3 117 0 116,
 ⟨4,(some 118),.load 1 false (.tm 117),none,[],[],true⟩,
 RM 5 119 16,
 RM 6 120 0,
 RK 7 121 120,
 RF 8 122 0 121,
 RF 9 123 0 122,
 RL 10 124 123,
 RM 11 125 16,
 rq 12 126 (.idx 1 (.tm 124) (.tm 125)),
 RL 13 127 126,
 RF 14 128 5 7,
 RL 15 129 128,
 RM 16 130 15,
 rq 17 131 (.idx 1 (.tm 129) (.tm 130)),
 RL 18 132 131,
 RF 19 133 6 7,
 RL 20 134 133,
 RM 21 135 15,
 rq 22 136 (.idx 1 (.tm 134) (.tm 135)),
 RL 23 137 136,
 ⟨24,(some 138),.call DA [(.tm 127),(.tm 132),(.tm 137)],none,[],[4],false⟩,
 rq 25 139 (.idx 1 (.tm 118) (.tm 119)),
 rn 26 (.store 1 false (.tm 139) (.tm 138))] 27 [0,7,8,10,12,107,108,109])))
 (.region [rq 0 140 (.bin .add (.tm 109) (ki 1)),
 RM 1 109 140] 2 [0,7,8,10,12,107,108,109])))))))
 (.seq (.seq (.region [RM 0 141 0,
 RK 1 142 141,
 RF 2 143 1 142,
 RL 3 144 143,
 rq 4 145 (.len false (.tm 144)),
 rq 5 146 (.move (ki 0))] 6 [0,8,10,12,144,145,146])
 (.block 5
 (.loop
 (.seq (.region [rq 0 147 (.bin .lss (.tm 146) (.tm 145))] 1 [0,8,10,12,144,145,146,147])
 (.seq (.cond (.tm 147)
 .skip
 (.exit 5))
 (.seq (.block 6
 (.seq (.region [RM 0 148 146,
 rq 1 149 (.idx 1 (.tm 144) (.tm 146)),
 RL 2 150 149,
 RM 3 17 148,
 RM 4 18 150] 5 [0,8,10,12,17,18,144,145,146])
 (.seq (.region [RM 0 151 12,
 RM 1 152 18,
 rq 2 153 (.call fK [(.tm 151),(.tm 152)])] 3 [0,8,10,12,17,144,145,146,153])
 (.cond (.tm 153)
 (.region [RM 0 154 0,
 RK 1 155 154,
 RF 2 156 1 155,
 RL 3 157 156,
 RM 4 158 17,
 rq 5 159 (.idx 1 (.tm 157) (.tm 158)),
 rn 6 (.store 1 false (.tm 159) (.kv (.int .i64 (-1))))] 7 [0,8,10,12,144,145,146])
 .skip))))
 (.region [rq 0 160 (.bin .add (.tm 146) (ki 1)),
 RM 1 146 160] 2 [0,8,10,12,144,145,146])))))))
 (.seq (.region [rq 0 161 (.load 3 true (.tm 10)),
 rn 1 (.store 3 true (.tm 8) (.tm 161))] 2 [8])
 .ret)))))))))))
def HP:List Cert:=[⟨[],[0,1,2,7,8]⟩,⟨[],[0,1,2,7,8,9]⟩,⟨[],[0,1,2,7,8,9,10]⟩,⟨[cz 0,cz 1,cz 2,cz 3,cz 4,cz 5,cz 6,cz 7,cz 8,cz 9,cz 10],[0,1,7,8,9,10,11]⟩,⟨[],[0,1,7,8,9,10,11,35]⟩,⟨[],[8,10]⟩,⟨[],[8]⟩,⟨[],[0,7,8,10,11,40]⟩,⟨[],[8,10]⟩,⟨[],[8]⟩,⟨[cz 0,cz 1,cz 2,cz 3,cz 4,cz 5,cz 6,cz 7,cz 8,cz 9,cz 10,cz 11],[0,7,8,10,11,52]⟩,⟨[],[8]⟩,⟨[],[0,7,8,10,11,12]⟩,⟨[],[0,7,8,10,11,12,69]⟩,⟨[],[0,7,8,10,11,12]⟩,⟨[],[0,7,8,10,11,74,75,76]⟩,⟨[],[0,7,8,10,11,74,75,76,77]⟩,⟨[],[0,7,8,10,11,13,14,74,75,76]⟩,⟨[cz 0,cz 1,cz 2,cz 3,cz 4,cz 5,cz 6,cz 7,cz 8,cz 9,cz 10,cz 11,cz 12],[0,7,8,10,11,74,75,76]⟩,⟨[],[0,7,8,10,11,74,75,76]⟩,⟨[],[7,8,10,11,96]⟩,⟨[],[7,8,10,11]⟩,⟨[],[8,10]⟩,⟨[],[8]⟩,⟨[],[0,7,8,10,12,105]⟩,⟨[],[0,7,8,10,12]⟩,⟨[],[0,7,8,10,12,107,108,109]⟩,⟨[],[0,7,8,10,12,107,108,109,110]⟩,⟨[],[0,7,8,10,12,15,16,107,108,109]⟩,⟨[cz 0,cz 1,cz 2,cz 3,(4,[],[],true),cz 5,cz 6,cz 7,cz 8,cz 9,cz 10,cz 11,cz 12,cz 13,cz 14,cz 15,cz 16,cz 17,cz 18,cz 19,cz 20,cz 21,cz 22,cz 23,(24,[],[4],false),cz 25,cz 26],[0,7,8,10,12,107,108,109]⟩,⟨[],[0,7,8,10,12,107,108,109]⟩,⟨[],[0,8,10,12,144,145,146]⟩,⟨[],[0,8,10,12,144,145,146,147]⟩,⟨[],[0,8,10,12,17,18,144,145,146]⟩,⟨[],[0,8,10,12,17,144,145,146,153]⟩,⟨[],[0,8,10,12,144,145,146]⟩,⟨[],[0,8,10,12,144,145,146]⟩,⟨[],[8]⟩]
def vR:List aW:=[.cell 8 3 true]
theorem HL:aO Tryz.prog Tryz.f89 HP=some (nS,vR):=by kernel_rfl
theorem avS:aN Tryz.prog pL Tryz.f89 nS vR:=
 aN.mk Tryz.func89 (by kernel_rfl) HL
def gI:AC:=
 (.seq (.region [rq 0 2 (.move (.kv (.slice none 0 0)))] 1 [0])
 (.seq (.region [RM 0 3 0,
 RM 1 4 0,
 rq 2 5 (.len false (.tm 4)),
 RM 3 6 0,
 rq 4 7 (.len false (.tm 6)),
 rq 5 8 (.slc 5 (.tm 3) none (some (.tm 5)) (some (.tm 7))),
 RM 6 2 8] 7 [2])
 .ret))
def t9:List Cert:=[⟨[],[0]⟩,⟨[],[2]⟩]
def kU:List aW:=[.tm 2]
theorem uF:aO Tryz.prog Tryz.f90 t9=some (gI,kU):=by kernel_rfl
theorem uU:aN Tryz.prog eS Tryz.f90 gI kU:=
 aN.mk Tryz.func90 (by kernel_rfl) uF
end Go.Proofs.YtegiblhkjfiooaaGreat
end
