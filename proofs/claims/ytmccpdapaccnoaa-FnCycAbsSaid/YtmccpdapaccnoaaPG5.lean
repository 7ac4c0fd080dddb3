/- Texts laid together by a program: rules, contracts and the walk that leads to the law. -/
import Derived.Test.YtmccpdapaccnoaaPG3
set_option linter.unusedVariables false
set_option linter.unusedSimpArgs false
set_option linter.unusedSectionVars false
section
namespace Go.Proofs.Ytmccpdapaccnoaa
open Go Go.AM
set_option maxRecDepth 100000
def sW:AC:=
 (.seq (.region [rq 0 2 (.move (.kv (.bool false)))] 1 [0])
 (.seq (.region [RM 0 3 0,
 RM 1 4 0,
 rq 2 5 (.bin .neq (.tm 3) (.tm 4)),
 RM 3 2 5] 4 [2])
 .ret))
def NG:List Cert:=[⟨[],[0]⟩,⟨[],[2]⟩]
def A2:List aW:=[.tm 2]
theorem M6:aO Try.prog Try.f50 NG=some (sW,A2):=by kernel_rfl
theorem MP:aN Try.prog lG Try.f50 sW A2:=
 aN.mk Try.func50 (by kernel_rfl) M6
def kB:AC:=
 (.seq (.region [rq 0 2 (.move (.kv (.slice none 0 0)))] 1 [0])
 (.seq (.region [RM 0 3 0,
 RM 1 4 0,
 rq 2 5 (.len false (.tm 4)),
 RM 3 6 0,
 rq 4 7 (.len false (.tm 6)),
 rq 5 8 (.slc 1 (.tm 3) none (some (.tm 5)) (some (.tm 7))),
 RM 6 2 8] 7 [2])
 .ret))
def A7:List Cert:=[⟨[],[0]⟩,⟨[],[2]⟩]
def pX:List aW:=[.tm 2]
theorem A6:aO Try.prog Try.f51 A7=some (kB,pX):=by kernel_rfl
theorem BK:aN Try.prog iD Try.f51 kB pX:=
 aN.mk Try.func51 (by kernel_rfl) A6
def jL:AC:=
 (.seq (.region [rq 0 2 (.move (.kv (.slice none 0 0)))] 1 [0])
 (.seq (.seq (.region [RM 0 3 0,
 rq 1 4 (.xop (.qJ false) [(.tm 3)])] 2 [0,4])
 (.cond (.tm 4)
 (.seq (.region [rq 0 2 (.move (.kv (.slice none 0 0)))] 1 [2])
 .ret)
 .skip))
 (.seq (.region [rq 0 5 (.bC 1 0 [VZ] []),
 RM 1 6 0,
 rq 2 7 (.append 1 (.tm 5) (.tm 6)),
 RM 3 2 7] 4 [2])
 .ret)))
def zK:List Cert:=[⟨[],[0]⟩,⟨[],[0,4]⟩,⟨[],[2]⟩,⟨[],[2]⟩]
def n7:List aW:=[.tm 2]
theorem AB:aO Try.prog Try.f52 zK=some (jL,n7):=by kernel_rfl
theorem zU:aN Try.prog gO Try.f52 jL n7:=
 aN.mk Try.func52 (by kernel_rfl) AB
def i6:AC:=
 (.seq (.region [rq 0 2 (.move (.kv (.slice none 0 0)))] 1 [0])
 (.seq (.region [RM 0 3 0,
 rq 1 4 (.call eG [(.tm 3)]),
 rq 2 5 (.call eS [(.tm 4)]),
 RM 3 2 5] 4 [2])
 .ret))
def yU:List Cert:=[⟨[],[0]⟩,⟨[],[2]⟩]
def nL:List aW:=[.tm 2]
theorem yR:aO Try.prog Try.f53 yU=some (i6,nL):=by kernel_rfl
theorem yQ:aN Try.prog gG Try.f53 i6 nL:=
 aN.mk Try.func53 (by kernel_rfl) yR
def aNN:AC:=
 (.seq (.region [rq 0 0 (.alloc [OZ])] 1 [0])
 (.seq (.region [rq 0 1 (.kY 1 [VZ] (ki 64) (ki 64)),
 rq 1 2 (.build [OZ] [(0,1,(.tm 1))]),
 rn 2 (.store 1 true (.tm 0) (.tm 2))] 3 [0])
 .ret))
def aRA:List Cert:=[⟨[],[0]⟩,⟨[],[0]⟩]
def aOJ:List aW:=[.cell 0 1 true]
theorem aQL:aO Try.prog Try.f59 aRA=some (aNN,aOJ):=by kernel_rfl
theorem aQI:aN Try.prog v8 Try.f59 aNN aOJ:=
 aN.mk Try.func59 (by kernel_rfl) aQL
def vH:AC:=
 (.seq (.region [rq 0 2 (.move (ki 0))] 1 [0])
 (.seq (.region [RM 0 3 0,
 rq 1 4 (.call aD [(.tm 3),(ki 4)]),
 RM 2 5 0,
 rq 3 6 (.call aD [(.tm 5),(ki 4)]),
 rq 4 7 (.bin .add (ki 16) (.tm 6)),
 RM 5 8 0,
 rq 6 9 (.call aD [(.tm 8),(ki 4)]),
 rq 7 10 (.bin .add (ki 32) (.tm 9)),
 RM 8 11 0,
 rq 9 12 (.call aD [(.tm 11),(ki 64)]),
 RM 10 13 0,
 rq 11 14 (.call aD [(.tm 13),(ki 5)]),
 rq 12 15 (.bin .add (ki 13) (.tm 14)),
 RM 13 16 0,
 rq 14 17 (.call aD [(.tm 16),(ki 4)]),
 rq 15 18 (.bin .add (ki 60) (.tm 17)),
 rq 16 19 (.bC 1 6 [VZ] [(0,1,(.tm 4)),(1,1,(.tm 7)),(2,1,(.tm 10)),(3,1,(.tm 12)),(4,1,(.tm 15)),(5,1,(.tm 18))]),
 rq 17 20 (.bC 1 8 [VZ] [(0,1,(ki 0)),(1,1,(ki 0)),(2,1,(ki 1)),(3,1,(ki 1)),(4,1,(ki 2)),(5,1,(ki 3)),(6,1,(ki 4)),(7,1,(ki 5))]),
 RM 18 21 0,
 rq 19 22 (.call aD [(.tm 21),(ki 8)]),
 rq 20 23 (.idx 1 (.tm 20) (.tm 22)),
 RL 21 24 23,
 rq 22 25 (.idx 1 (.tm 19) (.tm 24)),
 RL 23 26 25,
 RM 24 2 26] 25 [2])
 .ret))
def PD:List Cert:=[⟨[],[0]⟩,⟨[],[2]⟩]
def DR:List aW:=[.tm 2]
theorem O8:aO Try.prog Try.f60 PD=some (vH,DR):=by kernel_rfl
theorem N4:aN Try.prog qM Try.f60 vH DR:=
 aN.mk Try.func60 (by kernel_rfl) O8
def gI:AC:=
 (.seq (.region [rq 0 2 (.move (.kv (.slice none 0 0)))] 1 [0])
 (.seq (.region [RM 0 3 0,
 RM 1 4 0,
 rq 2 5 (.len false (.tm 4)),
 RM 3 6 0,
 rq 4 7 (.len false (.tm 6)),
 rq 5 8 (.slc 5 (.tm 3) none (some (.tm 5)) (some (.tm 7))),
 RM 6 2 8] 7 [2])
 .ret))
def t9:List Cert:=[⟨[],[0]⟩,⟨[],[2]⟩]
def kU:List aW:=[.tm 2]
theorem uF:aO Try.prog Try.f62 t9=some (gI,kU):=by kernel_rfl
theorem uU:aN Try.prog eS Try.f62 gI kU:=
 aN.mk Try.func62 (by kernel_rfl) uF
def gC:AC:=
 (.seq (.region [rq 0 2 (.move (.kv (.slice none 0 0)))] 1 [0])
 (.seq (.seq (.region [RM 0 3 0,
 rq 1 4 (.xop (.qJ false) [(.tm 3)])] 2 [0,4])
 (.cond (.tm 4)
 (.seq (.region [rq 0 2 (.move (.kv (.slice none 0 0)))] 1 [2])
 .ret)
 .skip))
 (.seq (.region [rq 0 5 (.bC 5 0 [VZ,VZ,VZ,VZ,OZ] []),
 RM 1 6 0,
 rq 2 7 (.append 5 (.tm 5) (.tm 6)),
 RM 3 2 7] 4 [2])
 .ret)))
def s8:List Cert:=[⟨[],[0]⟩,⟨[],[0,4]⟩,⟨[],[2]⟩,⟨[],[2]⟩]
def kL:List aW:=[.tm 2]
theorem sU:aO Try.prog Try.f63 s8=some (gC,kL):=by kernel_rfl
theorem s9:aN Try.prog eG Try.f63 gC kL:=
 aN.mk Try.func63 (by kernel_rfl) sU
def aOF:AC:=
 (.seq (.region [rq 0 5 (.box true (.tm 1)),
 rq 1 7 (.box true (.tm 3)),
 rq 2 8 (.alloc [OZ,OZ]),
 rq 3 9 (.alloc [VZ,VZ,OZ])] 4 [0,2,5,7,8,9])
 (.seq (.region [RF 0 14 2 7,
 RL 1 15 14,
 RF 2 16 3 7,
 RL 3 17 16,
 RF 4 18 4 7,
 RL 5 19 18,
 rq 6 20 (.call aAY [(.tm 15),(.tm 17),(.tm 19)]),
 RM 7 10 20] 8 [0,2,5,7,8,9,10])
 (.seq (.region [RM 0 21 0,
 RM 1 22 10,
 rq 2 23 (.call aA4 [(.tm 21),(.tm 22)]),
 RM 3 11 23] 4 [0,2,5,7,8,9,10,11])
 (.seq (.region [RF 0 24 0 7,
 RL 1 25 24,
 rq 2 26 (.build [VZ,VZ,OZ] [(0,1,(.tm 25)),(1,1,(ki 1))]),
 rq 3 12 (.alloc [VZ,VZ,OZ]),
 rn 4 (.store 3 true (.tm 12) (.tm 26))] 5 [0,2,5,7,8,9,10,11,12])
 (.seq (.seq (.region [RM 0 27 11,
 rq 1 28 (.bin .lss (.tm 27) (ki 0))] 2 [0,2,5,7,8,9,10,11,12,28])
 (.cond (.tm 28)
 (.seq (.region [RF 0 29 1 12,
 rn 1 (.store 1 false (.tm 29) (ki 4))] 2 [5,8,9,12])
 (.seq (.region [rq 0 30 (.load 2 true (.tm 5)),
 ⟨1,(some 31),.load 3 true (.tm 12),none,[],[],true⟩,
 ⟨2,none,.store 2 true (.tm 8) (.tm 30),none,[],[1],false⟩,
 rn 3 (.store 3 true (.tm 9) (.tm 31))] 4 [8,9])
 .ret))
 .skip))
 (.seq (.seq (.region [rq 0 32 (.load 7 true (.tm 7)),
 rq 1 33 (.call aAZ [(.tm 32)]),
 RM 2 34 33,
 GQ 3 35 (.move (.tm 0)) 34 true,
 GQ 4 36 (.move (.tm 11)) 34 true,
 GQ 5 37 (.idx 4 (.tm 35) (.tm 36)) 34 true,
 GQ 6 38 (.fld 3 (.tm 37)) 34 true,
 GQ 7 39 (.load 1 false (.tm 38)) 34 true,
 rq 8 40 (.pick (.tm 34) (.tm 39) (.kv (.bool false)))] 9 [2,5,7,8,9,10,12,40])
 (.cond (.tm 40)
 (.seq (.region [RF 0 41 1 12,
 rn 1 (.store 1 false (.tm 41) (ki 3))] 2 [5,8,9,12])
 (.seq (.region [rq 0 42 (.load 2 true (.tm 5)),
 ⟨1,(some 43),.load 3 true (.tm 12),none,[],[],true⟩,
 ⟨2,none,.store 2 true (.tm 8) (.tm 42),none,[],[1],false⟩,
 rn 3 (.store 3 true (.tm 9) (.tm 43))] 4 [8,9])
 .ret))
 .skip))
 (.seq (.region [RM 0 44 2,
 rq 1 45 (.bin .mul (.tm 44) (ki 2)),
 RF 2 46 0 7,
 RL 3 47 46,
 rq 4 48 (.bin .add (.tm 45) (.tm 47)),
 RM 5 13 48] 6 [5,7,8,9,10,12,13])
 (.seq (.seq (.region [RF 0 49 1 7,
 RL 1 50 49] 2 [5,7,8,9,10,12,13,50])
 (.block 0
 (.seq (.region [rq 0 64 (.bin .eql (.tm 50) (ki 1)),
 RM 1 63 64] 2 [5,7,8,9,10,12,13,50,63])
 (.cond (.tm 63)
 (.region [RF 0 65 0 5,
 rq 1 66 (.load 1 true (.tm 65)),
 RM 2 67 10,
 rq 3 68 (.call W3 [(.tm 66),(.tm 67)]),
 RF 4 69 2 12,
 rn 5 (.store 1 false (.tm 69) (.tm 68))] 6 [5,8,9,12])
 (.seq (.region [rq 0 71 (.bin .eql (.tm 50) (ki 3)),
 RM 1 70 71] 2 [5,7,8,9,10,12,13,50,70])
 (.cond (.tm 70)
 (.seq (.region [RF 0 72 0 5,
 rq 1 73 (.load 1 true (.tm 72)),
 RM 2 74 10,
 rq 3 75 (.call W3 [(.tm 73),(.tm 74)]),
 RF 4 76 2 12,
 rn 5 (.store 1 false (.tm 76) (.tm 75))] 6 [5,7,8,9,12,13])
 (.seq (.region [RF 0 77 1 12,
 rn 1 (.store 1 false (.tm 77) (ki 2))] 2 [5,7,8,9,12,13])
 (.region [RF 0 78 1 5,
 RL 1 79 78,
 RM 2 80 13,
 RF 3 81 2 7,
 RL 4 82 81,
 rq 5 83 (.idx 1 (.tm 79) (.tm 80)),
 rn 6 (.store 1 false (.tm 83) (.tm 82))] 7 [5,8,9,12])))
 (.seq (.region [rq 0 85 (.bin .eql (.tm 50) (ki 4)),
 RM 1 84 85] 2 [5,7,8,9,10,12,13,84])
 (.cond (.tm 84)
 (.seq (.seq (.region [RF 0 86 1 5,
 RL 1 87 86,
 RM 2 88 13,
 rq 3 89 (.idx 1 (.tm 87) (.tm 88)),
 RL 4 90 89,
 RF 5 91 2 7,
 RL 6 92 91,
 rq 7 93 (.bin .neq (.tm 90) (.tm 92))] 8 [5,7,8,9,10,12,93])
 (.cond (.tm 93)
 (.seq (.region [rq 0 94 (.load 2 true (.tm 5)),
 ⟨1,(some 95),.load 3 true (.tm 12),none,[],[],true⟩,
 ⟨2,none,.store 2 true (.tm 8) (.tm 94),none,[],[1],false⟩,
 rn 3 (.store 3 true (.tm 9) (.tm 95))] 4 [8,9])
 .ret)
 .skip))
 (.seq (.region [RF 0 96 1 12,
 rn 1 (.store 1 false (.tm 96) (ki 2))] 2 [5,7,8,9,10,12])
 (.seq (.region [RF 0 97 0 5,
 rq 1 98 (.load 1 true (.tm 97)),
 RM 2 99 10,
 RF 3 100 5 7,
 RL 4 101 100,
 RF 5 102 6 7,
 RL 6 103 102,
 rq 7 104 (.call H5 [(.tm 98),(.tm 99),(.tm 101),(.tm 103)]),
 RF 8 105 0 5,
 rn 9 (.store 1 true (.tm 105) (.tm 104))] 10 [5,8,9,10,12])
 (.region [rq 0 106 (.load 2 true (.tm 5)),
 RM 1 107 10,
 rq 2 108 (.call v9 [(.tm 106),(.tm 107)]),
 rn 3 (.store 2 true (.tm 5) (.tm 108))] 4 [5,8,9,12]))))
 (.seq (.region [RF 0 51 0 5,
 rq 1 52 (.load 1 true (.tm 51)),
 RM 2 53 10,
 RF 3 54 5 7,
 RL 4 55 54,
 RF 5 56 6 7,
 RL 6 57 56,
 rq 7 58 (.call H5 [(.tm 52),(.tm 53),(.tm 55),(.tm 57)]),
 RF 8 59 0 5,
 rn 9 (.store 1 true (.tm 59) (.tm 58))] 10 [5,8,9,10,12])
 (.region [rq 0 60 (.load 2 true (.tm 5)),
 RM 1 61 10,
 rq 2 62 (.call v9 [(.tm 60),(.tm 61)]),
 rn 3 (.store 2 true (.tm 5) (.tm 62))] 4 [5,8,9,12]))))))))))
 (.seq (.region [rq 0 109 (.load 2 true (.tm 5)),
 ⟨1,(some 110),.load 3 true (.tm 12),none,[],[],true⟩,
 ⟨2,none,.store 2 true (.tm 8) (.tm 109),none,[],[1],false⟩,
 rn 3 (.store 3 true (.tm 9) (.tm 110))] 4 [8,9])
 .ret)))))))))
def aSS:List Cert:=[⟨[],[0,2,5,7,8,9]⟩,⟨[],[0,2,5,7,8,9,10]⟩,⟨[],[0,2,5,7,8,9,10,11]⟩,⟨[],[0,2,5,7,8,9,10,11,12]⟩,⟨[],[0,2,5,7,8,9,10,11,12,28]⟩,⟨[],[5,8,9,12]⟩,⟨[cz 0,(1,[],[],true),(2,[],[1],false),cz 3],[8,9]⟩,⟨[],[2,5,7,8,9,10,12,40]⟩,⟨[],[5,8,9,12]⟩,⟨[cz 0,(1,[],[],true),(2,[],[1],false),cz 3],[8,9]⟩,⟨[],[5,7,8,9,10,12,13]⟩,⟨[],[5,7,8,9,10,12,13,50]⟩,⟨[],[5,7,8,9,10,12,13,50,63]⟩,⟨[],[5,8,9,12]⟩,⟨[],[5,7,8,9,10,12,13,50,70]⟩,⟨[],[5,7,8,9,12,13]⟩,⟨[],[5,7,8,9,12,13]⟩,⟨[],[5,8,9,12]⟩,⟨[],[5,7,8,9,10,12,13,84]⟩,⟨[cz 0,cz 1,cz 2,cz 3,cz 4,cz 5,cz 6,cz 7],[5,7,8,9,10,12,93]⟩,⟨[cz 0,(1,[],[],true),(2,[],[1],false),cz 3],[8,9]⟩,⟨[],[5,7,8,9,10,12]⟩,⟨[],[5,8,9,10,12]⟩,⟨[],[5,8,9,12]⟩,⟨[],[5,8,9,10,12]⟩,⟨[],[5,8,9,12]⟩,⟨[cz 0,(1,[],[],true),(2,[],[1],false),cz 3],[8,9]⟩]
def aPI:List aW:=[.cell 8 2 true,.cell 9 3 true]
theorem aS3:aO Try.prog Try.f68 aSS=some (aOF,aPI):=by kernel_rfl
theorem aSX:aN Try.prog aN2 Try.f68 aOF aPI:=
 aN.mk Try.func68 (by kernel_rfl) aS3
def aBA:AC:=
 (.seq (.region [rq 0 6 (.move (.kv (.slice none 0 0)))] 1 [0,1,2])
 (.seq (.region [rq 0 10 (.bC 1 0 [VZ] []),
 RM 1 7 10] 2 [0,1,2,7])
 (.seq (.seq (.region [RM 0 11 0,
 RM 1 12 1,
 RM 2 13 2,
 rq 3 14 (.call aA6 [(.tm 11),(.tm 12),(.tm 13)]),
 rq 4 15 (.un .not (.tm 14))] 5 [0,1,2,7,15])
 (.cond (.tm 15)
 (.seq (.region [RM 0 16 7,
 RM 1 6 16] 2 [6])
 .ret)
 .skip))
 (.seq (.region [RM 0 17 0,
 RM 1 18 0,
 RM 2 19 1,
 rq 3 20 (.bin .rem (.tm 18) (.tm 19)),
 rq 4 21 (.bin .sub (.tm 17) (.tm 20)),
 RM 5 8 21] 6 [0,1,2,7,8])
 (.seq (.seq (.region [rq 0 9 (.move (ki 0))] 1 [0,1,2,7,8,9])
 (.block 0
 (.loop
 (.seq (.seq (.region [RM 0 22 9,
 RM 1 23 1,
 rq 2 24 (.bin .lss (.tm 22) (.tm 23))] 3 [0,1,2,7,8,9,24])
 (.cond (.tm 24)
 .skip
 (.exit 0)))
 (.seq (.block 1
 (.seq (.region [RM 0 27 2] 1 [0,1,2,7,8,9,27])
 (.cond (.tm 27)
 (.region [RM 0 28 7,
 RM 1 29 8,
 RM 2 30 0,
 RM 3 31 8,
 rq 4 32 (.bin .sub (.tm 30) (.tm 31)),
 RM 5 33 9,
 rq 6 34 (.bin .add (.tm 32) (.tm 33)),
 RM 7 35 1,
 rq 8 36 (.bin .rem (.tm 34) (.tm 35)),
 rq 9 37 (.bin .add (.tm 29) (.tm 36)),
 rq 10 38 (.bC 1 1 [VZ] [(0,1,(.tm 37))]),
 rq 11 39 (.append 1 (.tm 28) (.tm 38)),
 RM 12 7 39] 13 [0,1,2,7,8,9])
 (.region [RM 0 40 7,
 RM 1 41 0,
 RM 2 42 9,
 rq 3 43 (.bin .add (.tm 41) (.tm 42)),
 rq 4 44 (.bC 1 1 [VZ] [(0,1,(.tm 43))]),
 rq 5 45 (.append 1 (.tm 40) (.tm 44)),
 RM 6 7 45] 7 [0,1,2,7,8,9]))))
 (.region [RM 0 25 9,
 rq 1 26 (.bin .add (.tm 25) (ki 1)),
 RM 2 9 26] 3 [0,1,2,7,8,9]))))))
 (.seq (.region [RM 0 46 7,
 RM 1 6 46] 2 [6])
 .ret))))))
def aCV:List Cert:=[⟨[],[0,1,2]⟩,⟨[],[0,1,2,7]⟩,⟨[],[0,1,2,7,15]⟩,⟨[],[6]⟩,⟨[],[0,1,2,7,8]⟩,⟨[],[0,1,2,7,8,9]⟩,⟨[],[0,1,2,7,8,9,24]⟩,⟨[],[0,1,2,7,8,9,27]⟩,⟨[],[0,1,2,7,8,9]⟩,⟨[],[0,1,2,7,8,9]⟩,⟨[],[0,1,2,7,8,9]⟩,⟨[],[6]⟩]
def aBS:List aW:=[.tm 6]
theorem aCP:aO Try.prog Try.f71 aCV=some (aBA,aBS):=by kernel_rfl
theorem aCR:aN Try.prog aAY Try.f71 aBA aBS:=
 aN.mk Try.func71 (by kernel_rfl) aCP
def aBD:AC:=
 (.seq (.region [rq 0 4 (.move (ki 0))] 1 [0,1])
 (.seq (.seq (.region [RM 0 7 1,
 rq 1 8 (.len false (.tm 7)),
 rq 2 9 (.bin .eql (.tm 8) (ki 0))] 3 [0,1,9])
 (.cond (.tm 9)
 (.seq (.region [rq 0 4 (.move (.kv (.int .i64 (-1))))] 1 [4])
 .ret)
 .skip))
 (.seq (.region [RM 0 10 0,
 RM 1 11 1,
 rq 2 12 (.idx 1 (.tm 11) (ki 0)),
 RL 3 13 12,
 rq 4 14 (.call aAX [(.tm 10),(.tm 13)]),
 RM 5 5 14] 6 [0,1,5])
 (.seq (.seq (.region [rq 0 6 (.move (ki 1))] 1 [0,1,5,6])
 (.block 0
 (.loop
 (.seq (.seq (.region [RM 0 15 6,
 RM 1 16 1,
 rq 2 17 (.len false (.tm 16)),
 rq 3 18 (.bin .lss (.tm 15) (.tm 17))] 4 [0,1,5,6,18])
 (.cond (.tm 18)
 .skip
 (.exit 0)))
 (.seq (.block 1
 (.seq (.region [RM 0 21 0,
 RM 1 22 1,
 RM 2 23 6,
 rq 3 24 (.idx 1 (.tm 22) (.tm 23)),
 RL 4 25 24,
 rq 5 26 (.call aAX [(.tm 21),(.tm 25)]),
 RM 6 27 5,
 rq 7 28 (.bin .neq (.tm 26) (.tm 27))] 8 [0,1,5,6,28])
 (.cond (.tm 28)
 (.seq (.region [rq 0 4 (.move (.kv (.int .i64 (-1))))] 1 [4])
 .ret)
 .skip)))
 (.region [RM 0 19 6,
 rq 1 20 (.bin .add (.tm 19) (ki 1)),
 RM 2 6 20] 3 [0,1,5,6]))))))
 (.seq (.region [RM 0 29 5,
 RM 1 4 29] 2 [4])
 .ret)))))
def aC7:List Cert:=[⟨[],[0,1]⟩,⟨[],[0,1,9]⟩,⟨[],[4]⟩,⟨[],[0,1,5]⟩,⟨[],[0,1,5,6]⟩,⟨[],[0,1,5,6,18]⟩,⟨[],[0,1,5,6,28]⟩,⟨[],[4]⟩,⟨[],[0,1,5,6]⟩,⟨[],[4]⟩]
def aBX:List aW:=[.tm 4]
theorem aDB:aO Try.prog Try.f72 aC7=some (aBD,aBX):=by kernel_rfl
theorem aDA:aN Try.prog aA4 Try.f72 aBD aBX:=
 aN.mk Try.func72 (by kernel_rfl) aDB
def aBB:AC:=
 (.seq (.region [rq 0 1 (.box true (.tm 0)),
 rq 1 2 (.move (.kv (.bool false)))] 2 [1])
 (.seq (.region [RF 0 3 1 1,
 RL 1 4 3,
 rq 2 5 (.bin .eql (.tm 4) (ki 2)),
 RM 3 6 5,
 GQ 4 7 (.fld 1 (.tm 1)) 6 false,
 GQ 5 8 (.load 1 false (.tm 7)) 6 false,
 GQ 6 9 (.bin .eql (.tm 8) (ki 4)) 6 false,
 rq 7 10 (.pick (.tm 6) (.kv (.bool true)) (.tm 9)),
 RM 8 2 10] 9 [2])
 .ret))
def aCW:List Cert:=[⟨[],[1]⟩,⟨[],[2]⟩]
def aBR:List aW:=[.tm 2]
theorem aCS:aO Try.prog Try.f73 aCW=some (aBB,aBR):=by kernel_rfl
theorem aCU:aN Try.prog aAZ Try.f73 aBB aBR:=
 aN.mk Try.func73 (by kernel_rfl) aCS
def aN4:AC:=
 (.seq (.region [rq 0 2 (.box true (.tm 0)),
 rq 1 4 (.move (.kv (.slice none 0 0)))] 2 [1,2])
 (.seq (.region [rq 0 7 (.bC 1 0 [VZ] []),
 RM 1 5 7] 2 [1,2,5])
 (.seq (.seq (.region [rq 0 6 (.move (ki 0))] 1 [1,2,5,6])
 (.block 0
 (.loop
 (.seq (.seq (.region [RM 0 8 6,
 RM 1 9 1,
 rq 2 10 (.len false (.tm 9)),
 rq 3 11 (.bin .lss (.tm 8) (.tm 10))] 4 [1,2,5,6,11])
 (.cond (.tm 11)
 .skip
 (.exit 0)))
 (.seq (.block 1
 (.region [RM 0 14 5,
 RF 1 15 0 2,
 RL 2 16 15,
 RM 3 17 1,
 RM 4 18 6,
 rq 5 19 (.idx 1 (.tm 17) (.tm 18)),
 RL 6 20 19,
 rq 7 21 (.idx 1 (.tm 16) (.tm 20)),
 RL 8 22 21,
 rq 9 23 (.bC 1 1 [VZ] [(0,1,(.tm 22))]),
 rq 10 24 (.append 1 (.tm 14) (.tm 23)),
 RM 11 5 24] 12 [1,2,5,6]))
 (.region [RM 0 12 6,
 rq 1 13 (.bin .add (.tm 12) (ki 1)),
 RM 2 6 13] 3 [1,2,5,6]))))))
 (.seq (.region [RM 0 25 5,
 RM 1 4 25] 2 [4])
 .ret))))
def aSD:List Cert:=[⟨[],[1,2]⟩,⟨[],[1,2,5]⟩,⟨[],[1,2,5,6]⟩,⟨[],[1,2,5,6,11]⟩,⟨[cz 0,cz 1,cz 2,cz 3,cz 4,cz 5,cz 6,cz 7,cz 8,cz 9,cz 10,cz 11],[1,2,5,6]⟩,⟨[],[1,2,5,6]⟩,⟨[],[4]⟩]
def aO3:List aW:=[.tm 4]
theorem aR6:aO Try.prog Try.f74 aSD=some (aN4,aO3):=by kernel_rfl
theorem aR8:aN Try.prog W3 Try.f74 aN4 aO3:=
 aN.mk Try.func74 (by kernel_rfl) aR6
end Go.Proofs.Ytmccpdapaccnoaa
end
section
namespace Go.Proofs.Ytmccpdapaccnoaa
open Go Go.AM
set_option maxRecDepth 100000
def aN6:AC:=
 (.seq (.region [rq 0 4 (.box true (.tm 0)),
 rq 1 8 (.alloc [OZ])] 2 [1,2,3,4,8])
 (.seq (.seq (.region [rq 0 9 (.move (ki 0))] 1 [1,2,3,4,8,9])
 (.block 0
 (.loop
 (.seq (.seq (.region [RM 0 10 9,
 RM 1 11 1,
 rq 2 12 (.len false (.tm 11)),
 rq 3 13 (.bin .lss (.tm 10) (.tm 12))] 4 [1,2,3,4,8,9,13])
 (.cond (.tm 13)
 .skip
 (.exit 0)))
 (.seq (.block 1
 (.region [RF 0 16 0 4,
 ⟨1,(some 17),.load 1 false (.tm 16),none,[],[],true⟩,
 RM 2 18 1,
 RM 3 19 9,
 rq 4 20 (.idx 1 (.tm 18) (.tm 19)),
 ⟨5,(some 21),.load 1 false (.tm 20),none,[],[],true⟩,
 RF 6 22 0 4,
 RL 7 23 22,
 RM 8 24 1,
 RM 9 25 9,
 rq 10 26 (.idx 1 (.tm 24) (.tm 25)),
 RL 11 27 26,
 rq 12 28 (.idx 1 (.tm 23) (.tm 27)),
 RL 13 29 28,
 RM 14 30 2,
 RM 15 31 9,
 rq 16 32 (.idx 1 (.tm 30) (.tm 31)),
 RL 17 33 32,
 RM 18 34 3,
 RM 19 35 9,
 rq 20 36 (.idx 1 (.tm 34) (.tm 35)),
 RL 21 37 36,
 ⟨22,(some 38),.call aNH [(.tm 29),(.tm 33),(.tm 37)],none,[],[1,5],false⟩,
 rq 23 39 (.idx 1 (.tm 17) (.tm 21)),
 rn 24 (.store 1 false (.tm 39) (.tm 38))] 25 [1,2,3,4,8,9]))
 (.region [RM 0 14 9,
 rq 1 15 (.bin .add (.tm 14) (ki 1)),
 RM 2 9 15] 3 [1,2,3,4,8,9]))))))
 (.seq (.region [rq 0 40 (.load 1 true (.tm 4)),
 rn 1 (.store 1 true (.tm 8) (.tm 40))] 2 [8])
 .ret)))
def aR7:List Cert:=[⟨[],[1,2,3,4,8]⟩,⟨[],[1,2,3,4,8,9]⟩,⟨[],[1,2,3,4,8,9,13]⟩,⟨[cz 0,(1,[],[],true),cz 2,cz 3,cz 4,(5,[],[],true),cz 6,cz 7,cz 8,cz 9,cz 10,cz 11,cz 12,cz 13,cz 14,cz 15,cz 16,cz 17,cz 18,cz 19,cz 20,cz 21,(22,[],[1,5],false),cz 23,cz 24],[1,2,3,4,8,9]⟩,⟨[],[1,2,3,4,8,9]⟩,⟨[],[8]⟩]
def aO6:List aW:=[.cell 8 1 true]
theorem aSE:aO Try.prog Try.f75 aR7=some (aN6,aO6):=by kernel_rfl
theorem aRX:aN Try.prog H5 Try.f75 aN6 aO6:=
 aN.mk Try.func75 (by kernel_rfl) aSE
def aNU:AC:=
 (.seq (.region [rq 0 2 (.box true (.tm 0)),
 rq 1 4 (.alloc [OZ,OZ])] 2 [1,2,4])
 (.seq (.seq (.region [rq 0 5 (.move (ki 0))] 1 [1,2,4,5])
 (.block 0
 (.loop
 (.seq (.seq (.region [RM 0 7 5,
 RF 1 8 1 2,
 RL 2 9 8,
 rq 3 10 (.len false (.tm 9)),
 rq 4 11 (.bin .lss (.tm 7) (.tm 10))] 5 [1,2,4,5,11])
 (.cond (.tm 11)
 .skip
 (.exit 0)))
 (.seq (.block 1
 (.seq (.region [rq 0 6 (.move (ki 0))] 1 [1,2,4,5,6])
 (.block 2
 (.loop
 (.seq (.seq (.region [RM 0 14 6,
 RM 1 15 1,
 rq 2 16 (.len false (.tm 15)),
 rq 3 17 (.bin .lss (.tm 14) (.tm 16))] 4 [1,2,4,5,6,17])
 (.cond (.tm 17)
 .skip
 (.exit 2)))
 (.seq (.block 3
 (.seq (.region [RF 0 20 1 2,
 RL 1 21 20,
 RM 2 22 5,
 rq 3 23 (.idx 1 (.tm 21) (.tm 22)),
 RL 4 24 23,
 RM 5 25 1,
 RM 6 26 6,
 rq 7 27 (.idx 1 (.tm 25) (.tm 26)),
 RL 8 28 27,
 rq 9 29 (.bin .eql (.tm 24) (.tm 28))] 10 [1,2,4,5,6,29])
 (.cond (.tm 29)
 (.region [RF 0 30 1 2,
 RL 1 31 30,
 RM 2 32 5,
 rq 3 33 (.idx 1 (.tm 31) (.tm 32)),
 rn 4 (.store 1 false (.tm 33) (.kv (.int .i64 (-1))))] 5 [1,2,4,5,6])
 .skip)))
 (.region [RM 0 18 6,
 rq 1 19 (.bin .add (.tm 18) (ki 1)),
 RM 2 6 19] 3 [1,2,4,5,6])))))))
 (.region [RM 0 12 5,
 rq 1 13 (.bin .add (.tm 12) (ki 1)),
 RM 2 5 13] 3 [1,2,4,5]))))))
 (.seq (.region [rq 0 34 (.load 2 true (.tm 2)),
 rn 1 (.store 2 true (.tm 4) (.tm 34))] 2 [4])
 .ret)))
def aRJ:List Cert:=[⟨[],[1,2,4]⟩,⟨[],[1,2,4,5]⟩,⟨[],[1,2,4,5,11]⟩,⟨[],[1,2,4,5,6]⟩,⟨[],[1,2,4,5,6,17]⟩,⟨[cz 0,cz 1,cz 2,cz 3,cz 4,cz 5,cz 6,cz 7,cz 8,cz 9],[1,2,4,5,6,29]⟩,⟨[],[1,2,4,5,6]⟩,⟨[],[1,2,4,5,6]⟩,⟨[],[1,2,4,5]⟩,⟨[],[4]⟩]
def aOK:List aW:=[.cell 4 2 true]
theorem aRS:aO Try.prog Try.f76 aRJ=some (aNU,aOK):=by kernel_rfl
theorem aRM:aN Try.prog v9 Try.f76 aNU aOK:=
 aN.mk Try.func76 (by kernel_rfl) aRS
def aBN:AC:=
 (.seq (.region [rq 0 6 (.move (.kv (.bool false)))] 1 [0,1,2])
 (.seq (.seq (.region [RM 0 7 0,
 rq 1 8 (.call y2 [(.tm 7),(ki 0),(ki 63)]),
 rq 2 9 (.un .not (.tm 8)),
 RM 3 10 9,
 GQ 4 11 (.move (.tm 1)) 10 false,
 GQ 5 12 (.bin .neq (.tm 11) (ki 1)) 10 false,
 GQ 6 13 (.move (.tm 12)) 10 false,
 GQ 7 14 (.move (.tm 1)) 13 true,
 GQ 8 15 (.bin .neq (.tm 14) (ki 2)) 13 true,
 GQ 9 16 (.pick (.tm 13) (.tm 15) (.kv (.bool false))) 10 false,
 GQ 10 17 (.move (.tm 16)) 10 false,
 GQ 11 18 (.move (.tm 1)) 17 true,
 GQ 12 19 (.bin .neq (.tm 18) (ki 4)) 17 true,
 GQ 13 20 (.pick (.tm 17) (.tm 19) (.kv (.bool false))) 10 false,
 rq 14 21 (.pick (.tm 10) (.kv (.bool true)) (.tm 20))] 15 [0,1,2,21])
 (.cond (.tm 21)
 (.seq (.region [rq 0 6 (.move (.kv (.bool false)))] 1 [6])
 .ret)
 .skip))
 (.seq (.region [RM 0 22 2,
 RM 1 23 22,
 GQ 2 24 (.move (.tm 0)) 23 false,
 GQ 3 25 (.move (.tm 1)) 23 false,
 GQ 4 26 (.bin .add (.tm 24) (.tm 25)) 23 false,
 GQ 5 27 (.bin .sub (.tm 26) (ki 1)) 23 false,
 GQ 6 28 (.bin .leq (.tm 27) (ki 63)) 23 false,
 rq 7 29 (.pick (.tm 23) (.kv (.bool true)) (.tm 28)),
 RM 8 6 29] 9 [6])
 .ret)))
def aDT:List Cert:=[⟨[],[0,1,2]⟩,⟨[],[0,1,2,21]⟩,⟨[],[6]⟩,⟨[],[6]⟩]
def aB2:List aW:=[.tm 6]
theorem aDS:aO Try.prog Try.f78 aDT=some (aBN,aB2):=by kernel_rfl
theorem aDX:aN Try.prog aA6 Try.f78 aBN aB2:=
 aN.mk Try.func78 (by kernel_rfl) aDS
def aBH:AC:=
 (.seq (.region [rq 0 4 (.move (ki 0))] 1 [0,1])
 (.seq (.seq (.region [rq 0 5 (.move (ki 0))] 1 [0,1,5])
 (.block 0
 (.loop
 (.seq (.seq (.region [RM 0 6 5,
 RM 1 7 0,
 rq 2 8 (.len false (.tm 7)),
 rq 3 9 (.bin .lss (.tm 6) (.tm 8))] 4 [0,1,5,9])
 (.cond (.tm 9)
 .skip
 (.exit 0)))
 (.seq (.block 1
 (.seq (.region [RM 0 12 1,
 RM 1 13 0,
 RM 2 14 5,
 rq 3 15 (.idx 4 (.tm 13) (.tm 14)),
 RF 4 16 0 15,
 RL 5 17 16,
 RM 6 18 0,
 RM 7 19 5,
 rq 8 20 (.idx 4 (.tm 18) (.tm 19)),
 RF 9 21 1 20,
 RL 10 22 21,
 rq 11 23 (.call y2 [(.tm 12),(.tm 17),(.tm 22)])] 12 [0,1,5,23])
 (.cond (.tm 23)
 (.seq (.region [RM 0 24 5,
 RM 1 4 24] 2 [4])
 .ret)
 .skip)))
 (.region [RM 0 10 5,
 rq 1 11 (.bin .add (.tm 10) (ki 1)),
 RM 2 5 11] 3 [0,1,5]))))))
 (.seq (.region [rq 0 4 (.move (.kv (.int .i64 (-1))))] 1 [4])
 .ret)))
def aDL:List Cert:=[⟨[],[0,1]⟩,⟨[],[0,1,5]⟩,⟨[],[0,1,5,9]⟩,⟨[cz 0,cz 1,cz 2,cz 3,cz 4,cz 5,cz 6,cz 7,cz 8,cz 9,cz 10,cz 11],[0,1,5,23]⟩,⟨[],[4]⟩,⟨[],[0,1,5]⟩,⟨[],[4]⟩]
def aBZ:List aW:=[.tm 4]
theorem aDF:aO Try.prog Try.f79 aDL=some (aBH,aBZ):=by kernel_rfl
theorem aDK:aN Try.prog aAX Try.f79 aBH aBZ:=
 aN.mk Try.func79 (by kernel_rfl) aDF
def aNS:AC:=
 (.seq (.region [rq 0 6 (.move (ki 0))] 1 [0,1,2])
 (.seq (.seq (.region [RM 0 9 0,
 rq 1 10 (.call y2 [(.tm 9),(ki 0),(ki 65535)]),
 rq 2 11 (.un .not (.tm 10)),
 RM 3 12 11,
 GQ 4 13 (.move (.tm 1)) 12 false,
 GQ 5 14 (.call y2 [(.tm 13),(ki 0),(ki 65535)]) 12 false,
 GQ 6 15 (.un .not (.tm 14)) 12 false,
 rq 7 16 (.pick (.tm 12) (.kv (.bool true)) (.tm 15)),
 RM 8 17 16,
 GQ 9 18 (.move (.tm 2)) 17 false,
 GQ 10 19 (.call y2 [(.tm 18),(ki 0),(ki 3)]) 17 false,
 GQ 11 20 (.un .not (.tm 19)) 17 false,
 rq 12 21 (.pick (.tm 17) (.kv (.bool true)) (.tm 20))] 13 [0,1,2,21])
 (.cond (.tm 21)
 (.seq (.region [rq 0 6 (.move (.kv (.int .i64 (-1))))] 1 [6])
 .ret)
 .skip))
 (.seq (.region [RM 0 22 0,
 rq 1 23 (.bin .rem (.tm 22) (ki 256)),
 RM 2 7 23] 3 [0,1,2,7])
 (.seq (.region [RM 0 24 0,
 rq 1 25 (.bin .quo (.tm 24) (ki 256)),
 RM 2 8 25] 3 [1,2,7,8])
 (.seq (.seq (.region [RM 0 26 2,
 rq 1 27 (.bin .rem (.tm 26) (ki 2)),
 rq 2 28 (.bin .eql (.tm 27) (ki 1))] 3 [1,2,7,8,28])
 (.cond (.tm 28)
 (.region [RM 0 29 1,
 rq 1 30 (.bin .rem (.tm 29) (ki 256)),
 RM 2 7 30] 3 [1,2,7,8])
 .skip))
 (.seq (.seq (.region [RM 0 31 2,
 rq 1 32 (.bin .quo (.tm 31) (ki 2)),
 rq 2 33 (.bin .eql (.tm 32) (ki 1))] 3 [1,7,8,33])
 (.cond (.tm 33)
 (.region [RM 0 34 1,
 rq 1 35 (.bin .quo (.tm 34) (ki 256)),
 RM 2 8 35] 3 [7,8])
 .skip))
 (.seq (.region [RM 0 36 8,
 rq 1 37 (.bin .mul (.tm 36) (ki 256)),
 RM 2 38 7,
 rq 3 39 (.bin .add (.tm 37) (.tm 38)),
 RM 4 6 39] 5 [6])
 .ret)))))))
def aRP:List Cert:=[⟨[],[0,1,2]⟩,⟨[],[0,1,2,21]⟩,⟨[],[6]⟩,⟨[],[0,1,2,7]⟩,⟨[],[1,2,7,8]⟩,⟨[],[1,2,7,8,28]⟩,⟨[],[1,2,7,8]⟩,⟨[],[1,7,8,33]⟩,⟨[],[7,8]⟩,⟨[],[6]⟩]
def aOV:List aW:=[.tm 6]
theorem aQX:aO Try.prog Try.f80 aRP=some (aNS,aOV):=by kernel_rfl
theorem aQM:aN Try.prog aNH Try.f80 aNS aOV:=
 aN.mk Try.func80 (by kernel_rfl) aQX
def aBW:AC:=
 (.seq (.region [rq 0 6 (.move (.kv (.bool false)))] 1 [0,1,2])
 (.seq (.region [RM 0 7 0,
 RM 1 8 1,
 rq 2 9 (.bin .geq (.tm 7) (.tm 8)),
 RM 3 10 9,
 GQ 4 11 (.move (.tm 0)) 10 true,
 GQ 5 12 (.move (.tm 2)) 10 true,
 GQ 6 13 (.bin .leq (.tm 11) (.tm 12)) 10 true,
 rq 7 14 (.pick (.tm 10) (.tm 13) (.kv (.bool false))),
 RM 8 6 14] 9 [6])
 .ret))
def aD4:List Cert:=[⟨[],[0,1,2]⟩,⟨[],[6]⟩]
def aCD:List aW:=[.tm 6]
theorem aD3:aO Try.prog Try.f83 aD4=some (aBW,aCD):=by kernel_rfl
theorem aD6:aN Try.prog y2 Try.f83 aBW aCD:=
 aN.mk Try.func83 (by kernel_rfl) aD3
end Go.Proofs.Ytmccpdapaccnoaa
end
