/- Texts laid together by a program: rules, contracts and the walk that leads to the law. -/
import Derived.Test.YtegiblhkjfiooaaGreatPa3
import Derived.Test.YtegiblhkjfiooaaGreatPa9
import Derived.Test.YtegiblhkjfiooaaGreatPa10
import Derived.Test.YtegiblhkjfiooaaGreatPa6
set_option linter.unusedVariables false
set_option linter.unusedSimpArgs false
set_option linter.unusedSectionVars false
section
namespace Go.Proofs.YtegiblhkjfiooaaGreat
open Go Go.AM
set_option maxRecDepth 100000
def u3:AC:=
 (.seq (.region [rq 0 2 (.box true (.tm 0)),
 rq 1 3 (.move (.kv (.bool false)))] 2 [1,2])
 (.seq (.region [RF 0 4 0 2,
 RL 1 5 4,
 RF 2 6 1 1,
 RL 3 7 6,
 rq 4 8 (.bin .leq (.tm 5) (.tm 7)),
 RM 5 9 8,
 GQ 6 10 (.fld 0 (.tm 1)) 9 true,
 GQ 7 11 (.load 1 false (.tm 10)) 9 true,
 GQ 8 12 (.fld 1 (.tm 2)) 9 true,
 GQ 9 13 (.load 1 false (.tm 12)) 9 true,
 GQ 10 14 (.bin .leq (.tm 11) (.tm 13)) 9 true,
 rq 11 15 (.pick (.tm 9) (.tm 14) (.kv (.bool false))),
 RM 12 3 15] 13 [3])
 .ret))
def O9:List Cert:=[⟨[],[1,2]⟩,⟨[],[3]⟩]
def DO:List aW:=[.tm 3]
theorem OP:aO Tryz.prog Tryz.f180 O9=some (u3,DO):=by kernel_rfl
theorem N2:aN Tryz.prog rE Tryz.f180 u3 DO:=
 aN.mk Tryz.func180 (by kernel_rfl) OP
def gX:AC:=
 (.seq (.region [rq 0 4 (.move (ki 0))] 1 [0,1])
 (.seq (.seq (.region [RM 0 6 0,
 rq 1 7 (.len false (.tm 6)),
 rq 2 8 (.move (ki 0))] 3 [0,1,7,8])
 (.block 0
 (.loop
 (.seq (.region [rq 0 9 (.bin .lss (.tm 8) (.tm 7))] 1 [0,1,7,8,9])
 (.seq (.cond (.tm 9)
 .skip
 (.exit 0))
 (.seq (.block 1
 (.seq (.region [RM 0 10 8,
 RM 1 5 10] 2 [0,1,5,7,8])
 (.seq (.region [RM 0 11 1,
 RM 1 12 0,
 RM 2 13 5,
 rq 3 14 (.idx 1 (.tm 12) (.tm 13)),
 RL 4 15 14,
 rq 5 16 (.t5 (.tm 11) [(.tm 15)])] 6 [0,1,5,7,8,16])
 (.cond (.tm 16)
 (.seq (.region [RM 0 17 5,
 RM 1 4 17] 2 [4])
 .ret)
 .skip))))
 (.region [rq 0 18 (.bin .add (.tm 8) (ki 1)),
 RM 1 8 18] 2 [0,1,7,8])))))))
 (.seq (.region [rq 0 4 (.move (.kv (.int .i64 (-1))))] 1 [4])
 .ret)))
def vB:List Cert:=[⟨[],[0,1]⟩,⟨[],[0,1,7,8]⟩,⟨[],[0,1,7,8,9]⟩,⟨[],[0,1,5,7,8]⟩,⟨[],[0,1,5,7,8,16]⟩,⟨[],[4]⟩,⟨[],[0,1,7,8]⟩,⟨[],[4]⟩]
def lE:List aW:=[.tm 4]
theorem vL:aO Tryz.prog Tryz.f181 vB=some (gX,lE):=by kernel_rfl
theorem uY:aN Tryz.prog fF Tryz.f181 gX lE:=
 aN.mk Tryz.func181 (by kernel_rfl) vL
def eD:AC:=
 (.seq (.region [rq 0 4 (.move (ki 0))] 1 [0,1])
 (.seq (.seq (.region [RM 0 6 0,
 rq 1 7 (.len false (.tm 6)),
 rq 2 8 (.move (ki 0))] 3 [0,1,7,8])
 (.block 0
 (.loop
 (.seq (.region [rq 0 9 (.bin .lss (.tm 8) (.tm 7))] 1 [0,1,7,8,9])
 (.seq (.cond (.tm 9)
 .skip
 (.exit 0))
 (.seq (.block 1
 (.seq (.region [RM 0 10 8,
 RM 1 5 10] 2 [0,1,5,7,8])
 (.seq (.region [RM 0 11 1,
 RM 1 12 0,
 RM 2 13 5,
 rq 3 14 (.idx 1 (.tm 12) (.tm 13)),
 RL 4 15 14,
 rq 5 16 (.t5 (.tm 11) [(.tm 15)])] 6 [0,1,5,7,8,16])
 (.cond (.tm 16)
 (.seq (.region [RM 0 17 5,
 RM 1 4 17] 2 [4])
 .ret)
 .skip))))
 (.region [rq 0 18 (.bin .add (.tm 8) (ki 1)),
 RM 1 8 18] 2 [0,1,7,8])))))))
 (.seq (.region [rq 0 4 (.move (.kv (.int .i64 (-1))))] 1 [4])
 .ret)))
def nV:List Cert:=[⟨[],[0,1]⟩,⟨[],[0,1,7,8]⟩,⟨[],[0,1,7,8,9]⟩,⟨[],[0,1,5,7,8]⟩,⟨[],[0,1,5,7,8,16]⟩,⟨[],[4]⟩,⟨[],[0,1,7,8]⟩,⟨[],[4]⟩]
def hT:List aW:=[.tm 4]
theorem nQ:aO Tryz.prog Tryz.f182 nV=some (eD,hT):=by kernel_rfl
theorem nU:aN Tryz.prog cT Tryz.f182 eD hT:=
 aN.mk Tryz.func182 (by kernel_rfl) nQ
def sO:AC:=
 (.seq (.region [rq 0 2 (.move (.kv (.bool false)))] 1 [0])
 (.seq (.region [RM 0 3 0,
 rq 1 4 (.call bN [(.tm 3),(.fn lX)]),
 rq 2 5 (.un .not (.tm 4)),
 RM 3 2 5] 4 [2])
 .ret))
def MO:List Cert:=[⟨[],[0]⟩,⟨[],[2]⟩]
def BP:List aW:=[.tm 2]
theorem L9:aO Tryz.prog Tryz.f183 MO=some (sO,BP):=by kernel_rfl
theorem NB:aN Tryz.prog jB Tryz.f183 sO BP:=
 aN.mk Tryz.func183 (by kernel_rfl) L9
def vC:AC:=
 (.seq (.region [rq 0 2 (.move (.kv (.bool false)))] 1 [0])
 (.seq (.region [RM 0 3 0,
 rq 1 4 (.call cQ [(.tm 3),(ki 0),(ki 3)]),
 rq 2 5 (.un .not (.tm 4)),
 RM 3 2 5] 4 [2])
 .ret))
def O1:List Cert:=[⟨[],[0]⟩,⟨[],[2]⟩]
def D3:List aW:=[.tm 2]
theorem N5:aO Tryz.prog Tryz.f184 O1=some (vC,D3):=by kernel_rfl
theorem ON:aN Tryz.prog rT Tryz.f184 vC D3:=
 aN.mk Tryz.func184 (by kernel_rfl) N5
def kB:AC:=
 (.seq (.region [rq 0 2 (.move (.kv (.slice none 0 0)))] 1 [0])
 (.seq (.region [RM 0 3 0,
 RM 1 4 0,
 rq 2 5 (.len false (.tm 4)),
 RM 3 6 0,
 rq 4 7 (.len false (.tm 6)),
 rq 5 8 (.slc 1 (.tm 3) none (some (.tm 5)) (some (.tm 7))),
 RM 6 2 8] 7 [2])
 .ret))
def A7:List Cert:=[⟨[],[0]⟩,⟨[],[2]⟩]
def pX:List aW:=[.tm 2]
theorem A6:aO Tryz.prog Tryz.f187 A7=some (kB,pX):=by kernel_rfl
theorem BK:aN Tryz.prog iD Tryz.f187 kB pX:=
 aN.mk Tryz.func187 (by kernel_rfl) A6
def jL:AC:=
 (.seq (.region [rq 0 2 (.move (.kv (.slice none 0 0)))] 1 [0])
 (.seq (.seq (.region [RM 0 3 0,
 rq 1 4 (.xop (.qJ false) [(.tm 3)])] 2 [0,4])
 (.cond (.tm 4)
 (.seq (.region [rq 0 2 (.move (.kv (.slice none 0 0)))] 1 [2])
 .ret)
 .skip))
 (.seq (.region [rq 0 5 (.bC 1 0 [VZ] []),
 RM 1 6 0,
 rq 2 7 (.append 1 (.tm 5) (.tm 6)),
 RM 3 2 7] 4 [2])
 .ret)))
def zK:List Cert:=[⟨[],[0]⟩,⟨[],[0,4]⟩,⟨[],[2]⟩,⟨[],[2]⟩]
def n7:List aW:=[.tm 2]
theorem AB:aO Tryz.prog Tryz.f188 zK=some (jL,n7):=by kernel_rfl
theorem zU:aN Tryz.prog gO Tryz.f188 jL n7:=
 aN.mk Tryz.func188 (by kernel_rfl) AB
def iN:AC:=
 (.seq (.region [rq 0 4 (.move (.kv (.int .u64 0))),
 rq 1 5 (.move (.kv (.int .u64 0)))] 2 [0,1])
 (.seq (.region [RM 0 14 0,
 rq 1 15 (.bin .and (.tm 14) (.kv (.int .u64 4294967295))),
 RM 2 6 15] 3 [0,1,6])
 (.seq (.region [RM 0 16 0,
 rq 1 17 (.bin .shr (.tm 16) (.kv (.int .u64 32))),
 RM 2 7 17] 3 [0,1,6,7])
 (.seq (.region [RM 0 18 1,
 rq 1 19 (.bin .and (.tm 18) (.kv (.int .u64 4294967295))),
 RM 2 8 19] 3 [0,1,6,7,8])
 (.seq (.region [RM 0 20 1,
 rq 1 21 (.bin .shr (.tm 20) (.kv (.int .u64 32))),
 RM 2 9 21] 3 [0,1,6,7,8,9])
 (.seq (.region [RM 0 22 6,
 RM 1 23 8,
 rq 2 24 (.bin .mul (.tm 22) (.tm 23)),
 RM 3 10 24] 4 [0,1,6,7,8,9,10])
 (.seq (.region [RM 0 25 7,
 RM 1 26 8,
 rq 2 27 (.bin .mul (.tm 25) (.tm 26)),
 RM 3 28 10,
 rq 4 29 (.bin .shr (.tm 28) (.kv (.int .u64 32))),
 rq 5 30 (.bin .add (.tm 27) (.tm 29)),
 RM 6 11 30] 7 [0,1,6,7,9,11])
 (.seq (.region [RM 0 31 11,
 rq 1 32 (.bin .and (.tm 31) (.kv (.int .u64 4294967295))),
 RM 2 12 32] 3 [0,1,6,7,9,11,12])
 (.seq (.region [RM 0 33 11,
 rq 1 34 (.bin .shr (.tm 33) (.kv (.int .u64 32))),
 RM 2 13 34] 3 [0,1,6,7,9,12,13])
 (.seq (.region [RM 0 35 12,
 RM 1 36 6,
 RM 2 37 9,
 rq 3 38 (.bin .mul (.tm 36) (.tm 37)),
 rq 4 39 (.bin .add (.tm 35) (.tm 38)),
 RM 5 12 39] 6 [0,1,7,9,12,13])
 (.seq (.region [RM 0 40 7,
 RM 1 41 9,
 rq 2 42 (.bin .mul (.tm 40) (.tm 41)),
 RM 3 43 13,
 rq 4 44 (.bin .add (.tm 42) (.tm 43)),
 RM 5 45 12,
 rq 6 46 (.bin .shr (.tm 45) (.kv (.int .u64 32))),
 rq 7 47 (.bin .add (.tm 44) (.tm 46)),
 RM 8 4 47] 9 [0,1,4])
 (.seq (.region [RM 0 48 0,
 RM 1 49 1,
 rq 2 50 (.bin .mul (.tm 48) (.tm 49)),
 RM 3 5 50] 4 [4,5])
 .ret))))))))))))
def JY:List Cert:=[⟨[],[0,1]⟩,⟨[],[0,1,6]⟩,⟨[],[0,1,6,7]⟩,⟨[],[0,1,6,7,8]⟩,⟨[],[0,1,6,7,8,9]⟩,⟨[],[0,1,6,7,8,9,10]⟩,⟨[],[0,1,6,7,9,11]⟩,⟨[],[0,1,6,7,9,11,12]⟩,⟨[],[0,1,6,7,9,12,13]⟩,⟨[],[0,1,7,9,12,13]⟩,⟨[],[0,1,4]⟩,⟨[],[4,5]⟩]
def xS:List aW:=[.tm 4,.tm 5]
theorem JO:aO Tryz.prog Tryz.f192 JY=some (iN,xS):=by kernel_rfl
theorem pB:aN Tryz.prog eF Tryz.f192 iN xS:=
 aN.mk Tryz.func192 (by kernel_rfl) JO
def u5:AC:=
 (.seq (.region [rq 0 3 (.box false (.tm 1)),
 rq 1 4 (.move (ki 0))] 2 [0,3])
 (.seq (.region [RM 0 5 0,
 rq 1 6 (.xop (.zI nJ) [(.tm 3)]),
 rq 2 7 (.call bR [(.tm 5),(.tm 6)]),
 RM 3 4 7] 4 [4])
 .ret))
def OF:List Cert:=[⟨[],[0,3]⟩,⟨[],[4]⟩]
def DX:List aW:=[.tm 4]
theorem N7:aO Tryz.prog Tryz.f204 OF=some (u5,DX):=by kernel_rfl
theorem O4:aN Tryz.prog qX Tryz.f204 u5 DX:=
 aN.mk Tryz.func204 (by kernel_rfl) N7
def gC:AC:=
 (.seq (.region [rq 0 2 (.move (.kv (.slice none 0 0)))] 1 [0])
 (.seq (.seq (.region [RM 0 3 0,
 rq 1 4 (.xop (.qJ false) [(.tm 3)])] 2 [0,4])
 (.cond (.tm 4)
 (.seq (.region [rq 0 2 (.move (.kv (.slice none 0 0)))] 1 [2])
 .ret)
 .skip))
 (.seq (.region [rq 0 5 (.bC 5 0 [VZ,VZ,VZ,VZ,OZ] []),
 RM 1 6 0,
 rq 2 7 (.append 5 (.tm 5) (.tm 6)),
 RM 3 2 7] 4 [2])
 .ret)))
def s8:List Cert:=[⟨[],[0]⟩,⟨[],[0,4]⟩,⟨[],[2]⟩,⟨[],[2]⟩]
def kL:List aW:=[.tm 2]
theorem sU:aO Tryz.prog Tryz.f209 s8=some (gC,kL):=by kernel_rfl
theorem s9:aN Tryz.prog eG Tryz.f209 gC kL:=
 aN.mk Tryz.func209 (by kernel_rfl) sU
def atW:AC:=
 (.seq (.region [rq 0 4 (.move (ki 0))] 1 [0,1])
 (.seq (.seq (.region [RM 0 6 0,
 rq 1 7 (.len false (.tm 6)),
 rq 2 8 (.move (ki 0))] 3 [0,1,7,8])
 (.block 0
 (.loop
 (.seq (.region [rq 0 9 (.bin .lss (.tm 8) (.tm 7))] 1 [0,1,7,8,9])
 (.seq (.cond (.tm 9)
 .skip
 (.exit 0))
 (.seq (.block 1
 (.seq (.region [RM 0 10 8,
 RM 1 5 10] 2 [0,1,5,7,8])
 (.seq (.region [RM 0 11 1,
 RM 1 12 0,
 RM 2 13 5,
 rq 3 14 (.idx 5 (.tm 12) (.tm 13)),
 rq 4 15 (.load 5 true (.tm 14)),
 rq 5 16 (.t5 (.tm 11) [(.tm 15)])] 6 [0,1,5,7,8,16])
 (.cond (.tm 16)
 (.seq (.region [RM 0 17 5,
 RM 1 4 17] 2 [4])
 .ret)
 .skip))))
 (.region [rq 0 18 (.bin .add (.tm 8) (ki 1)),
 RM 1 8 18] 2 [0,1,7,8])))))))
 (.seq (.region [rq 0 4 (.move (.kv (.int .i64 (-1))))] 1 [4])
 .ret)))
def au2:List Cert:=[⟨[],[0,1]⟩,⟨[],[0,1,7,8]⟩,⟨[],[0,1,7,8,9]⟩,⟨[],[0,1,5,7,8]⟩,⟨[],[0,1,5,7,8,16]⟩,⟨[],[4]⟩,⟨[],[0,1,7,8]⟩,⟨[],[4]⟩]
def at2:List aW:=[.tm 4]
theorem au1:aO Tryz.prog Tryz.f210 au2=some (atW,at2):=by kernel_rfl
theorem auZ:aN Tryz.prog hZ Tryz.f210 atW at2:=
 aN.mk Tryz.func210 (by kernel_rfl) au1
def avO:AC:=
 (.seq (.region [rq 0 3 (.box true (.tm 0)),
 rq 1 4 (.move (.kv (.bool false)))] 2 [1,2,3])
 (.seq (.region [RF 0 5 0 3,
 RL 1 6 5,
 RL 2 7 1,
 rq 3 8 (.bin .eql (.tm 6) (.tm 7)),
 RM 4 9 8,
 GQ 5 10 (.fld 1 (.tm 3)) 9 true,
 GQ 6 11 (.load 1 false (.tm 10)) 9 true,
 GQ 7 12 (.load 1 false (.tm 2)) 9 true,
 GQ 8 13 (.bin .eql (.tm 11) (.tm 12)) 9 true,
 rq 9 14 (.pick (.tm 9) (.tm 13) (.kv (.bool false))),
 RM 10 4 14] 11 [4])
 .ret))
def axR:List Cert:=[⟨[],[1,2,3]⟩,⟨[],[4]⟩]
def awE:List aW:=[.tm 4]
theorem axN:aO Tryz.prog Tryz.f211 axR=some (avO,awE):=by kernel_rfl
theorem axO:aN Tryz.prog avA Tryz.f211 avO awE:=
 aN.mk Tryz.func211 (by kernel_rfl) axN
def atT:AC:=
 (.seq (.region [rq 0 4 (.move (.kv (.bool false)))] 1 [0,1])
 (.seq (.region [RM 0 5 0,
 RM 1 6 1,
 rq 2 7 (.call hZ [(.tm 5),(.tm 6)]),
 rq 3 8 (.bin .geq (.tm 7) (ki 0)),
 RM 4 4 8] 5 [4])
 .ret))
def auR:List Cert:=[⟨[],[0,1]⟩,⟨[],[4]⟩]
def at1:List aW:=[.tm 4]
theorem auQ:aO Tryz.prog Tryz.f212 auR=some (atT,at1):=by kernel_rfl
theorem auP:aN Tryz.prog wB Tryz.f212 atT at1:=
 aN.mk Tryz.func212 (by kernel_rfl) auQ
def auI:AC:=
 (.seq (.region [rq 0 3 (.box true (.tm 0)),
 rq 1 4 (.move (.kv (.bool false)))] 2 [1,2,3])
 (.seq (.region [RF 0 5 0 3,
 RL 1 6 5,
 RF 2 7 1 1,
 RL 3 8 7,
 rq 4 9 (.bin .eql (.tm 6) (.tm 8)),
 RM 5 10 9,
 GQ 6 11 (.fld 1 (.tm 3)) 10 true,
 GQ 7 12 (.load 1 false (.tm 11)) 10 true,
 GQ 8 13 (.fld 2 (.tm 1)) 10 true,
 GQ 9 14 (.load 1 false (.tm 13)) 10 true,
 GQ 10 15 (.bin .lss (.tm 12) (.tm 14)) 10 true,
 rq 11 16 (.pick (.tm 10) (.tm 15) (.kv (.bool false))),
 RM 12 17 16,
 GQ 13 18 (.load 3 true (.tm 2)) 17 true,
 GQ 14 19 (.fld 0 (.tm 3)) 17 true,
 GQ 15 20 (.load 1 false (.tm 19)) 17 true,
 GQ 16 21 (.fld 1 (.tm 3)) 17 true,
 GQ 17 22 (.load 1 false (.tm 21)) 17 true,
 ⟨19,(some 24),.load 3 true (.tm 2),(some (17,true)),[],[],true⟩,
 GQ 20 25 (.fld 1 (.tm 1)) 17 true,
 ⟨21,(some 26),.load 1 false (.tm 25),(some (17,true)),[],[],true⟩,
 GQ 22 27 (.fld 2 (.tm 1)) 17 true,
 ⟨23,(some 28),.load 1 false (.tm 27),(some (17,true)),[],[],true⟩,
 ⟨18,(some 23),.call fB [(.tm 18),(.tm 20),(.tm 22)],(some (17,true)),[],[19,21,23],false⟩,
 GQ 24 29 (.call fB [(.tm 24),(.tm 26),(.tm 28)]) 17 true,
 GQ 25 30 (.bin .eql (.tm 23) (.tm 29)) 17 true,
 rq 26 31 (.pick (.tm 17) (.tm 30) (.kv (.bool false))),
 RM 27 4 31] 28 [4])
 .ret))
def av9:List Cert:=[⟨[],[1,2,3]⟩,⟨[cz 0,cz 1,cz 2,cz 3,cz 4,cz 5,cz 6,cz 7,cz 8,cz 9,cz 10,cz 11,cz 12,cz 13,cz 14,cz 15,cz 16,cz 17,(19,[],[],true),cz 20,(21,[],[],true),cz 22,(23,[],[],true),(18,[],[19,21,23],false),cz 24,cz 25,cz 26,cz 27],[4]⟩]
def au8:List aW:=[.tm 4]
theorem awD:aO Tryz.prog Tryz.f213 av9=some (auI,au8):=by kernel_rfl
theorem awC:aN Tryz.prog at5 Tryz.f213 auI au8:=
 aN.mk Tryz.func213 (by kernel_rfl) awD
def rB:AC:=
 (.seq (.region [rq 0 4 (.box true (.tm 1)),
 rq 1 6 (.move (ki 0)),
 rq 2 7 (.move (.kv (.bool false)))] 3 [0,2,4])
 (.seq (.region [RM 0 12 0,
 rq 1 13 (.len false (.tm 12)),
 RM 2 8 13] 3 [0,2,4,8])
 (.seq (.region [RM 0 14 8,
 rq 1 9 (.move (ki 0)),
 RM 2 10 14] 3 [0,2,4,8,9,10])
 (.seq (.block 0
 (.loop
 (.seq (.seq (.region [RM 0 15 9,
 RM 1 16 10,
 rq 2 17 (.bin .lss (.tm 15) (.tm 16))] 3 [0,2,4,8,9,10,17])
 (.cond (.tm 17)
 .skip
 (.exit 0)))
 (.block 1
 (.seq (.region [RM 0 18 9,
 RM 1 19 10,
 rq 2 20 (.bin .add (.tm 18) (.tm 19)),
 rq 3 21 (.conv .u64 (.tm 20)),
 rq 4 22 (.bin .shr (.tm 21) (.kv (.int .u64 1))),
 rq 5 23 (.conv .i64 (.tm 22)),
 RM 6 11 23] 7 [0,2,4,8,9,10,11])
 (.seq (.region [RM 0 24 2,
 RM 1 25 0,
 RM 2 26 11,
 rq 3 27 (.idx 5 (.tm 25) (.tm 26)),
 rq 4 28 (.load 5 true (.tm 27)),
 rq 5 29 (.load 5 true (.tm 4)),
 rq 6 30 (.t5 (.tm 24) [(.tm 28),(.tm 29)]),
 rq 7 31 (.bin .lss (.tm 30) (ki 0))] 8 [0,2,4,8,9,10,11,31])
 (.cond (.tm 31)
 (.region [RM 0 32 11,
 rq 1 33 (.bin .add (.tm 32) (ki 1)),
 RM 2 9 33] 3 [0,2,4,8,9,10])
 (.region [RM 0 34 11,
 RM 1 10 34] 2 [0,2,4,8,9,10]))))))))
 (.seq (.region [RM 0 35 9,
 RM 1 36 9,
 RM 2 37 8,
 rq 3 38 (.bin .lss (.tm 36) (.tm 37)),
 RM 4 39 38,
 GQ 5 40 (.move (.tm 2)) 39 true,
 GQ 6 41 (.move (.tm 0)) 39 true,
 GQ 7 42 (.move (.tm 9)) 39 true,
 GQ 8 43 (.idx 5 (.tm 41) (.tm 42)) 39 true,
 GQ 9 44 (.load 5 true (.tm 43)) 39 true,
 GQ 10 45 (.load 5 true (.tm 4)) 39 true,
 GQ 11 46 (.t5 (.tm 40) [(.tm 44),(.tm 45)]) 39 true,
 GQ 12 47 (.bin .eql (.tm 46) (ki 0)) 39 true,
 rq 13 48 (.pick (.tm 39) (.tm 47) (.kv (.bool false))),
 RM 14 6 35,
 RM 15 7 48] 16 [6,7])
 .ret)))))
def at9:List Cert:=[⟨[],[0,2,4]⟩,⟨[],[0,2,4,8]⟩,⟨[],[0,2,4,8,9,10]⟩,⟨[],[0,2,4,8,9,10,17]⟩,⟨[],[0,2,4,8,9,10,11]⟩,⟨[cz 0,cz 1,cz 2,cz 3,cz 4,cz 5,cz 6,cz 7],[0,2,4,8,9,10,11,31]⟩,⟨[],[0,2,4,8,9,10]⟩,⟨[],[0,2,4,8,9,10]⟩,⟨[cz 0,cz 1,cz 2,cz 3,cz 4,cz 5,cz 6,cz 7,cz 8,cz 9,cz 10,cz 11,cz 12,cz 13,cz 14,cz 15],[6,7]⟩]
def atV:List aW:=[.tm 6,.tm 7]
theorem at8:aO Tryz.prog Tryz.f214 at9=some (rB,atV):=by kernel_rfl
theorem auA:aN Tryz.prog eR Tryz.f214 rB atV:=
 aN.mk Tryz.func214 (by kernel_rfl) at8
def atZ:AC:=
 (.seq (.region [rq 0 6 (.move (.kv (.slice none 0 0)))] 1 [0,1,2])
 (.seq (.region [RM 0 10 0,
 RM 1 11 1,
 rq 2 12 (.slc 5 (.tm 10) (some (.tm 11)) none none)] 3 [0,1,2])
 (.seq (.region [RM 0 13 2,
 rq 1 14 (.len false (.tm 13)),
 RM 2 7 14] 3 [0,1,2,7])
 (.seq (.seq (.region [RM 0 15 7,
 rq 1 16 (.bin .eql (.tm 15) (ki 0))] 2 [0,1,2,7,16])
 (.cond (.tm 16)
 (.seq (.region [RM 0 17 0,
 RM 1 6 17] 2 [6])
 .ret)
 .skip))
 (.seq (.region [RM 0 18 0,
 rq 1 19 (.len false (.tm 18)),
 RM 2 8 19] 3 [0,1,2,7,8])
 (.seq (.seq (.region [RM 0 20 1,
 RM 1 21 8,
 rq 2 22 (.bin .eql (.tm 20) (.tm 21))] 3 [0,1,2,7,8,22])
 (.cond (.tm 22)
 (.seq (.region [RM 0 23 0,
 RM 1 24 2,
 rq 2 25 (.append 5 (.tm 23) (.tm 24)),
 RM 3 6 25] 4 [6])
 .ret)
 .skip))
 (.seq (.seq (.region [RM 0 26 8,
 RM 1 27 7,
 rq 2 28 (.bin .add (.tm 26) (.tm 27)),
 RM 3 29 0,
 rq 4 30 (.cap (.tm 29)),
 rq 5 31 (.bin .gtr (.tm 28) (.tm 30))] 6 [0,1,2,7,8,31])
 (.cond (.tm 31)
 (.seq (.region [RM 0 32 0,
 RM 1 33 1,
 rq 2 34 (.slc 5 (.tm 32) none (some (.tm 33)) none),
 RM 3 35 8,
 RM 4 36 7,
 rq 5 37 (.bin .add (.tm 35) (.tm 36)),
 RM 6 38 1,
 rq 7 39 (.bin .sub (.tm 37) (.tm 38)),
 rq 8 40 (.xop (.adT 5 [VZ,VZ,VZ,VZ,OZ]) [(.tm 34),(.tm 39)]),
 RM 9 9 40] 10 [0,1,2,7,9])
 (.seq (.region [RM 0 41 9,
 RM 1 42 1,
 rq 2 43 (.slc 5 (.tm 41) (some (.tm 42)) none none),
 RM 3 44 2,
 rq 4 45 (.xop (.copy 5) [(.tm 43),(.tm 44)])] 5 [0,1,7,9])
 (.seq (.region [RM 0 46 9,
 RM 1 47 1,
 RM 2 48 7,
 rq 3 49 (.bin .add (.tm 47) (.tm 48)),
 rq 4 50 (.slc 5 (.tm 46) (some (.tm 49)) none none),
 RM 5 51 0,
 RM 6 52 1,
 rq 7 53 (.slc 5 (.tm 51) (some (.tm 52)) none none),
 rq 8 54 (.xop (.copy 5) [(.tm 50),(.tm 53)])] 9 [9])
 (.seq (.region [RM 0 55 9,
 RM 1 6 55] 2 [6])
 .ret))))
 .skip))
 (.seq (.region [RM 0 56 0,
 RM 1 57 8,
 RM 2 58 7,
 rq 3 59 (.bin .add (.tm 57) (.tm 58)),
 rq 4 60 (.slc 5 (.tm 56) none (some (.tm 59)) none),
 RM 5 0 60] 6 [0,1,2,7,8])
 (.seq (.seq (.region [RM 0 61 2,
 RM 1 62 0,
 RM 2 63 1,
 RM 3 64 7,
 rq 4 65 (.bin .add (.tm 63) (.tm 64)),
 rq 5 66 (.slc 5 (.tm 62) (some (.tm 65)) none none),
 rq 6 67 (.xop (.aaN auV) [(.tm 61),(.tm 66)]),
 rq 7 68 (.un .not (.tm 67))] 8 [0,1,2,7,8,68])
 (.cond (.tm 68)
 (.seq (.region [RM 0 69 0,
 RM 1 70 1,
 RM 2 71 7,
 rq 3 72 (.bin .add (.tm 70) (.tm 71)),
 rq 4 73 (.slc 5 (.tm 69) (some (.tm 72)) none none),
 RM 5 74 0,
 RM 6 75 1,
 rq 7 76 (.slc 5 (.tm 74) (some (.tm 75)) none none),
 rq 8 77 (.xop (.copy 5) [(.tm 73),(.tm 76)])] 9 [0,1,2])
 (.seq (.region [RM 0 78 0,
 RM 1 79 1,
 rq 2 80 (.slc 5 (.tm 78) (some (.tm 79)) none none),
 RM 3 81 2,
 rq 4 82 (.xop (.copy 5) [(.tm 80),(.tm 81)])] 5 [0])
 (.seq (.region [RM 0 83 0,
 RM 1 6 83] 2 [6])
 .ret)))
 .skip))
 (.seq (.region [RM 0 84 0,
 RM 1 85 8,
 rq 2 86 (.slc 5 (.tm 84) (some (.tm 85)) none none),
 RM 3 87 2,
 rq 4 88 (.xop (.copy 5) [(.tm 86),(.tm 87)])] 5 [0,1,7])
 (.seq (.region [RM 0 89 0,
 RM 1 90 1,
 rq 2 91 (.slc 5 (.tm 89) (some (.tm 90)) none none),
 RM 3 92 7,
 rq 4 93 (.call avU [(.tm 91),(.tm 92)])] 5 [0])
 (.seq (.region [RM 0 94 0,
 RM 1 6 94] 2 [6])
 .ret))))))))))))
def avD:List Cert:=[⟨[],[0,1,2]⟩,⟨[],[0,1,2]⟩,⟨[],[0,1,2,7]⟩,⟨[],[0,1,2,7,16]⟩,⟨[],[6]⟩,⟨[],[0,1,2,7,8]⟩,⟨[],[0,1,2,7,8,22]⟩,⟨[],[6]⟩,⟨[],[0,1,2,7,8,31]⟩,⟨[],[0,1,2,7,9]⟩,⟨[],[0,1,7,9]⟩,⟨[cz 0,cz 1,cz 2,cz 3,cz 4,cz 5,cz 6,cz 7,cz 8],[9]⟩,⟨[],[6]⟩,⟨[],[0,1,2,7,8]⟩,⟨[],[0,1,2,7,8,68]⟩,⟨[cz 0,cz 1,cz 2,cz 3,cz 4,cz 5,cz 6,cz 7,cz 8],[0,1,2]⟩,⟨[],[0]⟩,⟨[],[6]⟩,⟨[],[0,1,7]⟩,⟨[],[0]⟩,⟨[],[6]⟩]
def auF:List aW:=[.tm 6]
theorem avB:aO Tryz.prog Tryz.f215 avD=some (atZ,auF):=by kernel_rfl
theorem avE:aN Tryz.prog atU Tryz.f215 atZ auF:=
 aN.mk Tryz.func215 (by kernel_rfl) avB
def sW:AC:=
 (.seq (.region [rq 0 2 (.move (.kv (.bool false)))] 1 [0])
 (.seq (.region [RM 0 3 0,
 RM 1 4 0,
 rq 2 5 (.bin .neq (.tm 3) (.tm 4)),
 RM 3 2 5] 4 [2])
 .ret))
def NG:List Cert:=[⟨[],[0]⟩,⟨[],[2]⟩]
def A2:List aW:=[.tm 2]
theorem M6:aO Tryz.prog Tryz.f218 NG=some (sW,A2):=by kernel_rfl
theorem MP:aN Tryz.prog lG Tryz.f218 sW A2:=
 aN.mk Tryz.func218 (by kernel_rfl) M6
def s6:AC:=
 (.seq (.region [rq 0 6 (.move (.kv (.slice none 0 0)))] 1 [0,1,2])
 (.seq (.seq (.region [RM 0 9 0,
 RM 1 10 1,
 RM 2 11 2,
 rq 3 12 (.call nI [(.tm 9),(.tm 10),(.tm 11)]),
 rq 4 13 (.un .not (.tm 12))] 5 [0,1,2,13])
 (.cond (.tm 13)
 (.seq (.region [rq 0 6 (.move (.kv (.slice none 0 0)))] 1 [6])
 .ret)
 .skip))
 (.seq (.region [RM 0 14 1,
 rq 1 15 (.kY 1 [VZ] (.tm 14) (.tm 14)),
 RM 2 7 15] 3 [0,1,2,7])
 (.seq (.seq (.region [RM 0 16 7,
 rq 1 17 (.len false (.tm 16)),
 rq 2 18 (.move (ki 0))] 3 [0,1,2,7,17,18])
 (.block 0
 (.loop
 (.seq (.region [rq 0 19 (.bin .lss (.tm 18) (.tm 17))] 1 [0,1,2,7,17,18,19])
 (.seq (.cond (.tm 19)
 .skip
 (.exit 0))
 (.seq (.block 1
 (.seq (.region [RM 0 20 18,
 RM 1 8 20] 2 [0,1,2,7,8,17,18])
 (.seq (.region [RM 0 21 7,
 RM 1 22 8,
 RM 2 23 0,
 RM 3 24 8,
 rq 4 25 (.bin .add (.tm 23) (.tm 24)),
 rq 5 26 (.idx 1 (.tm 21) (.tm 22)),
 rn 6 (.store 1 false (.tm 26) (.tm 25))] 7 [0,1,2,7,8,17,18])
 (.seq (.region [RM 0 27 2] 1 [0,1,2,7,8,17,18,27])
 (.cond (.tm 27)
 (.region [RM 0 28 7,
 RM 1 29 8,
 RM 2 30 0,
 RM 3 31 0,
 RM 4 32 1,
 rq 5 33 (.bin .rem (.tm 31) (.tm 32)),
 rq 6 34 (.bin .sub (.tm 30) (.tm 33)),
 RM 7 35 0,
 RM 8 36 8,
 rq 9 37 (.bin .add (.tm 35) (.tm 36)),
 RM 10 38 1,
 rq 11 39 (.bin .rem (.tm 37) (.tm 38)),
 rq 12 40 (.bin .add (.tm 34) (.tm 39)),
 rq 13 41 (.idx 1 (.tm 28) (.tm 29)),
 rn 14 (.store 1 false (.tm 41) (.tm 40))] 15 [0,1,2,7,17,18])
 .skip)))))
 (.region [rq 0 42 (.bin .add (.tm 18) (ki 1)),
 RM 1 18 42] 2 [0,1,2,7,17,18])))))))
 (.seq (.region [RM 0 43 7,
 RM 1 6 43] 2 [6])
 .ret)))))
def MU:List Cert:=[⟨[],[0,1,2]⟩,⟨[],[0,1,2,13]⟩,⟨[],[6]⟩,⟨[],[0,1,2,7]⟩,⟨[],[0,1,2,7,17,18]⟩,⟨[],[0,1,2,7,17,18,19]⟩,⟨[],[0,1,2,7,8,17,18]⟩,⟨[],[0,1,2,7,8,17,18]⟩,⟨[],[0,1,2,7,8,17,18,27]⟩,⟨[cz 0,cz 1,cz 2,cz 3,cz 4,cz 5,cz 6,cz 7,cz 8,cz 9,cz 10,cz 11,cz 12,cz 13,cz 14],[0,1,2,7,17,18]⟩,⟨[],[0,1,2,7,17,18]⟩,⟨[],[6]⟩]
def BT:List aW:=[.tm 6]
theorem L6:aO Tryz.prog Tryz.f219 MU=some (s6,BT):=by kernel_rfl
theorem M3:aN Tryz.prog oS Tryz.f219 s6 BT:=
 aN.mk Tryz.func219 (by kernel_rfl) L6
def jQ:AC:=
 (.seq (.region [rq 0 4 (.move (ki 0))] 1 [0,1])
 (.seq (.seq (.region [RM 0 6 0,
 rq 1 7 (.len false (.tm 6)),
 rq 2 8 (.move (ki 0))] 3 [0,1,7,8])
 (.block 0
 (.loop
 (.seq (.region [rq 0 9 (.bin .lss (.tm 8) (.tm 7))] 1 [0,1,7,8,9])
 (.seq (.cond (.tm 9)
 .skip
 (.exit 0))
 (.seq (.block 1
 (.seq (.region [RM 0 10 8,
 RM 1 5 10] 2 [0,1,5,7,8])
 (.seq (.region [RM 0 11 1,
 RM 1 12 0,
 RM 2 13 5,
 rq 3 14 (.idx 1 (.tm 12) (.tm 13)),
 RL 4 15 14,
 rq 5 16 (.bin .eql (.tm 11) (.tm 15))] 6 [0,1,5,7,8,16])
 (.cond (.tm 16)
 (.seq (.region [RM 0 17 5,
 RM 1 4 17] 2 [4])
 .ret)
 .skip))))
 (.region [rq 0 18 (.bin .add (.tm 8) (ki 1)),
 RM 1 8 18] 2 [0,1,7,8])))))))
 (.seq (.region [rq 0 4 (.move (.kv (.int .i64 (-1))))] 1 [4])
 .ret)))
def zO:List Cert:=[⟨[],[0,1]⟩,⟨[],[0,1,7,8]⟩,⟨[],[0,1,7,8,9]⟩,⟨[],[0,1,5,7,8]⟩,⟨[],[0,1,5,7,8,16]⟩,⟨[],[4]⟩,⟨[],[0,1,7,8]⟩,⟨[],[4]⟩]
def oK:List aW:=[.tm 4]
theorem zS:aO Tryz.prog Tryz.f220 zO=some (jQ,oK):=by kernel_rfl
theorem AD:aN Tryz.prog gN Tryz.f220 jQ oK:=
 aN.mk Tryz.func220 (by kernel_rfl) zS
def dM:AC:=
 (.seq (.region [rq 0 4 (.move (ki 0))] 1 [0,1])
 (.seq (.seq (.region [RM 0 6 0,
 rq 1 7 (.len false (.tm 6)),
 rq 2 8 (.move (ki 0))] 3 [0,1,7,8])
 (.block 0
 (.loop
 (.seq (.region [rq 0 9 (.bin .lss (.tm 8) (.tm 7))] 1 [0,1,7,8,9])
 (.seq (.cond (.tm 9)
 .skip
 (.exit 0))
 (.seq (.block 1
 (.seq (.region [RM 0 10 8,
 RM 1 5 10] 2 [0,1,5,7,8])
 (.seq (.region [RM 0 11 1,
 RM 1 12 0,
 RM 2 13 5,
 rq 3 14 (.idx 4 (.tm 12) (.tm 13)),
 rq 4 15 (.load 4 true (.tm 14)),
 rq 5 16 (.t5 (.tm 11) [(.tm 15)])] 6 [0,1,5,7,8,16])
 (.cond (.tm 16)
 (.seq (.region [RM 0 17 5,
 RM 1 4 17] 2 [4])
 .ret)
 .skip))))
 (.region [rq 0 18 (.bin .add (.tm 8) (ki 1)),
 RM 1 8 18] 2 [0,1,7,8])))))))
 (.seq (.region [rq 0 4 (.move (.kv (.int .i64 (-1))))] 1 [4])
 .ret)))
def mO:List Cert:=[⟨[],[0,1]⟩,⟨[],[0,1,7,8]⟩,⟨[],[0,1,7,8,9]⟩,⟨[],[0,1,5,7,8]⟩,⟨[],[0,1,5,7,8,16]⟩,⟨[],[4]⟩,⟨[],[0,1,7,8]⟩,⟨[],[4]⟩]
def gM:List aW:=[.tm 4]
theorem mU:aO Tryz.prog Tryz.f229 mO=some (dM,gM):=by kernel_rfl
theorem mT:aN Tryz.prog bR Tryz.f229 dM gM:=
 aN.mk Tryz.func229 (by kernel_rfl) mU
def o8:AC:=
 (.seq (.region [rq 0 2 (.move (.kv (.bool false)))] 1 [0])
 (.seq (.region [RM 0 3 0,
 rq 1 4 (.call tR [(.tm 3)]),
 rq 2 5 (.un .not (.tm 4)),
 RM 3 2 5] 4 [2])
 .ret))
def JL:List Cert:=[⟨[],[0]⟩,⟨[],[2]⟩]
def xF:List aW:=[.tm 2]
theorem JH:aO Tryz.prog Tryz.f230 JL=some (o8,xF):=by kernel_rfl
theorem JM:aN Tryz.prog lX Tryz.f230 o8 xF:=
 aN.mk Tryz.func230 (by kernel_rfl) JH
def yN:AC:=
 (.seq (.region [rq 0 2 (.move (.kv (.bool false)))] 1 [0])
 (.seq (.region [RM 0 3 0,
 rq 1 4 (.call cQ [(.tm 3),(ki 0),(ki 65535)]),
 RM 2 2 4] 3 [2])
 .ret))
def R2:List Cert:=[⟨[],[0]⟩,⟨[],[2]⟩]
def FL:List aW:=[.tm 2]
theorem SV:aO Tryz.prog Tryz.f231 R2=some (yN,FL):=by kernel_rfl
theorem QH:aN Tryz.prog tR Tryz.f231 yN FL:=
 aN.mk Tryz.func231 (by kernel_rfl) SV
def rO:AC:=
 (.seq (.region [rq 0 2 (.box true (.tm 0)),
 rq 1 3 (.move (.kv (.bool false)))] 2 [1,2])
 (.seq (.region [RL 0 4 1,
 RF 1 5 0 2,
 RL 2 6 5,
 RF 3 7 1 2,
 RL 4 8 7,
 rq 5 9 (.call cQ [(.tm 4),(.tm 6),(.tm 8)]),
 RM 6 3 9] 7 [3])
 .ret))
def KZ:List Cert:=[⟨[],[1,2]⟩,⟨[],[3]⟩]
def zB:List aW:=[.tm 3]
theorem J5:aO Tryz.prog Tryz.f234 KZ=some (rO,zB):=by kernel_rfl
theorem J4:aN Tryz.prog nJ Tryz.f234 rO zB:=
 aN.mk Tryz.func234 (by kernel_rfl) J5
end Go.Proofs.YtegiblhkjfiooaaGreat
end
section
namespace Go.Proofs.YtegiblhkjfiooaaGreat
open Go Go.AM
set_option maxRecDepth 100000
section
variable {H : aA} {nx : Nat} {K : D → aA → Nat → Prop}
theorem agS (n lo up:Int):aB Tryz.prog cQ [dI n,dI lo,dI up] .nil 0 fun rr _ _=>rr.plain=true∧rr=dB (decide (lo≤n∧n≤up)):=by
 refine ae0 rfl fun Q hQ=> ?_
 unfold JX
 repeat' (first| (with_reducible first| (refine hK _ _ _ ?_;clear hK K)|refine Z1 ?_)| (with_reducible first|refine Y2 fun K hK=> ?_|refine Y6 (fun h=> ?_) fun h=> ?_)<;>(simp only[go_sem])| ((with_reducible refine Y8 ?_);try simp only[AQ.then,AQ.blk,reduceIte,Nat.reduceEqDiff])|fail)
 all_goals first|with_reducible refine aZ hQ _ rfl rfl ?_|skip
 all_goals first|exact pD (by omega)|exact q9 (by omega)|exact j7 (by omega)|rfl
theorem fE {n:Int} {lo:Int} {up:Int} (h:K (dB (decide (lo≤n∧n≤up))) H nx):aB Tryz.prog cQ [dI n,dI lo,dI up] H nx K:=
 (agS n lo up).pure rfl (aI ⟨aE rfl,aE rfl,aE rfl,trivial⟩) (fun r hr=>hr▸h)
theorem OC (n:Int):aB Tryz.prog jA [dI n] .nil 0 fun rr _ _=>rr.plain=true∧rr=dB (decide (0≤n∧n≤2)):=by
 refine MZ rfl fun Q hQ=> ?_
 unfold sZ
 repeat' (first| (with_reducible first| (refine hK _ _ _ ?_;clear hK K)|refine Z1 ?_)| (first| (with_reducible refine Y2 fun K hK=> ?_)| (with_reducible refine fE ?_))<;>(simp only[go_sem])| ((with_reducible refine Y8 ?_);try simp only[AQ.then,AQ.blk,reduceIte,Nat.reduceEqDiff])|fail)
 all_goals first|with_reducible refine aZ hQ _ rfl rfl ?_|skip
 all_goals first|exact pD (by omega)|exact q9 (by omega)|exact j7 (by omega)|rfl
theorem oR {n:Int} (h:K (dB (decide (0≤n∧n≤2))) H nx):aB Tryz.prog jA [dI n] H nx K:=
 (OC n).pure rfl (aI ⟨aE rfl,trivial⟩) (fun r hr=>hr▸h)
theorem TM (n:Int):aB Tryz.prog tR [dI n] .nil 0 fun rr _ _=>rr.plain=true∧rr=dB (decide (0≤n∧n≤65535)):=by
 refine QH rfl fun Q hQ=> ?_
 unfold yN
 repeat' (first| (with_reducible first| (refine hK _ _ _ ?_;clear hK K)|refine Z1 ?_)| (first| (with_reducible refine Y2 fun K hK=> ?_)| (with_reducible refine fE ?_))<;>(simp only[go_sem])| ((with_reducible refine Y8 ?_);try simp only[AQ.then,AQ.blk,reduceIte,Nat.reduceEqDiff])|fail)
 all_goals first|with_reducible refine aZ hQ _ rfl rfl ?_|skip
 all_goals first|exact pD (by omega)|exact q9 (by omega)|exact j7 (by omega)|rfl
theorem U5 {n:Int} (h:K (dB (decide (0≤n∧n≤65535))) H nx):aB Tryz.prog tR [dI n] H nx K:=
 (TM n).pure rfl (aI ⟨aE rfl,trivial⟩) (fun r hr=>hr▸h)
theorem XR (addr many:Int) (wrap:Bool):aB Tryz.prog nI [dI addr,dI many,dB wrap] .nil 0 fun rr _ _=>rr.plain=true∧rr=dB (decide (o7 addr many wrap)):=by
 refine VQ rfl fun Q hQ=> ?_
 unfold z5
 repeat' (first| (with_reducible first| (refine hK _ _ _ ?_;clear hK K)|refine Z1 ?_)| (first| (with_reducible first|refine Y2 fun K hK=> ?_|refine Y6 (fun h=> ?_) fun h=> ?_| (refine Y7 (fun h=> ?_) (fun h=> ?_)<;>try subst h))| (with_reducible refine fE ?_))<;>(simp only[go_sem];try simp (disch:=omega) only[Iw])| ((with_reducible refine Y8 ?_);try simp only[AQ.then,AQ.blk,reduceIte,Nat.reduceEqDiff])|fail)
 all_goals first|with_reducible refine aZ hQ _ rfl rfl ?_|skip
 all_goals unfold o7
 all_goals first|exact pD (by simp;omega)|exact q9 (by simp;omega)|exact j7 (by simp;omega)
theorem wS {addr:Int} {many:Int} {wrap:Bool} (h:K (dB (decide (o7 addr many wrap))) H nx):aB Tryz.prog nI [dI addr,dI many,dB wrap] H nx K:=
 (XR addr many wrap).pure rfl (aI ⟨aE rfl,aE rfl,aE rfl,trivial⟩) (fun r hr=>hr▸h)
end
end Go.Proofs.YtegiblhkjfiooaaGreat
end
section
namespace Go.Proofs.YtegiblhkjfiooaaGreat
open Go Go.AM
set_option maxRecDepth 100000
section
variable {H : aA} {nx : Nat} {K : D → aA → Nat → Prop}
theorem nC (l:List Rng) (f:FuncId) (caps:List D1) (p:Rng→Bool) (hl:l.length<2^40) (hc:caps.all D1.dQ=true) (hf: ∀x∈l,∀(H:aA) (nx:Nat) (K:D→aA→Nat→Prop),K (dB (p x)) H nx→aB Tryz.prog f (dA (eN x)::caps.map fun d=>.one (.c d)) H nx K):
 aB Tryz.prog bR [dS (l.map eN),.one (.c (.clo f caps))] .nil 0 fun r _ _=>r.plain=true∧r=dI (bK p l):=by
 refine mT rfl fun Q hQ=> ?_
 unfold dM
 repeat' (first| (with_reducible first| (refine hK _ _ _ ?_;clear hK K)|refine Z1 ?_|refine Z3 fun KB hKB=> ?_)| (with_reducible refine Y2 fun K hK=> ?_)<;>(simp only[go_sem])|fail)
 (have hKX:=hKB;clear hKB);(refine aM.loop (α:={k:Nat//k≤l.length∧(∀i,i<k→p (l.getD i default)=false)}) (fun u=>en [(8,dI u.1),(7,dI l.length),(1,.one (.c (.clo f caps))),(0,dS (l.map eN))]) (fun _=>.nil) _ (fun u=>l.length-u.1) ⟨0,by omega,(by intros;first|trivial|omega)⟩ (bU (Nat.le_refl _) (by repeat' (first| (with_reducible first|exact C1|refine C2 ?_ ?_)| ((with_reducible refine C0 ?_);exact CH (by assumption))| ((with_reducible refine D0 ?_);first|exact CA rfl|refine CJ ?_)|fail))) ?_);(rintro⟨k,hk,hinv⟩ KL hKL)
 by_cases hlt:k<l.length
 ·have hmem:l.getD k default∈l:=by simp[List.getD,hlt]
  repeat' (first| (with_reducible first| (refine hK _ _ _ ?_;clear hK K)| (refine hA ?_;clear hA hB A B)| (refine hB ?_;clear hA hB A B)|refine Z1 ?_|refine Z2 ?_|refine Z3 fun KB hKB=> ?_|refine Z4 (by omega) ?_)| (first| (with_reducible first|refine Y2 fun K hK=> ?_|refine Y3 fun A B hA hB=> ?_)| (with_reducible refine hf _ hmem _ _ _ ?_))<;>(simp only[go_sem];try simp (disch:=omega) only[Iw])| ((with_reducible refine Y8 ?_);try simp only[AQ.then,AQ.blk,reduceIte,Nat.reduceEqDiff])| ((with_reducible refine Y0 ?_);simp only[AQ.then,AQ.blk])| ((with_reducible refine Z8 (fun h=> ?_) (fun h=> ?_))<;>try subst h)|refine⟨by omega,?_⟩| (with_reducible refine hKB _ _ _ ?_)|fail)
  ·refine aZ hQ _ rfl rfl (qA (Eq.symm (CU (by omega) (by assumption) hinv)))
  · (refine hKL _ _ _ ⟨k+1,by omega,iS hinv (by assumption)⟩ (by omega) (by(try dsimp only);omega) (bU (Nat.le_refl _) (by repeat' (first| (with_reducible first|exact C1|refine C2 ?_ ?_)| ((with_reducible refine C0 ?_);exact CH (by assumption))| ((with_reducible refine D0 ?_);first|exact CA rfl|refine CJ ?_)|fail))))
 ·repeat' (first| (with_reducible first| (refine hK _ _ _ ?_;clear hK K)| (refine hB ?_;clear hA hB A B)|refine Z1 ?_|refine Z5 (by omega) ?_|refine hKX _ _ _ ?_)| (with_reducible first|refine Y2 fun K hK=> ?_|refine Y3 fun A B hA hB=> ?_)<;>(simp only[go_sem])| ((with_reducible first|refine Y8 ?_|refine Y9 ?_);try simp only[AQ.then,AQ.blk,reduceIte,Nat.reduceEqDiff])|fail)
  ·refine aZ hQ _ rfl rfl (qA (Eq.symm (tI fun i hi=>hinv i (by omega))))
theorem gS {l:List Rng} {f:FuncId} {caps caps0:List D1} {p:Rng→Bool} {d:D} (hl:l.length<2^40) (hc:caps.all D1.dQ=true) (hd:CvD H (fun _=>True) id 0 (dS (l.map eN)) d) (hk:CvD H (fun _=>True) id 0 (.one (.c (.clo f caps))) (.one (.c (.clo f caps0)))) (hf: ∀x∈l,∀(H:aA) (nx:Nat) (K:D→aA→Nat→Prop),K (dB (p x)) H nx→aB Tryz.prog f (dA (eN x)::caps.map fun d=>.one (.c d)) H nx K)
 (h:K (dI (bK p l)) H nx):aB Tryz.prog bR [d,.one (.c (.clo f caps0))] H nx K:=
 (nC l f caps p hl hc hf).pure rfl (aI ⟨hd,hk,trivial⟩) fun r hr=>hr▸h
theorem lO (l:List Rng) (f:FuncId) (caps:List D1) (p:Rng→Bool) (hl:l.length<2^40) (hc:caps.all D1.dQ=true) (hf: ∀x∈l,∀(H:aA) (nx:Nat) (K:D→aA→Nat→Prop),K (dB (p x)) H nx→aB Tryz.prog f (dA (eN x)::caps.map fun d=>.one (.c d)) H nx K):
 aB Tryz.prog bX [dS (l.map eN),.one (.c (.clo f caps))] .nil 0 fun r _ _=>r.plain=true∧r=dB (decide (0≤bK p l)):=by
 refine lF rfl fun Q hQ=> ?_
 unfold cY
 repeat' (first| (with_reducible first| (refine hK _ _ _ ?_;clear hK K)|refine Z1 ?_)| (first| (with_reducible refine Y2 fun K hK=> ?_)| (refine gS hl hc (aE rfl) (kC hc) hf ?_))<;>(simp only[go_sem])| ((with_reducible refine Y8 ?_);try simp only[AQ.then,AQ.blk,reduceIte,Nat.reduceEqDiff])|fail)
 all_goals exact aZ hQ _ rfl rfl rfl
theorem lN {l:List Rng} {f:FuncId} {caps caps0:List D1} {p:Rng→Bool} {d:D} (hl:l.length<2^40) (hc:caps.all D1.dQ=true) (hd:CvD H (fun _=>True) id 0 (dS (l.map eN)) d) (hk:CvD H (fun _=>True) id 0 (.one (.c (.clo f caps))) (.one (.c (.clo f caps0)))) (hf: ∀x∈l,∀(H:aA) (nx:Nat) (K:D→aA→Nat→Prop),K (dB (p x)) H nx→aB Tryz.prog f (dA (eN x)::caps.map fun d=>.one (.c d)) H nx K)
 (h:K (dB (decide (0≤bK p l))) H nx):aB Tryz.prog bX [d,.one (.c (.clo f caps0))] H nx K:=
 (lO l f caps p hl hc hf).pure rfl (aI ⟨hd,hk,trivial⟩) fun r hr=>hr▸h
theorem wN (l:List Int) (f:FuncId) (caps:List D1) (p:Int→Bool) (hl:l.length<2^40) (hc:caps.all D1.dQ=true) (hf: ∀x∈l,∀(H:aA) (nx:Nat) (K:D→aA→Nat→Prop),K (dB (p x)) H nx→aB Tryz.prog f (dI x::caps.map fun d=>.one (.c d)) H nx K):
 aB Tryz.prog fF [dS (l.map aJ),.one (.c (.clo f caps))] .nil 0 fun r _ _=>r.plain=true∧r=dI (bK p l):=by
 refine uY rfl fun Q hQ=> ?_
 unfold gX
 repeat' (first| (with_reducible first| (refine hK _ _ _ ?_;clear hK K)|refine Z1 ?_|refine Z3 fun KB hKB=> ?_)| (with_reducible refine Y2 fun K hK=> ?_)<;>(simp only[go_sem])|fail)
 (have hKX:=hKB;clear hKB);(refine aM.loop (α:={k:Nat//k≤l.length∧(∀i,i<k→p (l.getD i default)=false)}) (fun u=>en [(8,dI u.1),(7,dI l.length),(1,.one (.c (.clo f caps))),(0,dS (l.map aJ))]) (fun _=>.nil) _ (fun u=>l.length-u.1) ⟨0,by omega,(by intros;first|trivial|omega)⟩ (bU (Nat.le_refl _) (by repeat' (first| (with_reducible first|exact C1|refine C2 ?_ ?_)| ((with_reducible refine C0 ?_);exact CH (by assumption))| ((with_reducible refine D0 ?_);first|exact CA rfl|refine CJ ?_)|fail))) ?_);(rintro⟨k,hk,hinv⟩ KL hKL)
 by_cases hlt:k<l.length
 ·have hmem:l.getD k default∈l:=by simp[List.getD,hlt]
  repeat' (first| (with_reducible first| (refine hK _ _ _ ?_;clear hK K)| (refine hA ?_;clear hA hB A B)| (refine hB ?_;clear hA hB A B)|refine Z1 ?_|refine Z2 ?_|refine Z3 fun KB hKB=> ?_|refine Z4 (by omega) ?_)| (first| (with_reducible first|refine Y2 fun K hK=> ?_|refine Y3 fun A B hA hB=> ?_)| (with_reducible refine hf _ hmem _ _ _ ?_))<;>(simp only[go_sem];try simp (disch:=omega) only[Iw])| ((with_reducible refine Y8 ?_);try simp only[AQ.then,AQ.blk,reduceIte,Nat.reduceEqDiff])| ((with_reducible refine Y0 ?_);simp only[AQ.then,AQ.blk])| ((with_reducible refine Z8 (fun h=> ?_) (fun h=> ?_))<;>try subst h)|refine⟨by omega,?_⟩| (with_reducible refine hKB _ _ _ ?_)|fail)
  ·refine aZ hQ _ rfl rfl (qA (Eq.symm (CU (by omega) (by assumption) hinv)))
  · (refine hKL _ _ _ ⟨k+1,by omega,iS hinv (by assumption)⟩ (by omega) (by(try dsimp only);omega) (bU (Nat.le_refl _) (by repeat' (first| (with_reducible first|exact C1|refine C2 ?_ ?_)| ((with_reducible refine C0 ?_);exact CH (by assumption))| ((with_reducible refine D0 ?_);first|exact CA rfl|refine CJ ?_)|fail))))
 ·repeat' (first| (with_reducible first| (refine hK _ _ _ ?_;clear hK K)| (refine hB ?_;clear hA hB A B)|refine Z1 ?_|refine Z5 (by omega) ?_|refine hKX _ _ _ ?_)| (with_reducible first|refine Y2 fun K hK=> ?_|refine Y3 fun A B hA hB=> ?_)<;>(simp only[go_sem])| ((with_reducible first|refine Y8 ?_|refine Y9 ?_);try simp only[AQ.then,AQ.blk,reduceIte,Nat.reduceEqDiff])|fail)
  ·refine aZ hQ _ rfl rfl (qA (Eq.symm (tI fun i hi=>hinv i (by omega))))
theorem wO {l:List Int} {f:FuncId} {caps caps0:List D1} {p:Int→Bool} {d:D} (hl:l.length<2^40) (hc:caps.all D1.dQ=true) (hd:CvD H (fun _=>True) id 0 (dS (l.map aJ)) d) (hk:CvD H (fun _=>True) id 0 (.one (.c (.clo f caps))) (.one (.c (.clo f caps0)))) (hf: ∀x∈l,∀(H:aA) (nx:Nat) (K:D→aA→Nat→Prop),K (dB (p x)) H nx→aB Tryz.prog f (dI x::caps.map fun d=>.one (.c d)) H nx K)
 (h:K (dI (bK p l)) H nx):aB Tryz.prog fF [d,.one (.c (.clo f caps0))] H nx K:=
 (wN l f caps p hl hc hf).pure rfl (aI ⟨hd,hk,trivial⟩) fun r hr=>hr▸h
theorem sR (l:List Int) (f:FuncId) (caps:List D1) (p:Int→Bool) (hl:l.length<2^40) (hc:caps.all D1.dQ=true) (hf: ∀x∈l,∀(H:aA) (nx:Nat) (K:D→aA→Nat→Prop),K (dB (p x)) H nx→aB Tryz.prog f (dI x::caps.map fun d=>.one (.c d)) H nx K):
 aB Tryz.prog bN [dS (l.map aJ),.one (.c (.clo f caps))] .nil 0 fun r _ _=>r.plain=true∧r=dB (decide (0≤bK p l)):=by
 refine r8 rfl fun Q hQ=> ?_
 unfold fX
 repeat' (first| (with_reducible first| (refine hK _ _ _ ?_;clear hK K)|refine Z1 ?_)| (first| (with_reducible refine Y2 fun K hK=> ?_)| (refine wO hl hc (aE rfl) (kC hc) hf ?_))<;>(simp only[go_sem])| ((with_reducible refine Y8 ?_);try simp only[AQ.then,AQ.blk,reduceIte,Nat.reduceEqDiff])|fail)
 all_goals exact aZ hQ _ rfl rfl rfl
theorem d8 {l:List Int} {f:FuncId} {caps caps0:List D1} {p:Int→Bool} {d:D} (hl:l.length<2^40) (hc:caps.all D1.dQ=true) (hd:CvD H (fun _=>True) id 0 (dS (l.map aJ)) d) (hk:CvD H (fun _=>True) id 0 (.one (.c (.clo f caps))) (.one (.c (.clo f caps0)))) (hf: ∀x∈l,∀(H:aA) (nx:Nat) (K:D→aA→Nat→Prop),K (dB (p x)) H nx→aB Tryz.prog f (dI x::caps.map fun d=>.one (.c d)) H nx K)
 (h:K (dB (decide (0≤bK p l))) H nx):aB Tryz.prog bN [d,.one (.c (.clo f caps0))] H nx K:=
 (sR l f caps p hl hc hf).pure rfl (aI ⟨hd,hk,trivial⟩) fun r hr=>hr▸h
theorem au3 (l:List Job) (f:FuncId) (caps:List D1) (p:Job→Bool) (hl:l.length<2^40) (hc:caps.all D1.dQ=true) (hf: ∀x∈l,∀(H:aA) (nx:Nat) (K:D→aA→Nat→Prop),K (dB (p x)) H nx→aB Tryz.prog f (dA (aS x)::caps.map fun d=>.one (.c d)) H nx K):
 aB Tryz.prog hZ [dS (l.map aS),.one (.c (.clo f caps))] .nil 0 fun r _ _=>r.plain=true∧r=dI (bK p l):=by
 refine auZ rfl fun Q hQ=> ?_
 unfold atW
 repeat' (first| (with_reducible first| (refine hK _ _ _ ?_;clear hK K)|refine Z1 ?_|refine Z3 fun KB hKB=> ?_)| (with_reducible refine Y2 fun K hK=> ?_)<;>(simp only[go_sem])|fail)
 (have hKX:=hKB;clear hKB);(refine aM.loop (α:={k:Nat//k≤l.length∧(∀i,i<k→p (l.getD i default)=false)}) (fun u=>en [(8,dI u.1),(7,dI l.length),(1,.one (.c (.clo f caps))),(0,dS (l.map aS))]) (fun _=>.nil) _ (fun u=>l.length-u.1) ⟨0,by omega,(by intros;first|trivial|omega)⟩ (bU (Nat.le_refl _) (by repeat' (first| (with_reducible first|exact C1|refine C2 ?_ ?_)| ((with_reducible refine C0 ?_);exact CH (by assumption))| ((with_reducible refine D0 ?_);first|exact CA rfl|refine CJ ?_)|fail))) ?_);(rintro⟨k,hk,hinv⟩ KL hKL)
 by_cases hlt:k<l.length
 ·have hmem:l.getD k default∈l:=by simp[List.getD,hlt]
  repeat' (first| (with_reducible first| (refine hK _ _ _ ?_;clear hK K)| (refine hA ?_;clear hA hB A B)| (refine hB ?_;clear hA hB A B)|refine Z1 ?_|refine Z2 ?_|refine Z3 fun KB hKB=> ?_|refine Z4 (by omega) ?_)| (first| (with_reducible first|refine Y2 fun K hK=> ?_|refine Y3 fun A B hA hB=> ?_)| (with_reducible refine hf _ hmem _ _ _ ?_))<;>(simp only[go_sem];try simp (disch:=omega) only[Iw])| ((with_reducible refine Y8 ?_);try simp only[AQ.then,AQ.blk,reduceIte,Nat.reduceEqDiff])| ((with_reducible refine Y0 ?_);simp only[AQ.then,AQ.blk])| ((with_reducible refine Z8 (fun h=> ?_) (fun h=> ?_))<;>try subst h)|refine⟨by omega,?_⟩| (with_reducible refine hKB _ _ _ ?_)|fail)
  ·refine aZ hQ _ rfl rfl (qA (Eq.symm (CU (by omega) (by assumption) hinv)))
  · (refine hKL _ _ _ ⟨k+1,by omega,iS hinv (by assumption)⟩ (by omega) (by(try dsimp only);omega) (bU (Nat.le_refl _) (by repeat' (first| (with_reducible first|exact C1|refine C2 ?_ ?_)| ((with_reducible refine C0 ?_);exact CH (by assumption))| ((with_reducible refine D0 ?_);first|exact CA rfl|refine CJ ?_)|fail))))
 ·repeat' (first| (with_reducible first| (refine hK _ _ _ ?_;clear hK K)| (refine hB ?_;clear hA hB A B)|refine Z1 ?_|refine Z5 (by omega) ?_|refine hKX _ _ _ ?_)| (with_reducible first|refine Y2 fun K hK=> ?_|refine Y3 fun A B hA hB=> ?_)<;>(simp only[go_sem])| ((with_reducible first|refine Y8 ?_|refine Y9 ?_);try simp only[AQ.then,AQ.blk,reduceIte,Nat.reduceEqDiff])|fail)
  ·refine aZ hQ _ rfl rfl (qA (Eq.symm (tI fun i hi=>hinv i (by omega))))
theorem at6 {l:List Job} {f:FuncId} {caps caps0:List D1} {p:Job→Bool} {d:D} (hl:l.length<2^40) (hc:caps.all D1.dQ=true) (hd:CvD H (fun _=>True) id 0 (dS (l.map aS)) d) (hk:CvD H (fun _=>True) id 0 (.one (.c (.clo f caps))) (.one (.c (.clo f caps0)))) (hf: ∀x∈l,∀(H:aA) (nx:Nat) (K:D→aA→Nat→Prop),K (dB (p x)) H nx→aB Tryz.prog f (dA (aS x)::caps.map fun d=>.one (.c d)) H nx K)
 (h:K (dI (bK p l)) H nx):aB Tryz.prog hZ [d,.one (.c (.clo f caps0))] H nx K:=
 (au3 l f caps p hl hc hf).pure rfl (aI ⟨hd,hk,trivial⟩) fun r hr=>hr▸h
theorem auU (l:List Job) (f:FuncId) (caps:List D1) (p:Job→Bool) (hl:l.length<2^40) (hc:caps.all D1.dQ=true) (hf: ∀x∈l,∀(H:aA) (nx:Nat) (K:D→aA→Nat→Prop),K (dB (p x)) H nx→aB Tryz.prog f (dA (aS x)::caps.map fun d=>.one (.c d)) H nx K):
 aB Tryz.prog wB [dS (l.map aS),.one (.c (.clo f caps))] .nil 0 fun r _ _=>r.plain=true∧r=dB (decide (0≤bK p l)):=by
 refine auP rfl fun Q hQ=> ?_
 unfold atT
 repeat' (first| (with_reducible first| (refine hK _ _ _ ?_;clear hK K)| (refine hA ?_;clear hA hB A B)| (refine hB ?_;clear hA hB A B)|refine Z1 ?_|refine Z2 ?_|refine Z3 fun KB hKB=> ?_|refine Z4 (by omega) ?_|refine Z5 (by omega) ?_|refine Z6 (fun h=> ?_) fun h=> ?_|refine Z7 (fun h=> ?_) fun h=> ?_|refine fun(cap:Nat) (hcap:_≤cap)=> ?_|refine fun(hcp:_≤cap)=> ?_|refine fun(b:Bool)=> ?_|refine hKX _ _ _ ?_|refine hKY _ _ _ ?_|refine hKZ _ _ _ ?_)| (first| (with_reducible first|refine Y1 fun K hK=> ?_|refine Y2 fun K hK=> ?_|refine Y3 fun A B hA hB=> ?_|refine Y4 (by omega) ?_|refine Y5 (by omega) ?_|refine Y6 (fun h=> ?_) fun h=> ?_| (refine Y7 (fun h=> ?_) (fun h=> ?_)<;>try subst h))| (refine at6 hl hc (aE rfl) (kC hc) hf ?_))<;>(simp only[go_sem];try simp (disch:=omega) only[Iw])| ((with_reducible first|refine Y8 ?_|refine Y9 ?_);try simp only[AQ.then,AQ.blk,reduceIte,Nat.reduceEqDiff])| ((with_reducible refine Y0 ?_);simp only[AQ.then,AQ.blk])| ((with_reducible refine Z8 (fun h=> ?_) (fun h=> ?_))<;>try subst h)|refine⟨by omega,?_⟩| (refine⟨by(rw[List.length_take];omega),?_⟩)| (with_reducible first|refine hKB _ _ _ ?_| (clear hKB KB;refine hKB _ _ _ ?_)| (clear hKB KB;clear hKB KB;refine hKB _ _ _ ?_))|fail)
 all_goals exact aZ hQ _ rfl rfl rfl
theorem auS {l:List Job} {f:FuncId} {caps caps0:List D1} {p:Job→Bool} {d:D} (hl:l.length<2^40) (hc:caps.all D1.dQ=true) (hd:CvD H (fun _=>True) id 0 (dS (l.map aS)) d) (hk:CvD H (fun _=>True) id 0 (.one (.c (.clo f caps))) (.one (.c (.clo f caps0)))) (hf: ∀x∈l,∀(H:aA) (nx:Nat) (K:D→aA→Nat→Prop),K (dB (p x)) H nx→aB Tryz.prog f (dA (aS x)::caps.map fun d=>.one (.c d)) H nx K)
 (h:K (dB (decide (0≤bK p l))) H nx):aB Tryz.prog wB [d,.one (.c (.clo f caps0))] H nx K:=
 (auU l f caps p hl hc hf).pure rfl (aI ⟨hd,hk,trivial⟩) fun r hr=>hr▸h
theorem qH (l:List Req) (f:FuncId) (caps:List D1) (p:Req→Bool) (hl:l.length<2^40) (hc:caps.all D1.dQ=true) (hf: ∀x∈l,∀(H:aA) (nx:Nat) (K:D→aA→Nat→Prop),K (dB (p x)) H nx→aB Tryz.prog f (dA (eB x)::caps.map fun d=>.one (.c d)) H nx K):
 aB Tryz.prog dC [dS (l.map eB),.one (.c (.clo f caps))] .nil 0 fun r _ _=>r.plain=true∧r=dI (bK p l):=by
 refine pO rfl fun Q hQ=> ?_
 unfold eV
 repeat' (first| (with_reducible first| (refine hK _ _ _ ?_;clear hK K)|refine Z1 ?_|refine Z3 fun KB hKB=> ?_)| (with_reducible refine Y2 fun K hK=> ?_)<;>(simp only[go_sem])|fail)
 (have hKX:=hKB;clear hKB);(refine aM.loop (α:={k:Nat//k≤l.length∧(∀i,i<k→p (l.getD i default)=false)}) (fun u=>en [(8,dI u.1),(7,dI l.length),(1,.one (.c (.clo f caps))),(0,dS (l.map eB))]) (fun _=>.nil) _ (fun u=>l.length-u.1) ⟨0,by omega,(by intros;first|trivial|omega)⟩ (bU (Nat.le_refl _) (by repeat' (first| (with_reducible first|exact C1|refine C2 ?_ ?_)| ((with_reducible refine C0 ?_);exact CH (by assumption))| ((with_reducible refine D0 ?_);first|exact CA rfl|refine CJ ?_)|fail))) ?_);(rintro⟨k,hk,hinv⟩ KL hKL)
 by_cases hlt:k<l.length
 ·have hmem:l.getD k default∈l:=by simp[List.getD,hlt]
  repeat' (first| (with_reducible first| (refine hK _ _ _ ?_;clear hK K)| (refine hA ?_;clear hA hB A B)| (refine hB ?_;clear hA hB A B)|refine Z1 ?_|refine Z2 ?_|refine Z3 fun KB hKB=> ?_|refine Z4 (by omega) ?_)| (first| (with_reducible first|refine Y2 fun K hK=> ?_|refine Y3 fun A B hA hB=> ?_)| (with_reducible refine hf _ hmem _ _ _ ?_))<;>(simp only[go_sem];try simp (disch:=omega) only[Iw])| ((with_reducible refine Y8 ?_);try simp only[AQ.then,AQ.blk,reduceIte,Nat.reduceEqDiff])| ((with_reducible refine Y0 ?_);simp only[AQ.then,AQ.blk])| ((with_reducible refine Z8 (fun h=> ?_) (fun h=> ?_))<;>try subst h)|refine⟨by omega,?_⟩| (with_reducible refine hKB _ _ _ ?_)|fail)
  ·refine aZ hQ _ rfl rfl (qA (Eq.symm (CU (by omega) (by assumption) hinv)))
  · (refine hKL _ _ _ ⟨k+1,by omega,iS hinv (by assumption)⟩ (by omega) (by(try dsimp only);omega) (bU (Nat.le_refl _) (by repeat' (first| (with_reducible first|exact C1|refine C2 ?_ ?_)| ((with_reducible refine C0 ?_);exact CH (by assumption))| ((with_reducible refine D0 ?_);first|exact CA rfl|refine CJ ?_)|fail))))
 ·repeat' (first| (with_reducible first| (refine hK _ _ _ ?_;clear hK K)| (refine hB ?_;clear hA hB A B)|refine Z1 ?_|refine Z5 (by omega) ?_|refine hKX _ _ _ ?_)| (with_reducible first|refine Y2 fun K hK=> ?_|refine Y3 fun A B hA hB=> ?_)<;>(simp only[go_sem])| ((with_reducible first|refine Y8 ?_|refine Y9 ?_);try simp only[AQ.then,AQ.blk,reduceIte,Nat.reduceEqDiff])|fail)
  ·refine aZ hQ _ rfl rfl (qA (Eq.symm (tI fun i hi=>hinv i (by omega))))
theorem qC {l:List Req} {f:FuncId} {caps caps0:List D1} {p:Req→Bool} {d:D} (hl:l.length<2^40) (hc:caps.all D1.dQ=true) (hd:CvD H (fun _=>True) id 0 (dS (l.map eB)) d) (hk:CvD H (fun _=>True) id 0 (.one (.c (.clo f caps))) (.one (.c (.clo f caps0)))) (hf: ∀x∈l,∀(H:aA) (nx:Nat) (K:D→aA→Nat→Prop),K (dB (p x)) H nx→aB Tryz.prog f (dA (eB x)::caps.map fun d=>.one (.c d)) H nx K)
 (h:K (dI (bK p l)) H nx):aB Tryz.prog dC [d,.one (.c (.clo f caps0))] H nx K:=
 (qH l f caps p hl hc hf).pure rfl (aI ⟨hd,hk,trivial⟩) fun r hr=>hr▸h
theorem nT (l:List Req) (f:FuncId) (caps:List D1) (p:Req→Bool) (hl:l.length<2^40) (hc:caps.all D1.dQ=true) (hf: ∀x∈l,∀(H:aA) (nx:Nat) (K:D→aA→Nat→Prop),K (dB (p x)) H nx→aB Tryz.prog f (dA (eB x)::caps.map fun d=>.one (.c d)) H nx K):
 aB Tryz.prog cN [dS (l.map eB),.one (.c (.clo f caps))] .nil 0 fun r _ _=>r.plain=true∧r=dB (decide (0≤bK p l)):=by
 refine m7 rfl fun Q hQ=> ?_
 unfold dX
 repeat' (first| (with_reducible first| (refine hK _ _ _ ?_;clear hK K)| (refine hA ?_;clear hA hB A B)| (refine hB ?_;clear hA hB A B)|refine Z1 ?_|refine Z2 ?_|refine Z3 fun KB hKB=> ?_|refine Z4 (by omega) ?_|refine Z5 (by omega) ?_|refine Z6 (fun h=> ?_) fun h=> ?_|refine Z7 (fun h=> ?_) fun h=> ?_|refine fun(cap:Nat) (hcap:_≤cap)=> ?_|refine fun(hcp:_≤cap)=> ?_|refine fun(b:Bool)=> ?_|refine hKX _ _ _ ?_|refine hKY _ _ _ ?_|refine hKZ _ _ _ ?_)| (first| (with_reducible first|refine Y1 fun K hK=> ?_|refine Y2 fun K hK=> ?_|refine Y3 fun A B hA hB=> ?_|refine Y4 (by omega) ?_|refine Y5 (by omega) ?_|refine Y6 (fun h=> ?_) fun h=> ?_| (refine Y7 (fun h=> ?_) (fun h=> ?_)<;>try subst h))| (refine qC hl hc (aE rfl) (kC hc) hf ?_))<;>(simp only[go_sem];try simp (disch:=omega) only[Iw])| ((with_reducible first|refine Y8 ?_|refine Y9 ?_);try simp only[AQ.then,AQ.blk,reduceIte,Nat.reduceEqDiff])| ((with_reducible refine Y0 ?_);simp only[AQ.then,AQ.blk])| ((with_reducible refine Z8 (fun h=> ?_) (fun h=> ?_))<;>try subst h)|refine⟨by omega,?_⟩| (refine⟨by(rw[List.length_take];omega),?_⟩)| (with_reducible first|refine hKB _ _ _ ?_| (clear hKB KB;refine hKB _ _ _ ?_)| (clear hKB KB;clear hKB KB;refine hKB _ _ _ ?_))|fail)
 all_goals exact aZ hQ _ rfl rfl rfl
theorem nW {l:List Req} {f:FuncId} {caps caps0:List D1} {p:Req→Bool} {d:D} (hl:l.length<2^40) (hc:caps.all D1.dQ=true) (hd:CvD H (fun _=>True) id 0 (dS (l.map eB)) d) (hk:CvD H (fun _=>True) id 0 (.one (.c (.clo f caps))) (.one (.c (.clo f caps0)))) (hf: ∀x∈l,∀(H:aA) (nx:Nat) (K:D→aA→Nat→Prop),K (dB (p x)) H nx→aB Tryz.prog f (dA (eB x)::caps.map fun d=>.one (.c d)) H nx K)
 (h:K (dB (decide (0≤bK p l))) H nx):aB Tryz.prog cN [d,.one (.c (.clo f caps0))] H nx K:=
 (nT l f caps p hl hc hf).pure rfl (aI ⟨hd,hk,trivial⟩) fun r hr=>hr▸h
theorem oH (l:List (List Req)) (f:FuncId) (caps:List D1) (p:(List Req)→Bool) (hl:l.length<2^40) (hc:caps.all D1.dQ=true) (hf: ∀x∈l,∀(H:aA) (nx:Nat) (K:D→aA→Nat→Prop),K (dB (p x)) H nx→aB Tryz.prog f (dS (x.map eB)::caps.map fun d=>.one (.c d)) H nx K):
 aB Tryz.prog cT [dS (l.map jR),.one (.c (.clo f caps))] .nil 0 fun r _ _=>r.plain=true∧r=dI (bK p l):=by
 refine nU rfl fun Q hQ=> ?_
 unfold eD
 repeat' (first| (with_reducible first| (refine hK _ _ _ ?_;clear hK K)|refine Z1 ?_|refine Z3 fun KB hKB=> ?_)| (with_reducible refine Y2 fun K hK=> ?_)<;>(simp only[go_sem])|fail)
 (have hKX:=hKB;clear hKB);(refine aM.loop (α:={k:Nat//k≤l.length∧(∀i,i<k→p (l.getD i default)=false)}) (fun u=>en [(8,dI u.1),(7,dI l.length),(1,.one (.c (.clo f caps))),(0,dS (l.map jR))]) (fun _=>.nil) _ (fun u=>l.length-u.1) ⟨0,by omega,(by intros;first|trivial|omega)⟩ (bU (Nat.le_refl _) (by repeat' (first| (with_reducible first|exact C1|refine C2 ?_ ?_)| ((with_reducible refine C0 ?_);exact CH (by assumption))| ((with_reducible refine D0 ?_);first|exact CA rfl|refine CJ ?_)|fail))) ?_);(rintro⟨k,hk,hinv⟩ KL hKL)
 by_cases hlt:k<l.length
 ·have hmem:l.getD k default∈l:=by simp[List.getD,hlt]
  repeat' (first| (with_reducible first| (refine hK _ _ _ ?_;clear hK K)| (refine hA ?_;clear hA hB A B)| (refine hB ?_;clear hA hB A B)|refine Z1 ?_|refine Z2 ?_|refine Z3 fun KB hKB=> ?_|refine Z4 (by omega) ?_)| (first| (with_reducible first|refine Y2 fun K hK=> ?_|refine Y3 fun A B hA hB=> ?_)| (with_reducible refine hf _ hmem _ _ _ ?_))<;>(simp only[go_sem];try simp (disch:=omega) only[Iw])| ((with_reducible refine Y8 ?_);try simp only[AQ.then,AQ.blk,reduceIte,Nat.reduceEqDiff])| ((with_reducible refine Y0 ?_);simp only[AQ.then,AQ.blk])| ((with_reducible refine Z8 (fun h=> ?_) (fun h=> ?_))<;>try subst h)|refine⟨by omega,?_⟩| (with_reducible refine hKB _ _ _ ?_)|fail)
  ·refine aZ hQ _ rfl rfl (qA (Eq.symm (CU (by omega) (by assumption) hinv)))
  · (refine hKL _ _ _ ⟨k+1,by omega,iS hinv (by assumption)⟩ (by omega) (by(try dsimp only);omega) (bU (Nat.le_refl _) (by repeat' (first| (with_reducible first|exact C1|refine C2 ?_ ?_)| ((with_reducible refine C0 ?_);exact CH (by assumption))| ((with_reducible refine D0 ?_);first|exact CA rfl|refine CJ ?_)|fail))))
 ·repeat' (first| (with_reducible first| (refine hK _ _ _ ?_;clear hK K)| (refine hB ?_;clear hA hB A B)|refine Z1 ?_|refine Z5 (by omega) ?_|refine hKX _ _ _ ?_)| (with_reducible first|refine Y2 fun K hK=> ?_|refine Y3 fun A B hA hB=> ?_)<;>(simp only[go_sem])| ((with_reducible first|refine Y8 ?_|refine Y9 ?_);try simp only[AQ.then,AQ.blk,reduceIte,Nat.reduceEqDiff])|fail)
  ·refine aZ hQ _ rfl rfl (qA (Eq.symm (tI fun i hi=>hinv i (by omega))))
theorem oN {l:List (List Req)} {f:FuncId} {caps caps0:List D1} {p:(List Req)→Bool} {d:D} (hl:l.length<2^40) (hc:caps.all D1.dQ=true) (hd:CvD H (fun _=>True) id 0 (dS (l.map jR)) d) (hk:CvD H (fun _=>True) id 0 (.one (.c (.clo f caps))) (.one (.c (.clo f caps0)))) (hf: ∀x∈l,∀(H:aA) (nx:Nat) (K:D→aA→Nat→Prop),K (dB (p x)) H nx→aB Tryz.prog f (dS (x.map eB)::caps.map fun d=>.one (.c d)) H nx K)
 (h:K (dI (bK p l)) H nx):aB Tryz.prog cT [d,.one (.c (.clo f caps0))] H nx K:=
 (oH l f caps p hl hc hf).pure rfl (aI ⟨hd,hk,trivial⟩) fun r hr=>hr▸h
theorem mJ (l:List (List Req)) (f:FuncId) (caps:List D1) (p:(List Req)→Bool) (hl:l.length<2^40) (hc:caps.all D1.dQ=true) (hf: ∀x∈l,∀(H:aA) (nx:Nat) (K:D→aA→Nat→Prop),K (dB (p x)) H nx→aB Tryz.prog f (dS (x.map eB)::caps.map fun d=>.one (.c d)) H nx K):
 aB Tryz.prog cF [dS (l.map jR),.one (.c (.clo f caps))] .nil 0 fun r _ _=>r.plain=true∧r=dB (decide (0≤bK p l)):=by
 refine l7 rfl fun Q hQ=> ?_
 unfold dG
 repeat' (first| (with_reducible first| (refine hK _ _ _ ?_;clear hK K)| (refine hA ?_;clear hA hB A B)| (refine hB ?_;clear hA hB A B)|refine Z1 ?_|refine Z2 ?_|refine Z3 fun KB hKB=> ?_|refine Z4 (by omega) ?_|refine Z5 (by omega) ?_|refine Z6 (fun h=> ?_) fun h=> ?_|refine Z7 (fun h=> ?_) fun h=> ?_|refine fun(cap:Nat) (hcap:_≤cap)=> ?_|refine fun(hcp:_≤cap)=> ?_|refine fun(b:Bool)=> ?_|refine hKX _ _ _ ?_|refine hKY _ _ _ ?_|refine hKZ _ _ _ ?_)| (first| (with_reducible first|refine Y1 fun K hK=> ?_|refine Y2 fun K hK=> ?_|refine Y3 fun A B hA hB=> ?_|refine Y4 (by omega) ?_|refine Y5 (by omega) ?_|refine Y6 (fun h=> ?_) fun h=> ?_| (refine Y7 (fun h=> ?_) (fun h=> ?_)<;>try subst h))| (refine oN hl hc (aE rfl) (kC hc) hf ?_))<;>(simp only[go_sem];try simp (disch:=omega) only[Iw])| ((with_reducible first|refine Y8 ?_|refine Y9 ?_);try simp only[AQ.then,AQ.blk,reduceIte,Nat.reduceEqDiff])| ((with_reducible refine Y0 ?_);simp only[AQ.then,AQ.blk])| ((with_reducible refine Z8 (fun h=> ?_) (fun h=> ?_))<;>try subst h)|refine⟨by omega,?_⟩| (refine⟨by(rw[List.length_take];omega),?_⟩)| (with_reducible first|refine hKB _ _ _ ?_| (clear hKB KB;refine hKB _ _ _ ?_)| (clear hKB KB;clear hKB KB;refine hKB _ _ _ ?_))|fail)
 all_goals exact aZ hQ _ rfl rfl rfl
theorem mS {l:List (List Req)} {f:FuncId} {caps caps0:List D1} {p:(List Req)→Bool} {d:D} (hl:l.length<2^40) (hc:caps.all D1.dQ=true) (hd:CvD H (fun _=>True) id 0 (dS (l.map jR)) d) (hk:CvD H (fun _=>True) id 0 (.one (.c (.clo f caps))) (.one (.c (.clo f caps0)))) (hf: ∀x∈l,∀(H:aA) (nx:Nat) (K:D→aA→Nat→Prop),K (dB (p x)) H nx→aB Tryz.prog f (dS (x.map eB)::caps.map fun d=>.one (.c d)) H nx K)
 (h:K (dB (decide (0≤bK p l))) H nx):aB Tryz.prog cF [d,.one (.c (.clo f caps0))] H nx K:=
 (mJ l f caps p hl hc hf).pure rfl (aI ⟨hd,hk,trivial⟩) fun r hr=>hr▸h
end
end Go.Proofs.YtegiblhkjfiooaaGreat
end
