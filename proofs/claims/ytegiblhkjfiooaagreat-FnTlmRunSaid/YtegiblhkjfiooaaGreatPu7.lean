/- Texts laid together by a program: rules, contracts and the walk that leads to the law. -/
import Derived.Test.YtegiblhkjfiooaaGreatPu3
set_option linter.unusedVariables false
set_option linter.unusedSimpArgs false
set_option linter.unusedSectionVars false
namespace Go.Proofs.YtegiblhkjfiooaaGreat
open Go Go.AM
set_option maxRecDepth 100000
def u3:AC:=
 (.seq (.region [rq 0 2 (.box true (.tm 0)),
 rq 1 3 (.move (.kv (.bool false)))] 2 [1,2])
 (.seq (.region [RF 0 4 0 2,
 RL 1 5 4,
 RF 2 6 1 1,
 RL 3 7 6,
 rq 4 8 (.bin .leq (.tm 5) (.tm 7)),
 RM 5 9 8,
 GQ 6 10 (.fld 0 (.tm 1)) 9 true,
 GQ 7 11 (.load 1 false (.tm 10)) 9 true,
 GQ 8 12 (.fld 1 (.tm 2)) 9 true,
 GQ 9 13 (.load 1 false (.tm 12)) 9 true,
 GQ 10 14 (.bin .leq (.tm 11) (.tm 13)) 9 true,
 rq 11 15 (.pick (.tm 9) (.tm 14) (.kv (.bool false))),
 RM 12 3 15] 13 [3])
 .ret))
def O9:List Cert:=[⟨[],[1,2]⟩,⟨[],[3]⟩]
def DO:List aW:=[.tm 3]
theorem OP:aO Tryz.prog Tryz.f180 O9=some (u3,DO):=by kernel_rfl
theorem N2:aN Tryz.prog rE Tryz.f180 u3 DO:=
 aN.mk Tryz.func180 (by kernel_rfl) OP
def gX:AC:=
 (.seq (.region [rq 0 4 (.move (ki 0))] 1 [0,1])
 (.seq (.seq (.region [RM 0 6 0,
 rq 1 7 (.len false (.tm 6)),
 rq 2 8 (.move (ki 0))] 3 [0,1,7,8])
 (.block 0
 (.loop
 (.seq (.region [rq 0 9 (.bin .lss (.tm 8) (.tm 7))] 1 [0,1,7,8,9])
 (.seq (.cond (.tm 9)
 .skip
 (.exit 0))
 (.seq (.block 1
 (.seq (.region [RM 0 10 8,
 RM 1 5 10] 2 [0,1,5,7,8])
 (.seq (.region [RM 0 11 1,
 RM 1 12 0,
 RM 2 13 5,
 rq 3 14 (.idx 1 (.tm 12) (.tm 13)),
 RL 4 15 14,
 rq 5 16 (.t5 (.tm 11) [(.tm 15)])] 6 [0,1,5,7,8,16])
 (.cond (.tm 16)
 (.seq (.region [RM 0 17 5,
 RM 1 4 17] 2 [4])
 .ret)
 .skip))))
 (.region [rq 0 18 (.bin .add (.tm 8) (ki 1)),
 RM 1 8 18] 2 [0,1,7,8])))))))
 (.seq (.region [rq 0 4 (.move (.kv (.int .i64 (-1))))] 1 [4])
 .ret)))
def vB:List Cert:=[⟨[],[0,1]⟩,⟨[],[0,1,7,8]⟩,⟨[],[0,1,7,8,9]⟩,⟨[],[0,1,5,7,8]⟩,⟨[],[0,1,5,7,8,16]⟩,⟨[],[4]⟩,⟨[],[0,1,7,8]⟩,⟨[],[4]⟩]
def lE:List aW:=[.tm 4]
theorem vL:aO Tryz.prog Tryz.f181 vB=some (gX,lE):=by kernel_rfl
theorem uY:aN Tryz.prog fF Tryz.f181 gX lE:=
 aN.mk Tryz.func181 (by kernel_rfl) vL
def eD:AC:=
 (.seq (.region [rq 0 4 (.move (ki 0))] 1 [0,1])
 (.seq (.seq (.region [RM 0 6 0,
 rq 1 7 (.len false (.tm 6)),
 rq 2 8 (.move (ki 0))] 3 [0,1,7,8])
 (.block 0
 (.loop
 (.seq (.region [rq 0 9 (.bin .lss (.tm 8) (.tm 7))] 1 [0,1,7,8,9])
 (.seq (.cond (.tm 9)
 .skip
 (.exit 0))
 (.seq (.block 1
 (.seq (.region [RM 0 10 8,
 RM 1 5 10] 2 [0,1,5,7,8])
 (.seq (.region [RM 0 11 1,
 RM 1 12 0,
 RM 2 13 5,
 rq 3 14 (.idx 1 (.tm 12) (.tm 13)),
 RL 4 15 14,
 rq 5 16 (.t5 (.tm 11) [(.tm 15)])] 6 [0,1,5,7,8,16])
 (.cond (.tm 16)
 (.seq (.region [RM 0 17 5,
 RM 1 4 17] 2 [4])
 .ret)
 .skip))))
 (.region [rq 0 18 (.bin .add (.tm 8) (ki 1)),
 RM 1 8 18] 2 [0,1,7,8])))))))
 (.seq (.region [rq 0 4 (.move (.kv (.int .i64 (-1))))] 1 [4])
 .ret)))
def nV:List Cert:=[⟨[],[0,1]⟩,⟨[],[0,1,7,8]⟩,⟨[],[0,1,7,8,9]⟩,⟨[],[0,1,5,7,8]⟩,⟨[],[0,1,5,7,8,16]⟩,⟨[],[4]⟩,⟨[],[0,1,7,8]⟩,⟨[],[4]⟩]
def hT:List aW:=[.tm 4]
theorem nQ:aO Tryz.prog Tryz.f182 nV=some (eD,hT):=by kernel_rfl
theorem nU:aN Tryz.prog cT Tryz.f182 eD hT:=
 aN.mk Tryz.func182 (by kernel_rfl) nQ
def sO:AC:=
 (.seq (.region [rq 0 2 (.move (.kv (.bool false)))] 1 [0])
 (.seq (.region [RM 0 3 0,
 rq 1 4 (.call bN [(.tm 3),(.fn lX)]),
 rq 2 5 (.un .not (.tm 4)),
 RM 3 2 5] 4 [2])
 .ret))
def MO:List Cert:=[⟨[],[0]⟩,⟨[],[2]⟩]
def BP:List aW:=[.tm 2]
theorem L9:aO Tryz.prog Tryz.f183 MO=some (sO,BP):=by kernel_rfl
theorem NB:aN Tryz.prog jB Tryz.f183 sO BP:=
 aN.mk Tryz.func183 (by kernel_rfl) L9
def vC:AC:=
 (.seq (.region [rq 0 2 (.move (.kv (.bool false)))] 1 [0])
 (.seq (.region [RM 0 3 0,
 rq 1 4 (.call cQ [(.tm 3),(ki 0),(ki 3)]),
 rq 2 5 (.un .not (.tm 4)),
 RM 3 2 5] 4 [2])
 .ret))
def O1:List Cert:=[⟨[],[0]⟩,⟨[],[2]⟩]
def D3:List aW:=[.tm 2]
theorem N5:aO Tryz.prog Tryz.f184 O1=some (vC,D3):=by kernel_rfl
theorem ON:aN Tryz.prog rT Tryz.f184 vC D3:=
 aN.mk Tryz.func184 (by kernel_rfl) N5
def kB:AC:=
 (.seq (.region [rq 0 2 (.move (.kv (.slice none 0 0)))] 1 [0])
 (.seq (.region [RM 0 3 0,
 RM 1 4 0,
 rq 2 5 (.len false (.tm 4)),
 RM 3 6 0,
 rq 4 7 (.len false (.tm 6)),
 rq 5 8 (.slc 1 (.tm 3) none (some (.tm 5)) (some (.tm 7))),
 RM 6 2 8] 7 [2])
 .ret))
def A7:List Cert:=[⟨[],[0]⟩,⟨[],[2]⟩]
def pX:List aW:=[.tm 2]
theorem A6:aO Tryz.prog Tryz.f187 A7=some (kB,pX):=by kernel_rfl
theorem BK:aN Tryz.prog iD Tryz.f187 kB pX:=
 aN.mk Tryz.func187 (by kernel_rfl) A6
def jL:AC:=
 (.seq (.region [rq 0 2 (.move (.kv (.slice none 0 0)))] 1 [0])
 (.seq (.seq (.region [RM 0 3 0,
 rq 1 4 (.xop (.qJ false) [(.tm 3)])] 2 [0,4])
 (.cond (.tm 4)
 (.seq (.region [rq 0 2 (.move (.kv (.slice none 0 0)))] 1 [2])
 .ret)
 .skip))
 (.seq (.region [rq 0 5 (.bC 1 0 [VZ] []),
 RM 1 6 0,
 rq 2 7 (.append 1 (.tm 5) (.tm 6)),
 RM 3 2 7] 4 [2])
 .ret)))
def zK:List Cert:=[⟨[],[0]⟩,⟨[],[0,4]⟩,⟨[],[2]⟩,⟨[],[2]⟩]
def n7:List aW:=[.tm 2]
theorem AB:aO Tryz.prog Tryz.f188 zK=some (jL,n7):=by kernel_rfl
theorem zU:aN Tryz.prog gO Tryz.f188 jL n7:=
 aN.mk Tryz.func188 (by kernel_rfl) AB
def u5:AC:=
 (.seq (.region [rq 0 3 (.box false (.tm 1)),
 rq 1 4 (.move (ki 0))] 2 [0,3])
 (.seq (.region [RM 0 5 0,
 rq 1 6 (.xop (.zI nJ) [(.tm 3)]),
 rq 2 7 (.call bR [(.tm 5),(.tm 6)]),
 RM 3 4 7] 4 [4])
 .ret))
def OF:List Cert:=[⟨[],[0,3]⟩,⟨[],[4]⟩]
def DX:List aW:=[.tm 4]
theorem N7:aO Tryz.prog Tryz.f204 OF=some (u5,DX):=by kernel_rfl
theorem O4:aN Tryz.prog qX Tryz.f204 u5 DX:=
 aN.mk Tryz.func204 (by kernel_rfl) N7
def aBN:AC:=
 (.seq (.region [rq 0 6 (.move (.kv (.bool false)))] 1 [0,1,2])
 (.seq (.seq (.region [RM 0 7 0,
 rq 1 8 (.call y2 [(.tm 7),(ki 0),(ki 63)]),
 rq 2 9 (.un .not (.tm 8)),
 RM 3 10 9,
 GQ 4 11 (.move (.tm 1)) 10 false,
 GQ 5 12 (.bin .neq (.tm 11) (ki 1)) 10 false,
 GQ 6 13 (.move (.tm 12)) 10 false,
 GQ 7 14 (.move (.tm 1)) 13 true,
 GQ 8 15 (.bin .neq (.tm 14) (ki 2)) 13 true,
 GQ 9 16 (.pick (.tm 13) (.tm 15) (.kv (.bool false))) 10 false,
 GQ 10 17 (.move (.tm 16)) 10 false,
 GQ 11 18 (.move (.tm 1)) 17 true,
 GQ 12 19 (.bin .neq (.tm 18) (ki 4)) 17 true,
 GQ 13 20 (.pick (.tm 17) (.tm 19) (.kv (.bool false))) 10 false,
 rq 14 21 (.pick (.tm 10) (.kv (.bool true)) (.tm 20))] 15 [0,1,2,21])
 (.cond (.tm 21)
 (.seq (.region [rq 0 6 (.move (.kv (.bool false)))] 1 [6])
 .ret)
 .skip))
 (.seq (.region [RM 0 22 2,
 RM 1 23 22,
 GQ 2 24 (.move (.tm 0)) 23 false,
 GQ 3 25 (.move (.tm 1)) 23 false,
 GQ 4 26 (.bin .add (.tm 24) (.tm 25)) 23 false,
 GQ 5 27 (.bin .sub (.tm 26) (ki 1)) 23 false,
 GQ 6 28 (.bin .leq (.tm 27) (ki 63)) 23 false,
 rq 7 29 (.pick (.tm 23) (.kv (.bool true)) (.tm 28)),
 RM 8 6 29] 9 [6])
 .ret)))
def aDT:List Cert:=[⟨[],[0,1,2]⟩,⟨[],[0,1,2,21]⟩,⟨[],[6]⟩,⟨[],[6]⟩]
def aB2:List aW:=[.tm 6]
theorem aDS:aO Tryz.prog Tryz.f205 aDT=some (aBN,aB2):=by kernel_rfl
theorem aDX:aN Tryz.prog aA6 Tryz.f205 aBN aB2:=
 aN.mk Tryz.func205 (by kernel_rfl) aDS
def aBB:AC:=
 (.seq (.region [rq 0 1 (.box true (.tm 0)),
 rq 1 2 (.move (.kv (.bool false)))] 2 [1])
 (.seq (.region [RF 0 3 1 1,
 RL 1 4 3,
 rq 2 5 (.bin .eql (.tm 4) (ki 2)),
 RM 3 6 5,
 GQ 4 7 (.fld 1 (.tm 1)) 6 false,
 GQ 5 8 (.load 1 false (.tm 7)) 6 false,
 GQ 6 9 (.bin .eql (.tm 8) (ki 4)) 6 false,
 rq 7 10 (.pick (.tm 6) (.kv (.bool true)) (.tm 9)),
 RM 8 2 10] 9 [2])
 .ret))
def aCW:List Cert:=[⟨[],[1]⟩,⟨[],[2]⟩]
def aBR:List aW:=[.tm 2]
theorem aCS:aO Tryz.prog Tryz.f206 aCW=some (aBB,aBR):=by kernel_rfl
theorem aCU:aN Tryz.prog aAZ Tryz.f206 aBB aBR:=
 aN.mk Tryz.func206 (by kernel_rfl) aCS
def aBH:AC:=
 (.seq (.region [rq 0 4 (.move (ki 0))] 1 [0,1])
 (.seq (.seq (.region [rq 0 5 (.move (ki 0))] 1 [0,1,5])
 (.block 0
 (.loop
 (.seq (.seq (.region [RM 0 6 5,
 RM 1 7 0,
 rq 2 8 (.len false (.tm 7)),
 rq 3 9 (.bin .lss (.tm 6) (.tm 8))] 4 [0,1,5,9])
 (.cond (.tm 9)
 .skip
 (.exit 0)))
 (.seq (.block 1
 (.seq (.region [RM 0 12 1,
 RM 1 13 0,
 RM 2 14 5,
 rq 3 15 (.idx 4 (.tm 13) (.tm 14)),
 RF 4 16 0 15,
 RL 5 17 16,
 RM 6 18 0,
 RM 7 19 5,
 rq 8 20 (.idx 4 (.tm 18) (.tm 19)),
 RF 9 21 1 20,
 RL 10 22 21,
 rq 11 23 (.call y2 [(.tm 12),(.tm 17),(.tm 22)])] 12 [0,1,5,23])
 (.cond (.tm 23)
 (.seq (.region [RM 0 24 5,
 RM 1 4 24] 2 [4])
 .ret)
 .skip)))
 (.region [RM 0 10 5,
 rq 1 11 (.bin .add (.tm 10) (ki 1)),
 RM 2 5 11] 3 [0,1,5]))))))
 (.seq (.region [rq 0 4 (.move (.kv (.int .i64 (-1))))] 1 [4])
 .ret)))
def aDL:List Cert:=[⟨[],[0,1]⟩,⟨[],[0,1,5]⟩,⟨[],[0,1,5,9]⟩,⟨[cz 0,cz 1,cz 2,cz 3,cz 4,cz 5,cz 6,cz 7,cz 8,cz 9,cz 10,cz 11],[0,1,5,23]⟩,⟨[],[4]⟩,⟨[],[0,1,5]⟩,⟨[],[4]⟩]
def aBZ:List aW:=[.tm 4]
theorem aDF:aO Tryz.prog Tryz.f207 aDL=some (aBH,aBZ):=by kernel_rfl
theorem aDK:aN Tryz.prog aAX Tryz.f207 aBH aBZ:=
 aN.mk Tryz.func207 (by kernel_rfl) aDF
def gC:AC:=
 (.seq (.region [rq 0 2 (.move (.kv (.slice none 0 0)))] 1 [0])
 (.seq (.seq (.region [RM 0 3 0,
 rq 1 4 (.xop (.qJ false) [(.tm 3)])] 2 [0,4])
 (.cond (.tm 4)
 (.seq (.region [rq 0 2 (.move (.kv (.slice none 0 0)))] 1 [2])
 .ret)
 .skip))
 (.seq (.region [rq 0 5 (.bC 5 0 [VZ,VZ,VZ,VZ,OZ] []),
 RM 1 6 0,
 rq 2 7 (.append 5 (.tm 5) (.tm 6)),
 RM 3 2 7] 4 [2])
 .ret)))
def s8:List Cert:=[⟨[],[0]⟩,⟨[],[0,4]⟩,⟨[],[2]⟩,⟨[],[2]⟩]
def kL:List aW:=[.tm 2]
theorem sU:aO Tryz.prog Tryz.f209 s8=some (gC,kL):=by kernel_rfl
theorem s9:aN Tryz.prog eG Tryz.f209 gC kL:=
 aN.mk Tryz.func209 (by kernel_rfl) sU
def atW:AC:=
 (.seq (.region [rq 0 4 (.move (ki 0))] 1 [0,1])
 (.seq (.seq (.region [RM 0 6 0,
 rq 1 7 (.len false (.tm 6)),
 rq 2 8 (.move (ki 0))] 3 [0,1,7,8])
 (.block 0
 (.loop
 (.seq (.region [rq 0 9 (.bin .lss (.tm 8) (.tm 7))] 1 [0,1,7,8,9])
 (.seq (.cond (.tm 9)
 .skip
 (.exit 0))
 (.seq (.block 1
 (.seq (.region [RM 0 10 8,
 RM 1 5 10] 2 [0,1,5,7,8])
 (.seq (.region [RM 0 11 1,
 RM 1 12 0,
 RM 2 13 5,
 rq 3 14 (.idx 5 (.tm 12) (.tm 13)),
 rq 4 15 (.load 5 true (.tm 14)),
 rq 5 16 (.t5 (.tm 11) [(.tm 15)])] 6 [0,1,5,7,8,16])
 (.cond (.tm 16)
 (.seq (.region [RM 0 17 5,
 RM 1 4 17] 2 [4])
 .ret)
 .skip))))
 (.region [rq 0 18 (.bin .add (.tm 8) (ki 1)),
 RM 1 8 18] 2 [0,1,7,8])))))))
 (.seq (.region [rq 0 4 (.move (.kv (.int .i64 (-1))))] 1 [4])
 .ret)))
def au2:List Cert:=[⟨[],[0,1]⟩,⟨[],[0,1,7,8]⟩,⟨[],[0,1,7,8,9]⟩,⟨[],[0,1,5,7,8]⟩,⟨[],[0,1,5,7,8,16]⟩,⟨[],[4]⟩,⟨[],[0,1,7,8]⟩,⟨[],[4]⟩]
def at2:List aW:=[.tm 4]
theorem au1:aO Tryz.prog Tryz.f210 au2=some (atW,at2):=by kernel_rfl
theorem auZ:aN Tryz.prog hZ Tryz.f210 atW at2:=
 aN.mk Tryz.func210 (by kernel_rfl) au1
def avO:AC:=
 (.seq (.region [rq 0 3 (.box true (.tm 0)),
 rq 1 4 (.move (.kv (.bool false)))] 2 [1,2,3])
 (.seq (.region [RF 0 5 0 3,
 RL 1 6 5,
 RL 2 7 1,
 rq 3 8 (.bin .eql (.tm 6) (.tm 7)),
 RM 4 9 8,
 GQ 5 10 (.fld 1 (.tm 3)) 9 true,
 GQ 6 11 (.load 1 false (.tm 10)) 9 true,
 GQ 7 12 (.load 1 false (.tm 2)) 9 true,
 GQ 8 13 (.bin .eql (.tm 11) (.tm 12)) 9 true,
 rq 9 14 (.pick (.tm 9) (.tm 13) (.kv (.bool false))),
 RM 10 4 14] 11 [4])
 .ret))
def axR:List Cert:=[⟨[],[1,2,3]⟩,⟨[],[4]⟩]
def awE:List aW:=[.tm 4]
theorem axN:aO Tryz.prog Tryz.f211 axR=some (avO,awE):=by kernel_rfl
theorem axO:aN Tryz.prog avA Tryz.f211 avO awE:=
 aN.mk Tryz.func211 (by kernel_rfl) axN
def atT:AC:=
 (.seq (.region [rq 0 4 (.move (.kv (.bool false)))] 1 [0,1])
 (.seq (.region [RM 0 5 0,
 RM 1 6 1,
 rq 2 7 (.call hZ [(.tm 5),(.tm 6)]),
 rq 3 8 (.bin .geq (.tm 7) (ki 0)),
 RM 4 4 8] 5 [4])
 .ret))
def auR:List Cert:=[⟨[],[0,1]⟩,⟨[],[4]⟩]
def at1:List aW:=[.tm 4]
theorem auQ:aO Tryz.prog Tryz.f212 auR=some (atT,at1):=by kernel_rfl
theorem auP:aN Tryz.prog wB Tryz.f212 atT at1:=
 aN.mk Tryz.func212 (by kernel_rfl) auQ
def auI:AC:=
 (.seq (.region [rq 0 3 (.box true (.tm 0)),
 rq 1 4 (.move (.kv (.bool false)))] 2 [1,2,3])
 (.seq (.region [RF 0 5 0 3,
 RL 1 6 5,
 RF 2 7 1 1,
 RL 3 8 7,
 rq 4 9 (.bin .eql (.tm 6) (.tm 8)),
 RM 5 10 9,
 GQ 6 11 (.fld 1 (.tm 3)) 10 true,
 GQ 7 12 (.load 1 false (.tm 11)) 10 true,
 GQ 8 13 (.fld 2 (.tm 1)) 10 true,
 GQ 9 14 (.load 1 false (.tm 13)) 10 true,
 GQ 10 15 (.bin .lss (.tm 12) (.tm 14)) 10 true,
 rq 11 16 (.pick (.tm 10) (.tm 15) (.kv (.bool false))),
 RM 12 17 16,
 GQ 13 18 (.load 3 true (.tm 2)) 17 true,
 GQ 14 19 (.fld 0 (.tm 3)) 17 true,
 GQ 15 20 (.load 1 false (.tm 19)) 17 true,
 GQ 16 21 (.fld 1 (.tm 3)) 17 true,
 GQ 17 22 (.load 1 false (.tm 21)) 17 true,
 ⟨19,(some 24),.load 3 true (.tm 2),(some (17,true)),[],[],true⟩,
 GQ 20 25 (.fld 1 (.tm 1)) 17 true,
 ⟨21,(some 26),.load 1 false (.tm 25),(some (17,true)),[],[],true⟩,
 GQ 22 27 (.fld 2 (.tm 1)) 17 true,
 ⟨23,(some 28),.load 1 false (.tm 27),(some (17,true)),[],[],true⟩,
 ⟨18,(some 23),.call fB [(.tm 18),(.tm 20),(.tm 22)],(some (17,true)),[],[19,21,23],false⟩,
 GQ 24 29 (.call fB [(.tm 24),(.tm 26),(.tm 28)]) 17 true,
 GQ 25 30 (.bin .eql (.tm 23) (.tm 29)) 17 true,
 rq 26 31 (.pick (.tm 17) (.tm 30) (.kv (.bool false))),
 RM 27 4 31] 28 [4])
 .ret))
def av9:List Cert:=[⟨[],[1,2,3]⟩,⟨[cz 0,cz 1,cz 2,cz 3,cz 4,cz 5,cz 6,cz 7,cz 8,cz 9,cz 10,cz 11,cz 12,cz 13,cz 14,cz 15,cz 16,cz 17,(19,[],[],true),cz 20,(21,[],[],true),cz 22,(23,[],[],true),(18,[],[19,21,23],false),cz 24,cz 25,cz 26,cz 27],[4]⟩]
def au8:List aW:=[.tm 4]
theorem awD:aO Tryz.prog Tryz.f213 av9=some (auI,au8):=by kernel_rfl
theorem awC:aN Tryz.prog at5 Tryz.f213 auI au8:=
 aN.mk Tryz.func213 (by kernel_rfl) awD
def rB:AC:=
 (.seq (.region [rq 0 4 (.box true (.tm 1)),
 rq 1 6 (.move (ki 0)),
 rq 2 7 (.move (.kv (.bool false)))] 3 [0,2,4])
 (.seq (.region [RM 0 12 0,
 rq 1 13 (.len false (.tm 12)),
 RM 2 8 13] 3 [0,2,4,8])
 (.seq (.region [RM 0 14 8,
 rq 1 9 (.move (ki 0)),
 RM 2 10 14] 3 [0,2,4,8,9,10])
 (.seq (.block 0
 (.loop
 (.seq (.seq (.region [RM 0 15 9,
 RM 1 16 10,
 rq 2 17 (.bin .lss (.tm 15) (.tm 16))] 3 [0,2,4,8,9,10,17])
 (.cond (.tm 17)
 .skip
 (.exit 0)))
 (.block 1
 (.seq (.region [RM 0 18 9,
 RM 1 19 10,
 rq 2 20 (.bin .add (.tm 18) (.tm 19)),
 rq 3 21 (.conv .u64 (.tm 20)),
 rq 4 22 (.bin .shr (.tm 21) (.kv (.int .u64 1))),
 rq 5 23 (.conv .i64 (.tm 22)),
 RM 6 11 23] 7 [0,2,4,8,9,10,11])
 (.seq (.region [RM 0 24 2,
 RM 1 25 0,
 RM 2 26 11,
 rq 3 27 (.idx 5 (.tm 25) (.tm 26)),
 rq 4 28 (.load 5 true (.tm 27)),
 rq 5 29 (.load 5 true (.tm 4)),
 rq 6 30 (.t5 (.tm 24) [(.tm 28),(.tm 29)]),
 rq 7 31 (.bin .lss (.tm 30) (ki 0))] 8 [0,2,4,8,9,10,11,31])
 (.cond (.tm 31)
 (.region [RM 0 32 11,
 rq 1 33 (.bin .add (.tm 32) (ki 1)),
 RM 2 9 33] 3 [0,2,4,8,9,10])
 (.region [RM 0 34 11,
 RM 1 10 34] 2 [0,2,4,8,9,10]))))))))
 (.seq (.region [RM 0 35 9,
 RM 1 36 9,
 RM 2 37 8,
 rq 3 38 (.bin .lss (.tm 36) (.tm 37)),
 RM 4 39 38,
 GQ 5 40 (.move (.tm 2)) 39 true,
 GQ 6 41 (.move (.tm 0)) 39 true,
 GQ 7 42 (.move (.tm 9)) 39 true,
 GQ 8 43 (.idx 5 (.tm 41) (.tm 42)) 39 true,
 GQ 9 44 (.load 5 true (.tm 43)) 39 true,
 GQ 10 45 (.load 5 true (.tm 4)) 39 true,
 GQ 11 46 (.t5 (.tm 40) [(.tm 44),(.tm 45)]) 39 true,
 GQ 12 47 (.bin .eql (.tm 46) (ki 0)) 39 true,
 rq 13 48 (.pick (.tm 39) (.tm 47) (.kv (.bool false))),
 RM 14 6 35,
 RM 15 7 48] 16 [6,7])
 .ret)))))
def at9:List Cert:=[⟨[],[0,2,4]⟩,⟨[],[0,2,4,8]⟩,⟨[],[0,2,4,8,9,10]⟩,⟨[],[0,2,4,8,9,10,17]⟩,⟨[],[0,2,4,8,9,10,11]⟩,⟨[cz 0,cz 1,cz 2,cz 3,cz 4,cz 5,cz 6,cz 7],[0,2,4,8,9,10,11,31]⟩,⟨[],[0,2,4,8,9,10]⟩,⟨[],[0,2,4,8,9,10]⟩,⟨[cz 0,cz 1,cz 2,cz 3,cz 4,cz 5,cz 6,cz 7,cz 8,cz 9,cz 10,cz 11,cz 12,cz 13,cz 14,cz 15],[6,7]⟩]
def atV:List aW:=[.tm 6,.tm 7]
theorem at8:aO Tryz.prog Tryz.f214 at9=some (rB,atV):=by kernel_rfl
theorem auA:aN Tryz.prog eR Tryz.f214 rB atV:=
 aN.mk Tryz.func214 (by kernel_rfl) at8
def atZ:AC:=
 (.seq (.region [rq 0 6 (.move (.kv (.slice none 0 0)))] 1 [0,1,2])
 (.seq (.region [RM 0 10 0,
 RM 1 11 1,
 rq 2 12 (.slc 5 (.tm 10) (some (.tm 11)) none none)] 3 [0,1,2])
 (.seq (.region [RM 0 13 2,
 rq 1 14 (.len false (.tm 13)),
 RM 2 7 14] 3 [0,1,2,7])
 (.seq (.seq (.region [RM 0 15 7,
 rq 1 16 (.bin .eql (.tm 15) (ki 0))] 2 [0,1,2,7,16])
 (.cond (.tm 16)
 (.seq (.region [RM 0 17 0,
 RM 1 6 17] 2 [6])
 .ret)
 .skip))
 (.seq (.region [RM 0 18 0,
 rq 1 19 (.len false (.tm 18)),
 RM 2 8 19] 3 [0,1,2,7,8])
 (.seq (.seq (.region [RM 0 20 1,
 RM 1 21 8,
 rq 2 22 (.bin .eql (.tm 20) (.tm 21))] 3 [0,1,2,7,8,22])
 (.cond (.tm 22)
 (.seq (.region [RM 0 23 0,
 RM 1 24 2,
 rq 2 25 (.append 5 (.tm 23) (.tm 24)),
 RM 3 6 25] 4 [6])
 .ret)
 .skip))
 (.seq (.seq (.region [RM 0 26 8,
 RM 1 27 7,
 rq 2 28 (.bin .add (.tm 26) (.tm 27)),
 RM 3 29 0,
 rq 4 30 (.cap (.tm 29)),
 rq 5 31 (.bin .gtr (.tm 28) (.tm 30))] 6 [0,1,2,7,8,31])
 (.cond (.tm 31)
 (.seq (.region [RM 0 32 0,
 RM 1 33 1,
 rq 2 34 (.slc 5 (.tm 32) none (some (.tm 33)) none),
 RM 3 35 8,
 RM 4 36 7,
 rq 5 37 (.bin .add (.tm 35) (.tm 36)),
 RM 6 38 1,
 rq 7 39 (.bin .sub (.tm 37) (.tm 38)),
 rq 8 40 (.xop (.adT 5 [VZ,VZ,VZ,VZ,OZ]) [(.tm 34),(.tm 39)]),
 RM 9 9 40] 10 [0,1,2,7,9])
 (.seq (.region [RM 0 41 9,
 RM 1 42 1,
 rq 2 43 (.slc 5 (.tm 41) (some (.tm 42)) none none),
 RM 3 44 2,
 rq 4 45 (.xop (.copy 5) [(.tm 43),(.tm 44)])] 5 [0,1,7,9])
 (.seq (.region [RM 0 46 9,
 RM 1 47 1,
 RM 2 48 7,
 rq 3 49 (.bin .add (.tm 47) (.tm 48)),
 rq 4 50 (.slc 5 (.tm 46) (some (.tm 49)) none none),
 RM 5 51 0,
 RM 6 52 1,
 rq 7 53 (.slc 5 (.tm 51) (some (.tm 52)) none none),
 rq 8 54 (.xop (.copy 5) [(.tm 50),(.tm 53)])] 9 [9])
 (.seq (.region [RM 0 55 9,
 RM 1 6 55] 2 [6])
 .ret))))
 .skip))
 (.seq (.region [RM 0 56 0,
 RM 1 57 8,
 RM 2 58 7,
 rq 3 59 (.bin .add (.tm 57) (.tm 58)),
 rq 4 60 (.slc 5 (.tm 56) none (some (.tm 59)) none),
 RM 5 0 60] 6 [0,1,2,7,8])
 (.seq (.seq (.region [RM 0 61 2,
 RM 1 62 0,
 RM 2 63 1,
 RM 3 64 7,
 rq 4 65 (.bin .add (.tm 63) (.tm 64)),
 rq 5 66 (.slc 5 (.tm 62) (some (.tm 65)) none none),
 rq 6 67 (.xop (.aaN auV) [(.tm 61),(.tm 66)]),
 rq 7 68 (.un .not (.tm 67))] 8 [0,1,2,7,8,68])
 (.cond (.tm 68)
 (.seq (.region [RM 0 69 0,
 RM 1 70 1,
 RM 2 71 7,
 rq 3 72 (.bin .add (.tm 70) (.tm 71)),
 rq 4 73 (.slc 5 (.tm 69) (some (.tm 72)) none none),
 RM 5 74 0,
 RM 6 75 1,
 rq 7 76 (.slc 5 (.tm 74) (some (.tm 75)) none none),
 rq 8 77 (.xop (.copy 5) [(.tm 73),(.tm 76)])] 9 [0,1,2])
 (.seq (.region [RM 0 78 0,
 RM 1 79 1,
 rq 2 80 (.slc 5 (.tm 78) (some (.tm 79)) none none),
 RM 3 81 2,
 rq 4 82 (.xop (.copy 5) [(.tm 80),(.tm 81)])] 5 [0])
 (.seq (.region [RM 0 83 0,
 RM 1 6 83] 2 [6])
 .ret)))
 .skip))
 (.seq (.region [RM 0 84 0,
 RM 1 85 8,
 rq 2 86 (.slc 5 (.tm 84) (some (.tm 85)) none none),
 RM 3 87 2,
 rq 4 88 (.xop (.copy 5) [(.tm 86),(.tm 87)])] 5 [0,1,7])
 (.seq (.region [RM 0 89 0,
 RM 1 90 1,
 rq 2 91 (.slc 5 (.tm 89) (some (.tm 90)) none none),
 RM 3 92 7,
 rq 4 93 (.call avU [(.tm 91),(.tm 92)])] 5 [0])
 (.seq (.region [RM 0 94 0,
 RM 1 6 94] 2 [6])
 .ret))))))))))))
def avD:List Cert:=[⟨[],[0,1,2]⟩,⟨[],[0,1,2]⟩,⟨[],[0,1,2,7]⟩,⟨[],[0,1,2,7,16]⟩,⟨[],[6]⟩,⟨[],[0,1,2,7,8]⟩,⟨[],[0,1,2,7,8,22]⟩,⟨[],[6]⟩,⟨[],[0,1,2,7,8,31]⟩,⟨[],[0,1,2,7,9]⟩,⟨[],[0,1,7,9]⟩,⟨[cz 0,cz 1,cz 2,cz 3,cz 4,cz 5,cz 6,cz 7,cz 8],[9]⟩,⟨[],[6]⟩,⟨[],[0,1,2,7,8]⟩,⟨[],[0,1,2,7,8,68]⟩,⟨[cz 0,cz 1,cz 2,cz 3,cz 4,cz 5,cz 6,cz 7,cz 8],[0,1,2]⟩,⟨[],[0]⟩,⟨[],[6]⟩,⟨[],[0,1,7]⟩,⟨[],[0]⟩,⟨[],[6]⟩]
def auF:List aW:=[.tm 6]
theorem avB:aO Tryz.prog Tryz.f215 avD=some (atZ,auF):=by kernel_rfl
theorem avE:aN Tryz.prog atU Tryz.f215 atZ auF:=
 aN.mk Tryz.func215 (by kernel_rfl) avB
def sW:AC:=
 (.seq (.region [rq 0 2 (.move (.kv (.bool false)))] 1 [0])
 (.seq (.region [RM 0 3 0,
 RM 1 4 0,
 rq 2 5 (.bin .neq (.tm 3) (.tm 4)),
 RM 3 2 5] 4 [2])
 .ret))
def NG:List Cert:=[⟨[],[0]⟩,⟨[],[2]⟩]
def A2:List aW:=[.tm 2]
theorem M6:aO Tryz.prog Tryz.f218 NG=some (sW,A2):=by kernel_rfl
theorem MP:aN Tryz.prog lG Tryz.f218 sW A2:=
 aN.mk Tryz.func218 (by kernel_rfl) M6
def s6:AC:=
 (.seq (.region [rq 0 6 (.move (.kv (.slice none 0 0)))] 1 [0,1,2])
 (.seq (.seq (.region [RM 0 9 0,
 RM 1 10 1,
 RM 2 11 2,
 rq 3 12 (.call nI [(.tm 9),(.tm 10),(.tm 11)]),
 rq 4 13 (.un .not (.tm 12))] 5 [0,1,2,13])
 (.cond (.tm 13)
 (.seq (.region [rq 0 6 (.move (.kv (.slice none 0 0)))] 1 [6])
 .ret)
 .skip))
 (.seq (.region [RM 0 14 1,
 rq 1 15 (.kY 1 [VZ] (.tm 14) (.tm 14)),
 RM 2 7 15] 3 [0,1,2,7])
 (.seq (.seq (.region [RM 0 16 7,
 rq 1 17 (.len false (.tm 16)),
 rq 2 18 (.move (ki 0))] 3 [0,1,2,7,17,18])
 (.block 0
 (.loop
 (.seq (.region [rq 0 19 (.bin .lss (.tm 18) (.tm 17))] 1 [0,1,2,7,17,18,19])
 (.seq (.cond (.tm 19)
 .skip
 (.exit 0))
 (.seq (.block 1
 (.seq (.region [RM 0 20 18,
 RM 1 8 20] 2 [0,1,2,7,8,17,18])
 (.seq (.region [RM 0 21 7,
 RM 1 22 8,
 RM 2 23 0,
 RM 3 24 8,
 rq 4 25 (.bin .add (.tm 23) (.tm 24)),
 rq 5 26 (.idx 1 (.tm 21) (.tm 22)),
 rn 6 (.store 1 false (.tm 26) (.tm 25))] 7 [0,1,2,7,8,17,18])
 (.seq (.region [RM 0 27 2] 1 [0,1,2,7,8,17,18,27])
 (.cond (.tm 27)
 (.region [RM 0 28 7,
 RM 1 29 8,
 RM 2 30 0,
 RM 3 31 0,
 RM 4 32 1,
 rq 5 33 (.bin .rem (.tm 31) (.tm 32)),
 rq 6 34 (.bin .sub (.tm 30) (.tm 33)),
 RM 7 35 0,
 RM 8 36 8,
 rq 9 37 (.bin .add (.tm 35) (.tm 36)),
 RM 10 38 1,
 rq 11 39 (.bin .rem (.tm 37) (.tm 38)),
 rq 12 40 (.bin .add (.tm 34) (.tm 39)),
 rq 13 41 (.idx 1 (.tm 28) (.tm 29)),
 rn 14 (.store 1 false (.tm 41) (.tm 40))] 15 [0,1,2,7,17,18])
 .skip)))))
 (.region [rq 0 42 (.bin .add (.tm 18) (ki 1)),
 RM 1 18 42] 2 [0,1,2,7,17,18])))))))
 (.seq (.region [RM 0 43 7,
 RM 1 6 43] 2 [6])
 .ret)))))
def MU:List Cert:=[⟨[],[0,1,2]⟩,⟨[],[0,1,2,13]⟩,⟨[],[6]⟩,⟨[],[0,1,2,7]⟩,⟨[],[0,1,2,7,17,18]⟩,⟨[],[0,1,2,7,17,18,19]⟩,⟨[],[0,1,2,7,8,17,18]⟩,⟨[],[0,1,2,7,8,17,18]⟩,⟨[],[0,1,2,7,8,17,18,27]⟩,⟨[cz 0,cz 1,cz 2,cz 3,cz 4,cz 5,cz 6,cz 7,cz 8,cz 9,cz 10,cz 11,cz 12,cz 13,cz 14],[0,1,2,7,17,18]⟩,⟨[],[0,1,2,7,17,18]⟩,⟨[],[6]⟩]
def BT:List aW:=[.tm 6]
theorem L6:aO Tryz.prog Tryz.f219 MU=some (s6,BT):=by kernel_rfl
theorem M3:aN Tryz.prog oS Tryz.f219 s6 BT:=
 aN.mk Tryz.func219 (by kernel_rfl) L6
def jQ:AC:=
 (.seq (.region [rq 0 4 (.move (ki 0))] 1 [0,1])
 (.seq (.seq (.region [RM 0 6 0,
 rq 1 7 (.len false (.tm 6)),
 rq 2 8 (.move (ki 0))] 3 [0,1,7,8])
 (.block 0
 (.loop
 (.seq (.region [rq 0 9 (.bin .lss (.tm 8) (.tm 7))] 1 [0,1,7,8,9])
 (.seq (.cond (.tm 9)
 .skip
 (.exit 0))
 (.seq (.block 1
 (.seq (.region [RM 0 10 8,
 RM 1 5 10] 2 [0,1,5,7,8])
 (.seq (.region [RM 0 11 1,
 RM 1 12 0,
 RM 2 13 5,
 rq 3 14 (.idx 1 (.tm 12) (.tm 13)),
 RL 4 15 14,
 rq 5 16 (.bin .eql (.tm 11) (.tm 15))] 6 [0,1,5,7,8,16])
 (.cond (.tm 16)
 (.seq (.region [RM 0 17 5,
 RM 1 4 17] 2 [4])
 .ret)
 .skip))))
 (.region [rq 0 18 (.bin .add (.tm 8) (ki 1)),
 RM 1 8 18] 2 [0,1,7,8])))))))
 (.seq (.region [rq 0 4 (.move (.kv (.int .i64 (-1))))] 1 [4])
 .ret)))
def zO:List Cert:=[⟨[],[0,1]⟩,⟨[],[0,1,7,8]⟩,⟨[],[0,1,7,8,9]⟩,⟨[],[0,1,5,7,8]⟩,⟨[],[0,1,5,7,8,16]⟩,⟨[],[4]⟩,⟨[],[0,1,7,8]⟩,⟨[],[4]⟩]
def oK:List aW:=[.tm 4]
theorem zS:aO Tryz.prog Tryz.f220 zO=some (jQ,oK):=by kernel_rfl
theorem AD:aN Tryz.prog gN Tryz.f220 jQ oK:=
 aN.mk Tryz.func220 (by kernel_rfl) zS
def aN4:AC:=
 (.seq (.region [rq 0 2 (.box true (.tm 0)),
 rq 1 4 (.move (.kv (.slice none 0 0)))] 2 [1,2])
 (.seq (.region [rq 0 7 (.bC 1 0 [VZ] []),
 RM 1 5 7] 2 [1,2,5])
 (.seq (.seq (.region [rq 0 6 (.move (ki 0))] 1 [1,2,5,6])
 (.block 0
 (.loop
 (.seq (.seq (.region [RM 0 8 6,
 RM 1 9 1,
 rq 2 10 (.len false (.tm 9)),
 rq 3 11 (.bin .lss (.tm 8) (.tm 10))] 4 [1,2,5,6,11])
 (.cond (.tm 11)
 .skip
 (.exit 0)))
 (.seq (.block 1
 (.region [RM 0 14 5,
 RF 1 15 0 2,
 RL 2 16 15,
 RM 3 17 1,
 RM 4 18 6,
 rq 5 19 (.idx 1 (.tm 17) (.tm 18)),
 RL 6 20 19,
 rq 7 21 (.idx 1 (.tm 16) (.tm 20)),
 RL 8 22 21,
 rq 9 23 (.bC 1 1 [VZ] [(0,1,(.tm 22))]),
 rq 10 24 (.append 1 (.tm 14) (.tm 23)),
 RM 11 5 24] 12 [1,2,5,6]))
 (.region [RM 0 12 6,
 rq 1 13 (.bin .add (.tm 12) (ki 1)),
 RM 2 6 13] 3 [1,2,5,6]))))))
 (.seq (.region [RM 0 25 5,
 RM 1 4 25] 2 [4])
 .ret))))
def aSD:List Cert:=[⟨[],[1,2]⟩,⟨[],[1,2,5]⟩,⟨[],[1,2,5,6]⟩,⟨[],[1,2,5,6,11]⟩,⟨[cz 0,cz 1,cz 2,cz 3,cz 4,cz 5,cz 6,cz 7,cz 8,cz 9,cz 10,cz 11],[1,2,5,6]⟩,⟨[],[1,2,5,6]⟩,⟨[],[4]⟩]
def aO3:List aW:=[.tm 4]
theorem aR6:aO Tryz.prog Tryz.f223 aSD=some (aN4,aO3):=by kernel_rfl
theorem aR8:aN Tryz.prog W3 Tryz.f223 aN4 aO3:=
 aN.mk Tryz.func223 (by kernel_rfl) aR6
def aN6:AC:=
 (.seq (.region [rq 0 4 (.box true (.tm 0)),
 rq 1 8 (.alloc [OZ])] 2 [1,2,3,4,8])
 (.seq (.seq (.region [rq 0 9 (.move (ki 0))] 1 [1,2,3,4,8,9])
 (.block 0
 (.loop
 (.seq (.seq (.region [RM 0 10 9,
 RM 1 11 1,
 rq 2 12 (.len false (.tm 11)),
 rq 3 13 (.bin .lss (.tm 10) (.tm 12))] 4 [1,2,3,4,8,9,13])
 (.cond (.tm 13)
 .skip
 (.exit 0)))
 (.seq (.block 1
 (.region [RF 0 16 0 4,
 ⟨1,(some 17),.load 1 false (.tm 16),none,[],[],true⟩,
 RM 2 18 1,
 RM 3 19 9,
 rq 4 20 (.idx 1 (.tm 18) (.tm 19)),
 ⟨5,(some 21),.load 1 false (.tm 20),none,[],[],true⟩,
 RF 6 22 0 4,
 RL 7 23 22,
 RM 8 24 1,
 RM 9 25 9,
 rq 10 26 (.idx 1 (.tm 24) (.tm 25)),
 RL 11 27 26,
 rq 12 28 (.idx 1 (.tm 23) (.tm 27)),
 RL 13 29 28,
 RM 14 30 2,
 RM 15 31 9,
 rq 16 32 (.idx 1 (.tm 30) (.tm 31)),
 RL 17 33 32,
 RM 18 34 3,
 RM 19 35 9,
 rq 20 36 (.idx 1 (.tm 34) (.tm 35)),
 RL 21 37 36,
 ⟨22,(some 38),.call aNH [(.tm 29),(.tm 33),(.tm 37)],none,[],[1,5],false⟩,
 rq 23 39 (.idx 1 (.tm 17) (.tm 21)),
 rn 24 (.store 1 false (.tm 39) (.tm 38))] 25 [1,2,3,4,8,9]))
 (.region [RM 0 14 9,
 rq 1 15 (.bin .add (.tm 14) (ki 1)),
 RM 2 9 15] 3 [1,2,3,4,8,9]))))))
 (.seq (.region [rq 0 40 (.load 1 true (.tm 4)),
 rn 1 (.store 1 true (.tm 8) (.tm 40))] 2 [8])
 .ret)))
def aR7:List Cert:=[⟨[],[1,2,3,4,8]⟩,⟨[],[1,2,3,4,8,9]⟩,⟨[],[1,2,3,4,8,9,13]⟩,⟨[cz 0,(1,[],[],true),cz 2,cz 3,cz 4,(5,[],[],true),cz 6,cz 7,cz 8,cz 9,cz 10,cz 11,cz 12,cz 13,cz 14,cz 15,cz 16,cz 17,cz 18,cz 19,cz 20,cz 21,(22,[],[1,5],false),cz 23,cz 24],[1,2,3,4,8,9]⟩,⟨[],[1,2,3,4,8,9]⟩,⟨[],[8]⟩]
def aO6:List aW:=[.cell 8 1 true]
theorem aSE:aO Tryz.prog Tryz.f224 aR7=some (aN6,aO6):=by kernel_rfl
theorem aRX:aN Tryz.prog H5 Tryz.f224 aN6 aO6:=
 aN.mk Tryz.func224 (by kernel_rfl) aSE
def aNU:AC:=
 (.seq (.region [rq 0 2 (.box true (.tm 0)),
 rq 1 4 (.alloc [OZ,OZ])] 2 [1,2,4])
 (.seq (.seq (.region [rq 0 5 (.move (ki 0))] 1 [1,2,4,5])
 (.block 0
 (.loop
 (.seq (.seq (.region [RM 0 7 5,
 RF 1 8 1 2,
 RL 2 9 8,
 rq 3 10 (.len false (.tm 9)),
 rq 4 11 (.bin .lss (.tm 7) (.tm 10))] 5 [1,2,4,5,11])
 (.cond (.tm 11)
 .skip
 (.exit 0)))
 (.seq (.block 1
 (.seq (.region [rq 0 6 (.move (ki 0))] 1 [1,2,4,5,6])
 (.block 2
 (.loop
 (.seq (.seq (.region [RM 0 14 6,
 RM 1 15 1,
 rq 2 16 (.len false (.tm 15)),
 rq 3 17 (.bin .lss (.tm 14) (.tm 16))] 4 [1,2,4,5,6,17])
 (.cond (.tm 17)
 .skip
 (.exit 2)))
 (.seq (.block 3
 (.seq (.region [RF 0 20 1 2,
 RL 1 21 20,
 RM 2 22 5,
 rq 3 23 (.idx 1 (.tm 21) (.tm 22)),
 RL 4 24 23,
 RM 5 25 1,
 RM 6 26 6,
 rq 7 27 (.idx 1 (.tm 25) (.tm 26)),
 RL 8 28 27,
 rq 9 29 (.bin .eql (.tm 24) (.tm 28))] 10 [1,2,4,5,6,29])
 (.cond (.tm 29)
 (.region [RF 0 30 1 2,
 RL 1 31 30,
 RM 2 32 5,
 rq 3 33 (.idx 1 (.tm 31) (.tm 32)),
 rn 4 (.store 1 false (.tm 33) (.kv (.int .i64 (-1))))] 5 [1,2,4,5,6])
 .skip)))
 (.region [RM 0 18 6,
 rq 1 19 (.bin .add (.tm 18) (ki 1)),
 RM 2 6 19] 3 [1,2,4,5,6])))))))
 (.region [RM 0 12 5,
 rq 1 13 (.bin .add (.tm 12) (ki 1)),
 RM 2 5 13] 3 [1,2,4,5]))))))
 (.seq (.region [rq 0 34 (.load 2 true (.tm 2)),
 rn 1 (.store 2 true (.tm 4) (.tm 34))] 2 [4])
 .ret)))
def aRJ:List Cert:=[⟨[],[1,2,4]⟩,⟨[],[1,2,4,5]⟩,⟨[],[1,2,4,5,11]⟩,⟨[],[1,2,4,5,6]⟩,⟨[],[1,2,4,5,6,17]⟩,⟨[cz 0,cz 1,cz 2,cz 3,cz 4,cz 5,cz 6,cz 7,cz 8,cz 9],[1,2,4,5,6,29]⟩,⟨[],[1,2,4,5,6]⟩,⟨[],[1,2,4,5,6]⟩,⟨[],[1,2,4,5]⟩,⟨[],[4]⟩]
def aOK:List aW:=[.cell 4 2 true]
theorem aRS:aO Tryz.prog Tryz.f225 aRJ=some (aNU,aOK):=by kernel_rfl
theorem aRM:aN Tryz.prog v9 Tryz.f225 aNU aOK:=
 aN.mk Tryz.func225 (by kernel_rfl) aRS
def aJE:AC:=
 (.seq (.region [rq 0 1 (.box true (.tm 0)),
 rq 1 2 (.alloc [OZ])] 2 [1,2])
 (.seq (.region [rq 0 3 (.bC 1 0 [VZ] []),
 RF 1 4 0 1,
 RL 2 5 4,
 rq 3 6 (.append 1 (.tm 3) (.tm 5)),
 rq 4 7 (.build [OZ] [(0,1,(.tm 6))]),
 rn 5 (.store 1 true (.tm 2) (.tm 7))] 6 [2])
 .ret))
def aKS:List Cert:=[⟨[],[1,2]⟩,⟨[],[2]⟩]
def aJ3:List aW:=[.cell 2 1 true]
theorem aK8:aO Tryz.prog Tryz.f226 aKS=some (aJE,aJ3):=by kernel_rfl
theorem aKY:aN Tryz.prog aIW Tryz.f226 aJE aJ3:=
 aN.mk Tryz.func226 (by kernel_rfl) aK8
def aJN:AC:=
 (.seq (.region [rq 0 1 (.box true (.tm 0)),
 rq 1 2 (.alloc [VZ,VZ,OZ])] 2 [1,2])
 (.seq (.region [RF 0 3 0 1,
 ⟨1,(some 4),.load 1 false (.tm 3),none,[4],[],true⟩,
 RF 2 5 1 1,
 ⟨3,(some 6),.load 1 false (.tm 5),none,[4],[],true⟩,
 rq 4 7 (.bC 1 0 [VZ] []),
 RF 5 8 2 1,
 ⟨6,(some 9),.load 1 false (.tm 8),none,[4],[],false⟩,
 ⟨7,(some 10),.append 1 (.tm 7) (.tm 9),none,[],[1,3],false⟩,
 rq 8 11 (.build [VZ,VZ,OZ] [(0,1,(.tm 4)),(1,1,(.tm 6)),(2,1,(.tm 10))]),
 rn 9 (.store 3 true (.tm 2) (.tm 11))] 10 [2])
 .ret))
def aMC:List Cert:=[⟨[],[1,2]⟩,⟨[cz 0,(1,[4],[],true),cz 2,(3,[4],[],true),cz 4,cz 5,(6,[4],[],false),(7,[],[1,3],false),cz 8,cz 9],[2]⟩]
def aJ5:List aW:=[.cell 2 3 true]
theorem aL4:aO Tryz.prog Tryz.f227 aMC=some (aJN,aJ5):=by kernel_rfl
theorem aLO:aN Tryz.prog aI8 Tryz.f227 aJN aJ5:=
 aN.mk Tryz.func227 (by kernel_rfl) aL4
def aNN:AC:=
 (.seq (.region [rq 0 0 (.alloc [OZ])] 1 [0])
 (.seq (.region [rq 0 1 (.kY 1 [VZ] (ki 64) (ki 64)),
 rq 1 2 (.build [OZ] [(0,1,(.tm 1))]),
 rn 2 (.store 1 true (.tm 0) (.tm 2))] 3 [0])
 .ret))
def aRA:List Cert:=[⟨[],[0]⟩,⟨[],[0]⟩]
def aOJ:List aW:=[.cell 0 1 true]
theorem aQL:aO Tryz.prog Tryz.f228 aRA=some (aNN,aOJ):=by kernel_rfl
theorem aQI:aN Tryz.prog v8 Tryz.f228 aNN aOJ:=
 aN.mk Tryz.func228 (by kernel_rfl) aQL
def dM:AC:=
 (.seq (.region [rq 0 4 (.move (ki 0))] 1 [0,1])
 (.seq (.seq (.region [RM 0 6 0,
 rq 1 7 (.len false (.tm 6)),
 rq 2 8 (.move (ki 0))] 3 [0,1,7,8])
 (.block 0
 (.loop
 (.seq (.region [rq 0 9 (.bin .lss (.tm 8) (.tm 7))] 1 [0,1,7,8,9])
 (.seq (.cond (.tm 9)
 .skip
 (.exit 0))
 (.seq (.block 1
 (.seq (.region [RM 0 10 8,
 RM 1 5 10] 2 [0,1,5,7,8])
 (.seq (.region [RM 0 11 1,
 RM 1 12 0,
 RM 2 13 5,
 rq 3 14 (.idx 4 (.tm 12) (.tm 13)),
 rq 4 15 (.load 4 true (.tm 14)),
 rq 5 16 (.t5 (.tm 11) [(.tm 15)])] 6 [0,1,5,7,8,16])
 (.cond (.tm 16)
 (.seq (.region [RM 0 17 5,
 RM 1 4 17] 2 [4])
 .ret)
 .skip))))
 (.region [rq 0 18 (.bin .add (.tm 8) (ki 1)),
 RM 1 8 18] 2 [0,1,7,8])))))))
 (.seq (.region [rq 0 4 (.move (.kv (.int .i64 (-1))))] 1 [4])
 .ret)))
def mO:List Cert:=[⟨[],[0,1]⟩,⟨[],[0,1,7,8]⟩,⟨[],[0,1,7,8,9]⟩,⟨[],[0,1,5,7,8]⟩,⟨[],[0,1,5,7,8,16]⟩,⟨[],[4]⟩,⟨[],[0,1,7,8]⟩,⟨[],[4]⟩]
def gM:List aW:=[.tm 4]
theorem mU:aO Tryz.prog Tryz.f229 mO=some (dM,gM):=by kernel_rfl
theorem mT:aN Tryz.prog bR Tryz.f229 dM gM:=
 aN.mk Tryz.func229 (by kernel_rfl) mU
def o8:AC:=
 (.seq (.region [rq 0 2 (.move (.kv (.bool false)))] 1 [0])
 (.seq (.region [RM 0 3 0,
 rq 1 4 (.call tR [(.tm 3)]),
 rq 2 5 (.un .not (.tm 4)),
 RM 3 2 5] 4 [2])
 .ret))
def JL:List Cert:=[⟨[],[0]⟩,⟨[],[2]⟩]
def xF:List aW:=[.tm 2]
theorem JH:aO Tryz.prog Tryz.f230 JL=some (o8,xF):=by kernel_rfl
theorem JM:aN Tryz.prog lX Tryz.f230 o8 xF:=
 aN.mk Tryz.func230 (by kernel_rfl) JH
def yN:AC:=
 (.seq (.region [rq 0 2 (.move (.kv (.bool false)))] 1 [0])
 (.seq (.region [RM 0 3 0,
 rq 1 4 (.call cQ [(.tm 3),(ki 0),(ki 65535)]),
 RM 2 2 4] 3 [2])
 .ret))
def R2:List Cert:=[⟨[],[0]⟩,⟨[],[2]⟩]
def FL:List aW:=[.tm 2]
theorem SV:aO Tryz.prog Tryz.f231 R2=some (yN,FL):=by kernel_rfl
theorem QH:aN Tryz.prog tR Tryz.f231 yN FL:=
 aN.mk Tryz.func231 (by kernel_rfl) SV
def rO:AC:=
 (.seq (.region [rq 0 2 (.box true (.tm 0)),
 rq 1 3 (.move (.kv (.bool false)))] 2 [1,2])
 (.seq (.region [RL 0 4 1,
 RF 1 5 0 2,
 RL 2 6 5,
 RF 3 7 1 2,
 RL 4 8 7,
 rq 5 9 (.call cQ [(.tm 4),(.tm 6),(.tm 8)]),
 RM 6 3 9] 7 [3])
 .ret))
def KZ:List Cert:=[⟨[],[1,2]⟩,⟨[],[3]⟩]
def zB:List aW:=[.tm 3]
theorem J5:aO Tryz.prog Tryz.f234 KZ=some (rO,zB):=by kernel_rfl
theorem J4:aN Tryz.prog nJ Tryz.f234 rO zB:=
 aN.mk Tryz.func234 (by kernel_rfl) J5
def aNS:AC:=
 (.seq (.region [rq 0 6 (.move (ki 0))] 1 [0,1,2])
 (.seq (.seq (.region [RM 0 9 0,
 rq 1 10 (.call y2 [(.tm 9),(ki 0),(ki 65535)]),
 rq 2 11 (.un .not (.tm 10)),
 RM 3 12 11,
 GQ 4 13 (.move (.tm 1)) 12 false,
 GQ 5 14 (.call y2 [(.tm 13),(ki 0),(ki 65535)]) 12 false,
 GQ 6 15 (.un .not (.tm 14)) 12 false,
 rq 7 16 (.pick (.tm 12) (.kv (.bool true)) (.tm 15)),
 RM 8 17 16,
 GQ 9 18 (.move (.tm 2)) 17 false,
 GQ 10 19 (.call y2 [(.tm 18),(ki 0),(ki 3)]) 17 false,
 GQ 11 20 (.un .not (.tm 19)) 17 false,
 rq 12 21 (.pick (.tm 17) (.kv (.bool true)) (.tm 20))] 13 [0,1,2,21])
 (.cond (.tm 21)
 (.seq (.region [rq 0 6 (.move (.kv (.int .i64 (-1))))] 1 [6])
 .ret)
 .skip))
 (.seq (.region [RM 0 22 0,
 rq 1 23 (.bin .rem (.tm 22) (ki 256)),
 RM 2 7 23] 3 [0,1,2,7])
 (.seq (.region [RM 0 24 0,
 rq 1 25 (.bin .quo (.tm 24) (ki 256)),
 RM 2 8 25] 3 [1,2,7,8])
 (.seq (.seq (.region [RM 0 26 2,
 rq 1 27 (.bin .rem (.tm 26) (ki 2)),
 rq 2 28 (.bin .eql (.tm 27) (ki 1))] 3 [1,2,7,8,28])
 (.cond (.tm 28)
 (.region [RM 0 29 1,
 rq 1 30 (.bin .rem (.tm 29) (ki 256)),
 RM 2 7 30] 3 [1,2,7,8])
 .skip))
 (.seq (.seq (.region [RM 0 31 2,
 rq 1 32 (.bin .quo (.tm 31) (ki 2)),
 rq 2 33 (.bin .eql (.tm 32) (ki 1))] 3 [1,7,8,33])
 (.cond (.tm 33)
 (.region [RM 0 34 1,
 rq 1 35 (.bin .quo (.tm 34) (ki 256)),
 RM 2 8 35] 3 [7,8])
 .skip))
 (.seq (.region [RM 0 36 8,
 rq 1 37 (.bin .mul (.tm 36) (ki 256)),
 RM 2 38 7,
 rq 3 39 (.bin .add (.tm 37) (.tm 38)),
 RM 4 6 39] 5 [6])
 .ret)))))))
def aRP:List Cert:=[⟨[],[0,1,2]⟩,⟨[],[0,1,2,21]⟩,⟨[],[6]⟩,⟨[],[0,1,2,7]⟩,⟨[],[1,2,7,8]⟩,⟨[],[1,2,7,8,28]⟩,⟨[],[1,2,7,8]⟩,⟨[],[1,7,8,33]⟩,⟨[],[7,8]⟩,⟨[],[6]⟩]
def aOV:List aW:=[.tm 6]
theorem aQX:aO Tryz.prog Tryz.f238 aRP=some (aNS,aOV):=by kernel_rfl
theorem aQM:aN Tryz.prog aNH Tryz.f238 aNS aOV:=
 aN.mk Tryz.func238 (by kernel_rfl) aQX
end Go.Proofs.YtegiblhkjfiooaaGreat
