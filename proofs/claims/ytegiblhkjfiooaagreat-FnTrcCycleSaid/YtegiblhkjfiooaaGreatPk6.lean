/- Texts laid together by a program: rules, contracts and the walk that leads to the law. -/
import Derived.Test.YtegiblhkjfiooaaGreatPk3
set_option linter.unusedVariables false
set_option linter.unusedSimpArgs false
set_option linter.unusedSectionVars false
namespace Go.Proofs.YtegiblhkjfiooaaGreat
open Go Go.AM
set_option maxRecDepth 100000
def xD:AC:=
 (.seq (.region [rq 0 2 (.box true (.tm 0)),
 rq 1 3 (.move (.kv (.bool false)))] 2 [1,2])
 (.seq (.region [RF 0 4 0 2,
 RL 1 5 4,
 RF 2 6 1 1,
 RL 3 7 6,
 rq 4 8 (.bin .leq (.tm 5) (.tm 7)),
 RM 5 9 8,
 GQ 6 10 (.fld 0 (.tm 1)) 9 true,
 GQ 7 11 (.load 1 false (.tm 10)) 9 true,
 GQ 8 12 (.fld 1 (.tm 2)) 9 true,
 GQ 9 13 (.load 1 false (.tm 12)) 9 true,
 GQ 10 14 (.bin .leq (.tm 11) (.tm 13)) 9 true,
 rq 11 15 (.pick (.tm 9) (.tm 14) (.kv (.bool false))),
 RM 12 3 15] 13 [3])
 .ret))
def P4:List Cert:=[⟨[],[1,2]⟩,⟨[],[3]⟩]
def EW:List aZ:=[.tm 3]
theorem OW:aR Tryz.prog Tryz.f180 P4=some (xD,EW):=by kernel_rfl
theorem PS:aP Tryz.prog sX Tryz.f180 xD EW:=
 aP.mk Tryz.func180 (by kernel_rfl) OW
def iC:AC:=
 (.seq (.region [rq 0 4 (.move (ki 0))] 1 [0,1])
 (.seq (.seq (.region [RM 0 6 0,
 rq 1 7 (.len false (.tm 6)),
 rq 2 8 (.move (ki 0))] 3 [0,1,7,8])
 (.block 0
 (.loop
 (.seq (.region [rq 0 9 (.bin .lss (.tm 8) (.tm 7))] 1 [0,1,7,8,9])
 (.seq (.cond (.tm 9)
 .skip
 (.exit 0))
 (.seq (.block 1
 (.seq (.region [RM 0 10 8,
 RM 1 5 10] 2 [0,1,5,7,8])
 (.seq (.region [RM 0 11 1,
 RM 1 12 0,
 RM 2 13 5,
 rq 3 14 (.idx 1 (.tm 12) (.tm 13)),
 RL 4 15 14,
 rq 5 16 (.rE (.tm 11) [(.tm 15)])] 6 [0,1,5,7,8,16])
 (.cond (.tm 16)
 (.seq (.region [RM 0 17 5,
 RM 1 4 17] 2 [4])
 .ret)
 .skip))))
 (.region [rq 0 18 (.bin .add (.tm 8) (ki 1)),
 RM 1 8 18] 2 [0,1,7,8])))))))
 (.seq (.region [rq 0 4 (.move (.kv (.int .i64 (-1))))] 1 [4])
 .ret)))
def xG:List Cert:=[⟨[],[0,1]⟩,⟨[],[0,1,7,8]⟩,⟨[],[0,1,7,8,9]⟩,⟨[],[0,1,5,7,8]⟩,⟨[],[0,1,5,7,8,16]⟩,⟨[],[4]⟩,⟨[],[0,1,7,8]⟩,⟨[],[4]⟩]
def lV:List aZ:=[.tm 4]
theorem wP:aR Tryz.prog Tryz.f181 xG=some (iC,lV):=by kernel_rfl
theorem wV:aP Tryz.prog fK Tryz.f181 iC lV:=
 aP.mk Tryz.func181 (by kernel_rfl) wP
def eN:AC:=
 (.seq (.region [rq 0 4 (.move (ki 0))] 1 [0,1])
 (.seq (.seq (.region [RM 0 6 0,
 rq 1 7 (.len false (.tm 6)),
 rq 2 8 (.move (ki 0))] 3 [0,1,7,8])
 (.block 0
 (.loop
 (.seq (.region [rq 0 9 (.bin .lss (.tm 8) (.tm 7))] 1 [0,1,7,8,9])
 (.seq (.cond (.tm 9)
 .skip
 (.exit 0))
 (.seq (.block 1
 (.seq (.region [RM 0 10 8,
 RM 1 5 10] 2 [0,1,5,7,8])
 (.seq (.region [RM 0 11 1,
 RM 1 12 0,
 RM 2 13 5,
 rq 3 14 (.idx 1 (.tm 12) (.tm 13)),
 RL 4 15 14,
 rq 5 16 (.rE (.tm 11) [(.tm 15)])] 6 [0,1,5,7,8,16])
 (.cond (.tm 16)
 (.seq (.region [RM 0 17 5,
 RM 1 4 17] 2 [4])
 .ret)
 .skip))))
 (.region [rq 0 18 (.bin .add (.tm 8) (ki 1)),
 RM 1 8 18] 2 [0,1,7,8])))))))
 (.seq (.region [rq 0 4 (.move (.kv (.int .i64 (-1))))] 1 [4])
 .ret)))
def oW:List Cert:=[⟨[],[0,1]⟩,⟨[],[0,1,7,8]⟩,⟨[],[0,1,7,8,9]⟩,⟨[],[0,1,5,7,8]⟩,⟨[],[0,1,5,7,8,16]⟩,⟨[],[4]⟩,⟨[],[0,1,7,8]⟩,⟨[],[4]⟩]
def iK:List aZ:=[.tm 4]
theorem pA:aR Tryz.prog Tryz.f182 oW=some (eN,iK):=by kernel_rfl
theorem pE:aP Tryz.prog cT Tryz.f182 eN iK:=
 aP.mk Tryz.func182 (by kernel_rfl) pA
def uJ:AC:=
 (.seq (.region [rq 0 2 (.move (.kv (.bool false)))] 1 [0])
 (.seq (.region [RM 0 3 0,
 rq 1 4 (.call bP [(.tm 3),(.fn mU)]),
 rq 2 5 (.un .not (.tm 4)),
 RM 3 2 5] 4 [2])
 .ret))
def MT:List Cert:=[⟨[],[0]⟩,⟨[],[2]⟩]
def CL:List aZ:=[.tm 2]
theorem M6:aR Tryz.prog Tryz.f183 MT=some (uJ,CL):=by kernel_rfl
theorem NA:aP Tryz.prog jP Tryz.f183 uJ CL:=
 aP.mk Tryz.func183 (by kernel_rfl) M6
def wY:AC:=
 (.seq (.region [rq 0 2 (.move (.kv (.bool false)))] 1 [0])
 (.seq (.region [RM 0 3 0,
 rq 1 4 (.call cE [(.tm 3),(ki 0),(ki 3)]),
 rq 2 5 (.un .not (.tm 4)),
 RM 3 2 5] 4 [2])
 .ret))
def PG:List Cert:=[⟨[],[0]⟩,⟨[],[2]⟩]
def EX:List aZ:=[.tm 2]
theorem OY:aR Tryz.prog Tryz.f184 PG=some (wY,EX):=by kernel_rfl
theorem O5:aP Tryz.prog sD Tryz.f184 wY EX:=
 aP.mk Tryz.func184 (by kernel_rfl) OY
def kX:AC:=
 (.seq (.region [rq 0 2 (.move (.kv (.slice none 0 0)))] 1 [0])
 (.seq (.region [RM 0 3 0,
 RM 1 4 0,
 rq 2 5 (.len false (.tm 4)),
 RM 3 6 0,
 rq 4 7 (.len false (.tm 6)),
 rq 5 8 (.slc 1 (.tm 3) none (some (.tm 5)) (some (.tm 7))),
 RM 6 2 8] 7 [2])
 .ret))
def B4:List Cert:=[⟨[],[0]⟩,⟨[],[2]⟩]
def rF:List aZ:=[.tm 2]
theorem B2:aR Tryz.prog Tryz.f187 B4=some (kX,rF):=by kernel_rfl
theorem BY:aP Tryz.prog iP Tryz.f187 kX rF:=
 aP.mk Tryz.func187 (by kernel_rfl) B2
def kE:AC:=
 (.seq (.region [rq 0 2 (.move (.kv (.slice none 0 0)))] 1 [0])
 (.seq (.seq (.region [RM 0 3 0,
 rq 1 4 (.xop (.sH false) [(.tm 3)])] 2 [0,4])
 (.cond (.tm 4)
 (.seq (.region [rq 0 2 (.move (.kv (.slice none 0 0)))] 1 [2])
 .ret)
 .skip))
 (.seq (.region [rq 0 5 (.bI 1 0 [VZ] []),
 RM 1 6 0,
 rq 2 7 (.append 1 (.tm 5) (.tm 6)),
 RM 3 2 7] 4 [2])
 .ret)))
def A9:List Cert:=[⟨[],[0]⟩,⟨[],[0,4]⟩,⟨[],[2]⟩,⟨[],[2]⟩]
def pL:List aZ:=[.tm 2]
theorem AT:aR Tryz.prog Tryz.f188 A9=some (kE,pL):=by kernel_rfl
theorem BB:aP Tryz.prog gY Tryz.f188 kE pL:=
 aP.mk Tryz.func188 (by kernel_rfl) AT
def qK:AC:=
 (.seq (.region [rq 0 4 (.move (.kv (.int .u64 0))),
 rq 1 5 (.move (.kv (.int .u64 0)))] 2 [0,1])
 (.seq (.region [RM 0 14 0,
 rq 1 15 (.bin .and (.tm 14) (.kv (.int .u64 4294967295))),
 RM 2 6 15] 3 [0,1,6])
 (.seq (.region [RM 0 16 0,
 rq 1 17 (.bin .shr (.tm 16) (.kv (.int .u64 32))),
 RM 2 7 17] 3 [0,1,6,7])
 (.seq (.region [RM 0 18 1,
 rq 1 19 (.bin .and (.tm 18) (.kv (.int .u64 4294967295))),
 RM 2 8 19] 3 [0,1,6,7,8])
 (.seq (.region [RM 0 20 1,
 rq 1 21 (.bin .shr (.tm 20) (.kv (.int .u64 32))),
 RM 2 9 21] 3 [0,1,6,7,8,9])
 (.seq (.region [RM 0 22 6,
 RM 1 23 8,
 rq 2 24 (.bin .mul (.tm 22) (.tm 23)),
 RM 3 10 24] 4 [0,1,6,7,8,9,10])
 (.seq (.region [RM 0 25 7,
 RM 1 26 8,
 rq 2 27 (.bin .mul (.tm 25) (.tm 26)),
 RM 3 28 10,
 rq 4 29 (.bin .shr (.tm 28) (.kv (.int .u64 32))),
 rq 5 30 (.bin .add (.tm 27) (.tm 29)),
 RM 6 11 30] 7 [0,1,6,7,9,11])
 (.seq (.region [RM 0 31 11,
 rq 1 32 (.bin .and (.tm 31) (.kv (.int .u64 4294967295))),
 RM 2 12 32] 3 [0,1,6,7,9,11,12])
 (.seq (.region [RM 0 33 11,
 rq 1 34 (.bin .shr (.tm 33) (.kv (.int .u64 32))),
 RM 2 13 34] 3 [0,1,6,7,9,12,13])
 (.seq (.region [RM 0 35 12,
 RM 1 36 6,
 RM 2 37 9,
 rq 3 38 (.bin .mul (.tm 36) (.tm 37)),
 rq 4 39 (.bin .add (.tm 35) (.tm 38)),
 RM 5 12 39] 6 [0,1,7,9,12,13])
 (.seq (.region [RM 0 40 7,
 RM 1 41 9,
 rq 2 42 (.bin .mul (.tm 40) (.tm 41)),
 RM 3 43 13,
 rq 4 44 (.bin .add (.tm 42) (.tm 43)),
 RM 5 45 12,
 rq 6 46 (.bin .shr (.tm 45) (.kv (.int .u64 32))),
 rq 7 47 (.bin .add (.tm 44) (.tm 46)),
 RM 8 4 47] 9 [0,1,4])
 (.seq (.region [RM 0 48 0,
 RM 1 49 1,
 rq 2 50 (.bin .mul (.tm 48) (.tm 49)),
 RM 3 5 50] 4 [4,5])
 .ret))))))))))))
def KF:List Cert:=[⟨[],[0,1]⟩,⟨[],[0,1,6]⟩,⟨[],[0,1,6,7]⟩,⟨[],[0,1,6,7,8]⟩,⟨[],[0,1,6,7,8,9]⟩,⟨[],[0,1,6,7,8,9,10]⟩,⟨[],[0,1,6,7,9,11]⟩,⟨[],[0,1,6,7,9,11,12]⟩,⟨[],[0,1,6,7,9,12,13]⟩,⟨[],[0,1,7,9,12,13]⟩,⟨[],[0,1,4]⟩,⟨[],[4,5]⟩]
def y8:List aZ:=[.tm 4,.tm 5]
theorem KD:aR Tryz.prog Tryz.f192 KF=some (qK,y8):=by kernel_rfl
theorem KQ:aP Tryz.prog mP Tryz.f192 qK y8:=
 aP.mk Tryz.func192 (by kernel_rfl) KD
def wU:AC:=
 (.seq (.region [rq 0 3 (.box false (.tm 1)),
 rq 1 4 (.move (ki 0))] 2 [0,3])
 (.seq (.region [RM 0 5 0,
 rq 1 6 (.xop (.xT oO) [(.tm 3)]),
 rq 2 7 (.call bR [(.tm 5),(.tm 6)]),
 RM 3 4 7] 4 [4])
 .ret))
def O0:List Cert:=[⟨[],[0,3]⟩,⟨[],[4]⟩]
def ES:List aZ:=[.tm 4]
theorem PD:aR Tryz.prog Tryz.f204 O0=some (wU,ES):=by kernel_rfl
theorem P5:aP Tryz.prog sG Tryz.f204 wU ES:=
 aP.mk Tryz.func204 (by kernel_rfl) PD
def gI:AC:=
 (.seq (.region [rq 0 2 (.move (.kv (.slice none 0 0)))] 1 [0])
 (.seq (.seq (.region [RM 0 3 0,
 rq 1 4 (.xop (.sH false) [(.tm 3)])] 2 [0,4])
 (.cond (.tm 4)
 (.seq (.region [rq 0 2 (.move (.kv (.slice none 0 0)))] 1 [2])
 .ret)
 .skip))
 (.seq (.region [rq 0 5 (.bI 5 0 [VZ,VZ,VZ,VZ,OZ] []),
 RM 1 6 0,
 rq 2 7 (.append 5 (.tm 5) (.tm 6)),
 RM 3 2 7] 4 [2])
 .ret)))
def u3:List Cert:=[⟨[],[0]⟩,⟨[],[0,4]⟩,⟨[],[2]⟩,⟨[],[2]⟩]
def lE:List aZ:=[.tm 2]
theorem uU:aR Tryz.prog Tryz.f209 u3=some (gI,lE):=by kernel_rfl
theorem uV:aP Tryz.prog eQ Tryz.f209 gI lE:=
 aP.mk Tryz.func209 (by kernel_rfl) uU
def fA:AC:=
 (.seq (.region [rq 0 4 (.move (ki 0))] 1 [0,1])
 (.seq (.seq (.region [RM 0 6 0,
 rq 1 7 (.len false (.tm 6)),
 rq 2 8 (.move (ki 0))] 3 [0,1,7,8])
 (.block 0
 (.loop
 (.seq (.region [rq 0 9 (.bin .lss (.tm 8) (.tm 7))] 1 [0,1,7,8,9])
 (.seq (.cond (.tm 9)
 .skip
 (.exit 0))
 (.seq (.block 1
 (.seq (.region [RM 0 10 8,
 RM 1 5 10] 2 [0,1,5,7,8])
 (.seq (.region [RM 0 11 1,
 RM 1 12 0,
 RM 2 13 5,
 rq 3 14 (.idx 5 (.tm 12) (.tm 13)),
 rq 4 15 (.load 5 true (.tm 14)),
 rq 5 16 (.rE (.tm 11) [(.tm 15)])] 6 [0,1,5,7,8,16])
 (.cond (.tm 16)
 (.seq (.region [RM 0 17 5,
 RM 1 4 17] 2 [4])
 .ret)
 .skip))))
 (.region [rq 0 18 (.bin .add (.tm 8) (ki 1)),
 RM 1 8 18] 2 [0,1,7,8])))))))
 (.seq (.region [rq 0 4 (.move (.kv (.int .i64 (-1))))] 1 [4])
 .ret)))
def qL:List Cert:=[⟨[],[0,1]⟩,⟨[],[0,1,7,8]⟩,⟨[],[0,1,7,8,9]⟩,⟨[],[0,1,5,7,8]⟩,⟨[],[0,1,5,7,8,16]⟩,⟨[],[4]⟩,⟨[],[0,1,7,8]⟩,⟨[],[4]⟩]
def jB:List aZ:=[.tm 4]
theorem qQ:aR Tryz.prog Tryz.f210 qL=some (fA,jB):=by kernel_rfl
theorem q9:aP Tryz.prog bZ Tryz.f210 fA jB:=
 aP.mk Tryz.func210 (by kernel_rfl) qQ
def wX:AC:=
 (.seq (.region [rq 0 3 (.box true (.tm 0)),
 rq 1 4 (.move (.kv (.bool false)))] 2 [1,2,3])
 (.seq (.region [RF 0 5 0 3,
 RL 1 6 5,
 RL 2 7 1,
 rq 3 8 (.bin .eql (.tm 6) (.tm 7)),
 RM 4 9 8,
 GQ 5 10 (.fld 1 (.tm 3)) 9 true,
 GQ 6 11 (.load 1 false (.tm 10)) 9 true,
 GQ 7 12 (.load 1 false (.tm 2)) 9 true,
 GQ 8 13 (.bin .eql (.tm 11) (.tm 12)) 9 true,
 rq 9 14 (.pick (.tm 9) (.tm 13) (.kv (.bool false))),
 RM 10 4 14] 11 [4])
 .ret))
def PX:List Cert:=[⟨[],[1,2,3]⟩,⟨[],[4]⟩]
def EY:List aZ:=[.tm 4]
theorem PK:aR Tryz.prog Tryz.f211 PX=some (wX,EY):=by kernel_rfl
theorem P2:aP Tryz.prog sM Tryz.f211 wX EY:=
 aP.mk Tryz.func211 (by kernel_rfl) PK
def eH:AC:=
 (.seq (.region [rq 0 4 (.move (.kv (.bool false)))] 1 [0,1])
 (.seq (.region [RM 0 5 0,
 RM 1 6 1,
 rq 2 7 (.call bZ [(.tm 5),(.tm 6)]),
 rq 3 8 (.bin .geq (.tm 7) (ki 0)),
 RM 4 4 8] 5 [4])
 .ret))
def oC:List Cert:=[⟨[],[0,1]⟩,⟨[],[4]⟩]
def hC:List aZ:=[.tm 4]
theorem oF:aR Tryz.prog Tryz.f212 oC=some (eH,hC):=by kernel_rfl
theorem n9:aP Tryz.prog cM Tryz.f212 eH hC:=
 aP.mk Tryz.func212 (by kernel_rfl) oF
def lM:AC:=
 (.seq (.region [rq 0 3 (.box true (.tm 0)),
 rq 1 4 (.move (.kv (.bool false)))] 2 [1,2,3])
 (.seq (.region [RF 0 5 0 3,
 RL 1 6 5,
 RF 2 7 1 1,
 RL 3 8 7,
 rq 4 9 (.bin .eql (.tm 6) (.tm 8)),
 RM 5 10 9,
 GQ 6 11 (.fld 1 (.tm 3)) 10 true,
 GQ 7 12 (.load 1 false (.tm 11)) 10 true,
 GQ 8 13 (.fld 2 (.tm 1)) 10 true,
 GQ 9 14 (.load 1 false (.tm 13)) 10 true,
 GQ 10 15 (.bin .lss (.tm 12) (.tm 14)) 10 true,
 rq 11 16 (.pick (.tm 10) (.tm 15) (.kv (.bool false))),
 RM 12 17 16,
 GQ 13 18 (.load 3 true (.tm 2)) 17 true,
 GQ 14 19 (.fld 0 (.tm 3)) 17 true,
 GQ 15 20 (.load 1 false (.tm 19)) 17 true,
 GQ 16 21 (.fld 1 (.tm 3)) 17 true,
 GQ 17 22 (.load 1 false (.tm 21)) 17 true,
 ⟨19,(some 24),.load 3 true (.tm 2),(some (17,true)),[],[],true⟩,
 GQ 20 25 (.fld 1 (.tm 1)) 17 true,
 ⟨21,(some 26),.load 1 false (.tm 25),(some (17,true)),[],[],true⟩,
 GQ 22 27 (.fld 2 (.tm 1)) 17 true,
 ⟨23,(some 28),.load 1 false (.tm 27),(some (17,true)),[],[],true⟩,
 ⟨18,(some 23),.call dE [(.tm 18),(.tm 20),(.tm 22)],(some (17,true)),[],[19,21,23],false⟩,
 GQ 24 29 (.call dE [(.tm 24),(.tm 26),(.tm 28)]) 17 true,
 GQ 25 30 (.bin .eql (.tm 23) (.tm 29)) 17 true,
 rq 26 31 (.pick (.tm 17) (.tm 30) (.kv (.bool false))),
 RM 27 4 31] 28 [4])
 .ret))
def DJ:List Cert:=[⟨[],[1,2,3]⟩,⟨[cz 0,cz 1,cz 2,cz 3,cz 4,cz 5,cz 6,cz 7,cz 8,cz 9,cz 10,cz 11,cz 12,cz 13,cz 14,cz 15,cz 16,cz 17,(19,[],[],true),cz 20,(21,[],[],true),cz 22,(23,[],[],true),(18,[],[19,21,23],false),cz 24,cz 25,cz 26,cz 27],[4]⟩]
def s8:List aZ:=[.tm 4]
theorem EC:aR Tryz.prog Tryz.f213 DJ=some (lM,s8):=by kernel_rfl
theorem DN:aP Tryz.prog jE Tryz.f213 lM s8:=
 aP.mk Tryz.func213 (by kernel_rfl) EC
def cC:AC:=
 (.seq (.region [rq 0 4 (.box true (.tm 1)),
 rq 1 6 (.move (ki 0)),
 rq 2 7 (.move (.kv (.bool false)))] 3 [0,2,4])
 (.seq (.region [RM 0 12 0,
 rq 1 13 (.len false (.tm 12)),
 RM 2 8 13] 3 [0,2,4,8])
 (.seq (.region [RM 0 14 8,
 rq 1 9 (.move (ki 0)),
 RM 2 10 14] 3 [0,2,4,8,9,10])
 (.seq (.block 0
 (.loop
 (.seq (.seq (.region [RM 0 15 9,
 RM 1 16 10,
 rq 2 17 (.bin .lss (.tm 15) (.tm 16))] 3 [0,2,4,8,9,10,17])
 (.cond (.tm 17)
 .skip
 (.exit 0)))
 (.block 1
 (.seq (.region [RM 0 18 9,
 RM 1 19 10,
 rq 2 20 (.bin .add (.tm 18) (.tm 19)),
 rq 3 21 (.conv .u64 (.tm 20)),
 rq 4 22 (.bin .shr (.tm 21) (.kv (.int .u64 1))),
 rq 5 23 (.conv .i64 (.tm 22)),
 RM 6 11 23] 7 [0,2,4,8,9,10,11])
 (.seq (.region [RM 0 24 2,
 RM 1 25 0,
 RM 2 26 11,
 rq 3 27 (.idx 5 (.tm 25) (.tm 26)),
 rq 4 28 (.load 5 true (.tm 27)),
 rq 5 29 (.load 5 true (.tm 4)),
 rq 6 30 (.rE (.tm 24) [(.tm 28),(.tm 29)]),
 rq 7 31 (.bin .lss (.tm 30) (ki 0))] 8 [0,2,4,8,9,10,11,31])
 (.cond (.tm 31)
 (.region [RM 0 32 11,
 rq 1 33 (.bin .add (.tm 32) (ki 1)),
 RM 2 9 33] 3 [0,2,4,8,9,10])
 (.region [RM 0 34 11,
 RM 1 10 34] 2 [0,2,4,8,9,10]))))))))
 (.seq (.region [RM 0 35 9,
 RM 1 36 9,
 RM 2 37 8,
 rq 3 38 (.bin .lss (.tm 36) (.tm 37)),
 RM 4 39 38,
 GQ 5 40 (.move (.tm 2)) 39 true,
 GQ 6 41 (.move (.tm 0)) 39 true,
 GQ 7 42 (.move (.tm 9)) 39 true,
 GQ 8 43 (.idx 5 (.tm 41) (.tm 42)) 39 true,
 GQ 9 44 (.load 5 true (.tm 43)) 39 true,
 GQ 10 45 (.load 5 true (.tm 4)) 39 true,
 GQ 11 46 (.rE (.tm 40) [(.tm 44),(.tm 45)]) 39 true,
 GQ 12 47 (.bin .eql (.tm 46) (ki 0)) 39 true,
 rq 13 48 (.pick (.tm 39) (.tm 47) (.kv (.bool false))),
 RM 14 6 35,
 RM 15 7 48] 16 [6,7])
 .ret)))))
def jJ:List Cert:=[⟨[],[0,2,4]⟩,⟨[],[0,2,4,8]⟩,⟨[],[0,2,4,8,9,10]⟩,⟨[],[0,2,4,8,9,10,17]⟩,⟨[],[0,2,4,8,9,10,11]⟩,⟨[cz 0,cz 1,cz 2,cz 3,cz 4,cz 5,cz 6,cz 7],[0,2,4,8,9,10,11,31]⟩,⟨[],[0,2,4,8,9,10]⟩,⟨[],[0,2,4,8,9,10]⟩,⟨[cz 0,cz 1,cz 2,cz 3,cz 4,cz 5,cz 6,cz 7,cz 8,cz 9,cz 10,cz 11,cz 12,cz 13,cz 14,cz 15],[6,7]⟩]
def eK:List aZ:=[.tm 6,.tm 7]
theorem jO:aR Tryz.prog Tryz.f214 jJ=some (cC,eK):=by kernel_rfl
theorem jL:aP Tryz.prog bO Tryz.f214 cC eK:=
 aP.mk Tryz.func214 (by kernel_rfl) jO
def fY:AC:=
 (.seq (.region [rq 0 6 (.move (.kv (.slice none 0 0)))] 1 [0,1,2])
 (.seq (.region [RM 0 10 0,
 RM 1 11 1,
 rq 2 12 (.slc 5 (.tm 10) (some (.tm 11)) none none)] 3 [0,1,2])
 (.seq (.region [RM 0 13 2,
 rq 1 14 (.len false (.tm 13)),
 RM 2 7 14] 3 [0,1,2,7])
 (.seq (.seq (.region [RM 0 15 7,
 rq 1 16 (.bin .eql (.tm 15) (ki 0))] 2 [0,1,2,7,16])
 (.cond (.tm 16)
 (.seq (.region [RM 0 17 0,
 RM 1 6 17] 2 [6])
 .ret)
 .skip))
 (.seq (.region [RM 0 18 0,
 rq 1 19 (.len false (.tm 18)),
 RM 2 8 19] 3 [0,1,2,7,8])
 (.seq (.seq (.region [RM 0 20 1,
 RM 1 21 8,
 rq 2 22 (.bin .eql (.tm 20) (.tm 21))] 3 [0,1,2,7,8,22])
 (.cond (.tm 22)
 (.seq (.region [RM 0 23 0,
 RM 1 24 2,
 rq 2 25 (.append 5 (.tm 23) (.tm 24)),
 RM 3 6 25] 4 [6])
 .ret)
 .skip))
 (.seq (.seq (.region [RM 0 26 8,
 RM 1 27 7,
 rq 2 28 (.bin .add (.tm 26) (.tm 27)),
 RM 3 29 0,
 rq 4 30 (.cap (.tm 29)),
 rq 5 31 (.bin .gtr (.tm 28) (.tm 30))] 6 [0,1,2,7,8,31])
 (.cond (.tm 31)
 (.seq (.region [RM 0 32 0,
 RM 1 33 1,
 rq 2 34 (.slc 5 (.tm 32) none (some (.tm 33)) none),
 RM 3 35 8,
 RM 4 36 7,
 rq 5 37 (.bin .add (.tm 35) (.tm 36)),
 RM 6 38 1,
 rq 7 39 (.bin .sub (.tm 37) (.tm 38)),
 rq 8 40 (.xop (.QY 5 [VZ,VZ,VZ,VZ,OZ]) [(.tm 34),(.tm 39)]),
 RM 9 9 40] 10 [0,1,2,7,9])
 (.seq (.region [RM 0 41 9,
 RM 1 42 1,
 rq 2 43 (.slc 5 (.tm 41) (some (.tm 42)) none none),
 RM 3 44 2,
 rq 4 45 (.xop (.copy 5) [(.tm 43),(.tm 44)])] 5 [0,1,7,9])
 (.seq (.region [RM 0 46 9,
 RM 1 47 1,
 RM 2 48 7,
 rq 3 49 (.bin .add (.tm 47) (.tm 48)),
 rq 4 50 (.slc 5 (.tm 46) (some (.tm 49)) none none),
 RM 5 51 0,
 RM 6 52 1,
 rq 7 53 (.slc 5 (.tm 51) (some (.tm 52)) none none),
 rq 8 54 (.xop (.copy 5) [(.tm 50),(.tm 53)])] 9 [9])
 (.seq (.region [RM 0 55 9,
 RM 1 6 55] 2 [6])
 .ret))))
 .skip))
 (.seq (.region [RM 0 56 0,
 RM 1 57 8,
 RM 2 58 7,
 rq 3 59 (.bin .add (.tm 57) (.tm 58)),
 rq 4 60 (.slc 5 (.tm 56) none (some (.tm 59)) none),
 RM 5 0 60] 6 [0,1,2,7,8])
 (.seq (.seq (.region [RM 0 61 2,
 RM 1 62 0,
 RM 2 63 1,
 RM 3 64 7,
 rq 4 65 (.bin .add (.tm 63) (.tm 64)),
 rq 5 66 (.slc 5 (.tm 62) (some (.tm 65)) none none),
 rq 6 67 (.xop (.TZ pV) [(.tm 61),(.tm 66)]),
 rq 7 68 (.un .not (.tm 67))] 8 [0,1,2,7,8,68])
 (.cond (.tm 68)
 (.seq (.region [RM 0 69 0,
 RM 1 70 1,
 RM 2 71 7,
 rq 3 72 (.bin .add (.tm 70) (.tm 71)),
 rq 4 73 (.slc 5 (.tm 69) (some (.tm 72)) none none),
 RM 5 74 0,
 RM 6 75 1,
 rq 7 76 (.slc 5 (.tm 74) (some (.tm 75)) none none),
 rq 8 77 (.xop (.copy 5) [(.tm 73),(.tm 76)])] 9 [0,1,2])
 (.seq (.region [RM 0 78 0,
 RM 1 79 1,
 rq 2 80 (.slc 5 (.tm 78) (some (.tm 79)) none none),
 RM 3 81 2,
 rq 4 82 (.xop (.copy 5) [(.tm 80),(.tm 81)])] 5 [0])
 (.seq (.region [RM 0 83 0,
 RM 1 6 83] 2 [6])
 .ret)))
 .skip))
 (.seq (.region [RM 0 84 0,
 RM 1 85 8,
 rq 2 86 (.slc 5 (.tm 84) (some (.tm 85)) none none),
 RM 3 87 2,
 rq 4 88 (.xop (.copy 5) [(.tm 86),(.tm 87)])] 5 [0,1,7])
 (.seq (.region [RM 0 89 0,
 RM 1 90 1,
 rq 2 91 (.slc 5 (.tm 89) (some (.tm 90)) none none),
 RM 3 92 7,
 rq 4 93 (.call xY [(.tm 91),(.tm 92)])] 5 [0])
 (.seq (.region [RM 0 94 0,
 RM 1 6 94] 2 [6])
 .ret))))))))))))
def tQ:List Cert:=[⟨[],[0,1,2]⟩,⟨[],[0,1,2]⟩,⟨[],[0,1,2,7]⟩,⟨[],[0,1,2,7,16]⟩,⟨[],[6]⟩,⟨[],[0,1,2,7,8]⟩,⟨[],[0,1,2,7,8,22]⟩,⟨[],[6]⟩,⟨[],[0,1,2,7,8,31]⟩,⟨[],[0,1,2,7,9]⟩,⟨[],[0,1,7,9]⟩,⟨[cz 0,cz 1,cz 2,cz 3,cz 4,cz 5,cz 6,cz 7,cz 8],[9]⟩,⟨[],[6]⟩,⟨[],[0,1,2,7,8]⟩,⟨[],[0,1,2,7,8,68]⟩,⟨[cz 0,cz 1,cz 2,cz 3,cz 4,cz 5,cz 6,cz 7,cz 8],[0,1,2]⟩,⟨[],[0]⟩,⟨[],[6]⟩,⟨[],[0,1,7]⟩,⟨[],[0]⟩,⟨[],[6]⟩]
def kN:List aZ:=[.tm 6]
theorem tN:aR Tryz.prog Tryz.f215 tQ=some (fY,kN):=by kernel_rfl
theorem tO:aP Tryz.prog eE Tryz.f215 fY kN:=
 aP.mk Tryz.func215 (by kernel_rfl) tN
def uZ:AC:=
 (.seq (.region [rq 0 2 (.move (.kv (.bool false)))] 1 [0])
 (.seq (.region [RM 0 3 0,
 RM 1 4 0,
 rq 2 5 (.bin .neq (.tm 3) (.tm 4)),
 RM 3 2 5] 4 [2])
 .ret))
def M5:List Cert:=[⟨[],[0]⟩,⟨[],[2]⟩]
def BT:List aZ:=[.tm 2]
theorem MU:aR Tryz.prog Tryz.f218 M5=some (uZ,BT):=by kernel_rfl
theorem NK:aP Tryz.prog lY Tryz.f218 uZ BT:=
 aP.mk Tryz.func218 (by kernel_rfl) MU
def u9:AC:=
 (.seq (.region [rq 0 6 (.move (.kv (.slice none 0 0)))] 1 [0,1,2])
 (.seq (.seq (.region [RM 0 9 0,
 RM 1 10 1,
 RM 2 11 2,
 rq 3 12 (.call n8 [(.tm 9),(.tm 10),(.tm 11)]),
 rq 4 13 (.un .not (.tm 12))] 5 [0,1,2,13])
 (.cond (.tm 13)
 (.seq (.region [rq 0 6 (.move (.kv (.slice none 0 0)))] 1 [6])
 .ret)
 .skip))
 (.seq (.region [RM 0 14 1,
 rq 1 15 (.oK 1 [VZ] (.tm 14) (.tm 14)),
 RM 2 7 15] 3 [0,1,2,7])
 (.seq (.seq (.region [RM 0 16 7,
 rq 1 17 (.len false (.tm 16)),
 rq 2 18 (.move (ki 0))] 3 [0,1,2,7,17,18])
 (.block 0
 (.loop
 (.seq (.region [rq 0 19 (.bin .lss (.tm 18) (.tm 17))] 1 [0,1,2,7,17,18,19])
 (.seq (.cond (.tm 19)
 .skip
 (.exit 0))
 (.seq (.block 1
 (.seq (.region [RM 0 20 18,
 RM 1 8 20] 2 [0,1,2,7,8,17,18])
 (.seq (.region [RM 0 21 7,
 RM 1 22 8,
 RM 2 23 0,
 RM 3 24 8,
 rq 4 25 (.bin .add (.tm 23) (.tm 24)),
 rq 5 26 (.idx 1 (.tm 21) (.tm 22)),
 rn 6 (.store 1 false (.tm 26) (.tm 25))] 7 [0,1,2,7,8,17,18])
 (.seq (.region [RM 0 27 2] 1 [0,1,2,7,8,17,18,27])
 (.cond (.tm 27)
 (.region [RM 0 28 7,
 RM 1 29 8,
 RM 2 30 0,
 RM 3 31 0,
 RM 4 32 1,
 rq 5 33 (.bin .rem (.tm 31) (.tm 32)),
 rq 6 34 (.bin .sub (.tm 30) (.tm 33)),
 RM 7 35 0,
 RM 8 36 8,
 rq 9 37 (.bin .add (.tm 35) (.tm 36)),
 RM 10 38 1,
 rq 11 39 (.bin .rem (.tm 37) (.tm 38)),
 rq 12 40 (.bin .add (.tm 34) (.tm 39)),
 rq 13 41 (.idx 1 (.tm 28) (.tm 29)),
 rn 14 (.store 1 false (.tm 41) (.tm 40))] 15 [0,1,2,7,17,18])
 .skip)))))
 (.region [rq 0 42 (.bin .add (.tm 18) (ki 1)),
 RM 1 18 42] 2 [0,1,2,7,17,18])))))))
 (.seq (.region [RM 0 43 7,
 RM 1 6 43] 2 [6])
 .ret)))))
def M0:List Cert:=[⟨[],[0,1,2]⟩,⟨[],[0,1,2,13]⟩,⟨[],[6]⟩,⟨[],[0,1,2,7]⟩,⟨[],[0,1,2,7,17,18]⟩,⟨[],[0,1,2,7,17,18,19]⟩,⟨[],[0,1,2,7,8,17,18]⟩,⟨[],[0,1,2,7,8,17,18]⟩,⟨[],[0,1,2,7,8,17,18,27]⟩,⟨[cz 0,cz 1,cz 2,cz 3,cz 4,cz 5,cz 6,cz 7,cz 8,cz 9,cz 10,cz 11,cz 12,cz 13,cz 14],[0,1,2,7,17,18]⟩,⟨[],[0,1,2,7,17,18]⟩,⟨[],[6]⟩]
def B8:List aZ:=[.tm 6]
theorem N3:aR Tryz.prog Tryz.f219 M0=some (u9,B8):=by kernel_rfl
theorem NP:aP Tryz.prog qE Tryz.f219 u9 B8:=
 aP.mk Tryz.func219 (by kernel_rfl) N3
def kD:AC:=
 (.seq (.region [rq 0 4 (.move (ki 0))] 1 [0,1])
 (.seq (.seq (.region [RM 0 6 0,
 rq 1 7 (.len false (.tm 6)),
 rq 2 8 (.move (ki 0))] 3 [0,1,7,8])
 (.block 0
 (.loop
 (.seq (.region [rq 0 9 (.bin .lss (.tm 8) (.tm 7))] 1 [0,1,7,8,9])
 (.seq (.cond (.tm 9)
 .skip
 (.exit 0))
 (.seq (.block 1
 (.seq (.region [RM 0 10 8,
 RM 1 5 10] 2 [0,1,5,7,8])
 (.seq (.region [RM 0 11 1,
 RM 1 12 0,
 RM 2 13 5,
 rq 3 14 (.idx 1 (.tm 12) (.tm 13)),
 RL 4 15 14,
 rq 5 16 (.bin .eql (.tm 11) (.tm 15))] 6 [0,1,5,7,8,16])
 (.cond (.tm 16)
 (.seq (.region [RM 0 17 5,
 RM 1 4 17] 2 [4])
 .ret)
 .skip))))
 (.region [rq 0 18 (.bin .add (.tm 8) (ki 1)),
 RM 1 8 18] 2 [0,1,7,8])))))))
 (.seq (.region [rq 0 4 (.move (.kv (.int .i64 (-1))))] 1 [4])
 .ret)))
def AS:List Cert:=[⟨[],[0,1]⟩,⟨[],[0,1,7,8]⟩,⟨[],[0,1,7,8,9]⟩,⟨[],[0,1,5,7,8]⟩,⟨[],[0,1,5,7,8,16]⟩,⟨[],[4]⟩,⟨[],[0,1,7,8]⟩,⟨[],[4]⟩]
def pW:List aZ:=[.tm 4]
theorem BD:aR Tryz.prog Tryz.f220 AS=some (kD,pW):=by kernel_rfl
theorem A6:aP Tryz.prog iA Tryz.f220 kD pW:=
 aP.mk Tryz.func220 (by kernel_rfl) BD
def dY:AC:=
 (.seq (.region [rq 0 4 (.move (ki 0))] 1 [0,1])
 (.seq (.seq (.region [RM 0 6 0,
 rq 1 7 (.len false (.tm 6)),
 rq 2 8 (.move (ki 0))] 3 [0,1,7,8])
 (.block 0
 (.loop
 (.seq (.region [rq 0 9 (.bin .lss (.tm 8) (.tm 7))] 1 [0,1,7,8,9])
 (.seq (.cond (.tm 9)
 .skip
 (.exit 0))
 (.seq (.block 1
 (.seq (.region [RM 0 10 8,
 RM 1 5 10] 2 [0,1,5,7,8])
 (.seq (.region [RM 0 11 1,
 RM 1 12 0,
 RM 2 13 5,
 rq 3 14 (.idx 4 (.tm 12) (.tm 13)),
 rq 4 15 (.load 4 true (.tm 14)),
 rq 5 16 (.rE (.tm 11) [(.tm 15)])] 6 [0,1,5,7,8,16])
 (.cond (.tm 16)
 (.seq (.region [RM 0 17 5,
 RM 1 4 17] 2 [4])
 .ret)
 .skip))))
 (.region [rq 0 18 (.bin .add (.tm 8) (ki 1)),
 RM 1 8 18] 2 [0,1,7,8])))))))
 (.seq (.region [rq 0 4 (.move (.kv (.int .i64 (-1))))] 1 [4])
 .ret)))
def nV:List Cert:=[⟨[],[0,1]⟩,⟨[],[0,1,7,8]⟩,⟨[],[0,1,7,8,9]⟩,⟨[],[0,1,5,7,8]⟩,⟨[],[0,1,5,7,8,16]⟩,⟨[],[4]⟩,⟨[],[0,1,7,8]⟩,⟨[],[4]⟩]
def gU:List aZ:=[.tm 4]
theorem nJ:aR Tryz.prog Tryz.f229 nV=some (dY,gU):=by kernel_rfl
theorem nR:aP Tryz.prog bR Tryz.f229 dY gU:=
 aP.mk Tryz.func229 (by kernel_rfl) nJ
def rC:AC:=
 (.seq (.region [rq 0 2 (.move (.kv (.bool false)))] 1 [0])
 (.seq (.region [RM 0 3 0,
 rq 1 4 (.call vJ [(.tm 3)]),
 rq 2 5 (.un .not (.tm 4)),
 RM 3 2 5] 4 [2])
 .ret))
def J7:List Cert:=[⟨[],[0]⟩,⟨[],[2]⟩]
def yW:List aZ:=[.tm 2]
theorem J1:aR Tryz.prog Tryz.f230 J7=some (rC,yW):=by kernel_rfl
theorem JZ:aP Tryz.prog mU Tryz.f230 rC yW:=
 aP.mk Tryz.func230 (by kernel_rfl) J1
def zG:AC:=
 (.seq (.region [rq 0 2 (.move (.kv (.bool false)))] 1 [0])
 (.seq (.region [RM 0 3 0,
 rq 1 4 (.call cE [(.tm 3),(ki 0),(ki 65535)]),
 RM 2 2 4] 3 [2])
 .ret))
def T1:List Cert:=[⟨[],[0]⟩,⟨[],[2]⟩]
def HI:List aZ:=[.tm 2]
theorem SY:aR Tryz.prog Tryz.f231 T1=some (zG,HI):=by kernel_rfl
theorem QN:aP Tryz.prog vJ Tryz.f231 zG HI:=
 aP.mk Tryz.func231 (by kernel_rfl) SY
def sW:AC:=
 (.seq (.region [rq 0 2 (.box true (.tm 0)),
 rq 1 3 (.move (.kv (.bool false)))] 2 [1,2])
 (.seq (.region [RL 0 4 1,
 RF 1 5 0 2,
 RL 2 6 5,
 RF 3 7 1 2,
 RL 4 8 7,
 rq 5 9 (.call cE [(.tm 4),(.tm 6),(.tm 8)]),
 RM 6 3 9] 7 [3])
 .ret))
def LR:List Cert:=[⟨[],[1,2]⟩,⟨[],[3]⟩]
def AA:List aZ:=[.tm 3]
theorem LB:aR Tryz.prog Tryz.f234 LR=some (sW,AA):=by kernel_rfl
theorem K1:aP Tryz.prog oO Tryz.f234 sW AA:=
 aP.mk Tryz.func234 (by kernel_rfl) LB
end Go.Proofs.YtegiblhkjfiooaaGreat
