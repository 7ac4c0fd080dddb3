/- Texts laid together by a program: rules, contracts and the walk that leads to the law. -/
import Derived.Test.YtegiblhkjfiooaaGreatPa3
set_option linter.unusedVariables false
set_option linter.unusedSimpArgs false
set_option linter.unusedSectionVars false
section
namespace Go.Proofs.YtegiblhkjfiooaaGreat
open Go Go.AM
set_option maxRecDepth 100000
def rH:AC:=
 (.seq (.region [rq 0 4 (.move (.kv (.bool false)))] 1 [0,1])
 (.seq (.region [RM 0 5 1,
 rq 1 6 (.bin .lss (.tm 5) (ki 9000)),
 RM 2 7 6,
 GQ 3 8 (.move (.tm 0)) 7 true,
 GQ 4 9 (.move (.tm 1)) 7 true,
 GQ 5 10 (.call aD [(.tm 8),(.tm 9)]) 7 true,
 GQ 6 11 (.move (.tm 1)) 7 true,
 GQ 7 12 (.bin .sub (.tm 11) (ki 1)) 7 true,
 GQ 8 13 (.bin .eql (.tm 10) (.tm 12)) 7 true,
 rq 9 14 (.pick (.tm 7) (.tm 13) (.kv (.bool false))),
 RM 10 4 14] 11 [4])
 .ret))
def LN:List Cert:=[⟨[],[0,1]⟩,⟨[],[4]⟩]
def zF:List aW:=[.tm 4]
theorem KV:aO Tryz.prog Tryz.f97 LN=some (rH,zF):=by kernel_rfl
theorem LF:aN Tryz.prog kE Tryz.f97 rH zF:=
 aN.mk Tryz.func97 (by kernel_rfl) KV
def pG:AC:=
 (.seq (.region [rq 0 4 (.move (ki 0))] 1 [0,1])
 (.seq (.region [RM 0 7 0,
 RM 1 8 0,
 RK 2 9 8,
 RF 3 10 1 9,
 RL 4 11 10,
 rq 5 12 (.bin .add (.tm 11) (ki 1)),
 RK 6 13 7,
 RF 7 14 1 13,
 rn 8 (.store 1 false (.tm 14) (.tm 12))] 9 [0,1])
 (.seq (.seq (.region [RM 0 15 1,
 rq 1 16 (.bin .lss (.tm 15) (ki 1)),
 RM 2 17 16,
 GQ 3 18 (.move (.tm 0)) 17 false,
 GQ 4 19 (.tF (.tm 18)) 17 false,
 GQ 5 20 (.fld 0 (.tm 19)) 17 false,
 GQ 6 21 (.load 1 false (.tm 20)) 17 false,
 GQ 7 22 (.len false (.tm 21)) 17 false,
 GQ 8 23 (.bin .eql (.tm 22) (ki 0)) 17 false,
 rq 9 24 (.pick (.tm 17) (.kv (.bool true)) (.tm 23))] 10 [0,1,24])
 (.cond (.tm 24)
 (.seq (.region [rq 0 4 (.move (ki 0))] 1 [4])
 .ret)
 .skip))
 (.seq (.region [RM 0 25 0,
 RK 1 26 25,
 RF 2 27 1 26,
 RL 3 28 27,
 rq 4 29 (.bin .sub (.tm 28) (ki 1)),
 RM 5 5 29] 6 [0,1,5])
 (.seq (.seq (.region [RM 0 30 5,
 RM 1 31 0,
 RK 2 32 31,
 RF 3 33 0 32,
 RL 4 34 33,
 rq 5 35 (.len false (.tm 34)),
 rq 6 36 (.bin .lss (.tm 30) (.tm 35))] 7 [0,1,5,36])
 (.cond (.tm 36)
 (.seq (.region [RM 0 37 0,
 RK 1 38 37,
 RF 2 39 0 38,
 RL 3 40 39,
 RM 4 41 5,
 rq 5 42 (.idx 1 (.tm 40) (.tm 41)),
 RL 6 43 42,
 rq 7 44 (.conv .i64 (.tm 43)),
 RM 8 45 1,
 rq 9 46 (.bin .rem (.tm 44) (.tm 45)),
 RM 10 4 46] 11 [4])
 .ret)
 .skip))
 (.seq (.region [RM 0 47 0,
 RK 1 48 47,
 RF 2 49 0 48,
 RL 3 50 49,
 RM 4 51 5,
 RM 5 52 0,
 RK 6 53 52,
 RF 7 54 0 53,
 RL 8 55 54,
 rq 9 56 (.len false (.tm 55)),
 rq 10 57 (.bin .rem (.tm 51) (.tm 56)),
 rq 11 58 (.idx 1 (.tm 50) (.tm 57)),
 RL 12 59 58,
 rq 13 60 (.conv .i64 (.tm 59)),
 rq 14 61 (.bin .mul (.tm 60) (ki 131)),
 RM 15 62 0,
 RK 16 63 62,
 RF 17 64 0 63,
 RL 18 65 64,
 RM 19 66 5,
 rq 20 67 (.bin .mul (.tm 66) (ki 7)),
 rq 21 68 (.bin .add (.tm 67) (ki 3)),
 RM 22 69 0,
 RK 23 70 69,
 RF 24 71 0 70,
 RL 25 72 71,
 rq 26 73 (.len false (.tm 72)),
 rq 27 74 (.bin .rem (.tm 68) (.tm 73)),
 rq 28 75 (.idx 1 (.tm 65) (.tm 74)),
 RL 29 76 75,
 rq 30 77 (.conv .i64 (.tm 76)),
 rq 31 78 (.bin .mul (.tm 77) (ki 1117)),
 rq 32 79 (.bin .add (.tm 61) (.tm 78)),
 RM 33 80 5,
 rq 34 81 (.bin .mul (.tm 80) (ki 29)),
 rq 35 82 (.bin .add (.tm 79) (.tm 81)),
 RM 36 83 5,
 RM 37 84 0,
 RK 38 85 84,
 RF 39 86 0 85,
 RL 40 87 86,
 rq 41 88 (.len false (.tm 87)),
 rq 42 89 (.bin .quo (.tm 83) (.tm 88)),
 rq 43 90 (.bin .mul (.tm 89) (ki 53)),
 rq 44 91 (.bin .add (.tm 82) (.tm 90)),
 RM 45 6 91] 46 [1,6])
 (.seq (.region [RM 0 92 6,
 RM 1 93 6,
 rq 2 94 (.bin .quo (.tm 93) (ki 64)),
 rq 3 95 (.bin .xor (.tm 92) (.tm 94)),
 RM 4 6 95] 5 [1,6])
 (.seq (.region [RM 0 96 6,
 RM 1 97 1,
 rq 2 98 (.bin .rem (.tm 96) (.tm 97)),
 RM 3 4 98] 4 [4])
 .ret))))))))
def JC:List Cert:=[⟨[],[0,1]⟩,⟨[],[0,1]⟩,⟨[],[0,1,24]⟩,⟨[],[4]⟩,⟨[],[0,1,5]⟩,⟨[],[0,1,5,36]⟩,⟨[],[4]⟩,⟨[cz 0,cz 1,cz 2,cz 3,cz 4,cz 5,cz 6,cz 7,cz 8,cz 9,cz 10,cz 11,cz 12,cz 13,cz 14,cz 15,cz 16,cz 17,cz 18,cz 19,cz 20,cz 21,cz 22,cz 23,cz 24,cz 25,cz 26,cz 27,cz 28,cz 29,cz 30,cz 31,cz 32,cz 33,cz 34,cz 35,cz 36,cz 37,cz 38,cz 39,cz 40,cz 41,cz 42,cz 43,cz 44,cz 45],[1,6]⟩,⟨[],[1,6]⟩,⟨[],[4]⟩]
def wZ:List aW:=[.tm 4]
theorem JJ:aO Tryz.prog Tryz.f104 JC=some (pG,wZ):=by kernel_rfl
theorem JN:aN Tryz.prog aD Tryz.f104 pG wZ:=
 aN.mk Tryz.func104 (by kernel_rfl) JJ
def w9:AC:=
 (.seq (.region [rq 0 4 (.move (.kv (.slice none 0 0)))] 1 [0,1])
 (.seq (.region [rq 0 7 (.build [VZ,VZ,VZ,(.v (.bool false))] [(0,1,(ki 0)),(1,1,(ki 15))]),
 rq 1 8 (.build [VZ,VZ,VZ,(.v (.bool false))] [(0,1,(ki 16)),(1,1,(ki 31)),(2,1,(ki 1))]),
 RM 2 9 0,
 rq 3 10 (.call aD [(.tm 9),(ki 3)]),
 rq 4 11 (.bin .eql (.tm 10) (ki 0)),
 rq 5 12 (.build [VZ,VZ,VZ,(.v (.bool false))] [(0,1,(ki 32)),(1,1,(ki 47)),(2,1,(ki 2)),(3,1,(.tm 11))]),
 rq 6 13 (.bC 4 3 [VZ,VZ,VZ,(.v (.bool false))] [(0,4,(.tm 7)),(4,4,(.tm 8)),(8,4,(.tm 12))]),
 RM 7 5 13] 8 [0,1,5])
 (.seq (.seq (.region [RM 0 14 0,
 rq 1 15 (.call aD [(.tm 14),(ki 4)])] 2 [0,1,5,15])
 (.block 0
 (.seq (.region [rq 0 17 (.bin .eql (.tm 15) (ki 0)),
 RM 1 16 17] 2 [0,1,5,15,16])
 (.cond (.tm 16)
 (.region [rq 0 18 (.build [VZ,VZ,VZ,(.v (.bool false))] [(0,1,(ki 0)),(1,1,(ki 7))]),
 rq 1 19 (.build [VZ,VZ,VZ,(.v (.bool false))] [(0,1,(ki 8)),(1,1,(ki 15)),(2,1,(ki 1))]),
 RM 2 20 0,
 rq 3 21 (.call aD [(.tm 20),(ki 3)]),
 rq 4 22 (.build [VZ,VZ,VZ,(.v (.bool false))] [(0,1,(ki 20)),(1,1,(ki 40)),(2,1,(.tm 21))]),
 RM 5 23 0,
 rq 6 24 (.call aD [(.tm 23),(ki 2)]),
 rq 7 25 (.bin .eql (.tm 24) (ki 0)),
 rq 8 26 (.build [VZ,VZ,VZ,(.v (.bool false))] [(0,1,(ki 41)),(1,1,(ki 63)),(2,1,(ki 2)),(3,1,(.tm 25))]),
 rq 9 27 (.bC 4 4 [VZ,VZ,VZ,(.v (.bool false))] [(0,4,(.tm 18)),(4,4,(.tm 19)),(8,4,(.tm 22)),(12,4,(.tm 26))]),
 RM 10 5 27] 11 [0,1,5])
 (.seq (.region [rq 0 29 (.bin .eql (.tm 15) (ki 1)),
 RM 1 28 29] 2 [0,1,5,28])
 (.cond (.tm 28)
 (.region [RM 0 30 5,
 RM 1 31 0,
 rq 2 32 (.call aD [(.tm 31),(ki 3)]),
 rq 3 33 (.bin .add (ki 1) (.tm 32)),
 rq 4 34 (.slc 4 (.tm 30) none (some (.tm 33)) none),
 RM 5 5 34] 6 [0,1,5])
 .skip))))))
 (.seq (.seq (.region [RM 0 35 0,
 RM 1 36 1,
 rq 2 37 (.call kE [(.tm 35),(.tm 36)])] 3 [0,5,37])
 (.cond (.tm 37)
 (.seq (.region [RM 0 38 0,
 RM 1 39 5,
 rq 2 40 (.len false (.tm 39)),
 rq 3 41 (.call aD [(.tm 38),(.tm 40)]),
 RM 4 6 41] 5 [0,5,6])
 (.seq (.region [RM 0 42 0,
 rq 1 43 (.call aD [(.tm 42),(ki 4)])] 2 [0,5,6,43])
 (.block 1
 (.seq (.region [rq 0 51 (.bin .eql (.tm 43) (ki 0)),
 RM 1 50 51] 2 [0,5,6,43,50])
 (.cond (.tm 50)
 (.region [RM 0 52 5,
 RM 1 53 6,
 RM 2 54 5,
 RM 3 55 6,
 rq 4 56 (.idx 4 (.tm 54) (.tm 55)),
 RF 5 57 1 56,
 ⟨6,(some 58),.load 1 false (.tm 57),none,[8],[],true⟩,
 rq 7 59 (.bin .add (.tm 58) (ki 1)),
 rq 8 60 (.bC 1 3 [VZ] [(0,1,(.kv (.int .i64 (-1)))),(1,1,(.tm 59)),(2,1,(ki 5))]),
 RM 9 61 0,
 ⟨10,(some 62),.call aD [(.tm 61),(ki 3)],none,[8],[6],false⟩,
 rq 11 63 (.idx 1 (.tm 60) (.tm 62)),
 RL 12 64 63,
 rq 13 65 (.idx 4 (.tm 52) (.tm 53)),
 RF 14 66 0 65,
 rn 15 (.store 1 false (.tm 66) (.tm 64))] 16 [5])
 (.seq (.region [rq 0 68 (.bin .eql (.tm 43) (ki 1)),
 RM 1 67 68] 2 [0,5,6,43,67])
 (.cond (.tm 67)
 (.region [RM 0 69 5,
 RM 1 70 6,
 RM 2 71 5,
 RM 3 72 6,
 rq 4 73 (.idx 4 (.tm 71) (.tm 72)),
 RF 5 74 0 73,
 ⟨6,(some 75),.load 1 false (.tm 74),none,[8],[],true⟩,
 rq 7 76 (.bin .sub (.tm 75) (ki 1)),
 rq 8 77 (.bC 1 3 [VZ] [(0,1,(ki 64)),(1,1,(.tm 76)),(2,1,(ki 40))]),
 RM 9 78 0,
 ⟨10,(some 79),.call aD [(.tm 78),(ki 3)],none,[8],[6],false⟩,
 rq 11 80 (.idx 1 (.tm 77) (.tm 79)),
 RL 12 81 80,
 rq 13 82 (.idx 4 (.tm 69) (.tm 70)),
 RF 14 83 1 82,
 rn 15 (.store 1 false (.tm 83) (.tm 81))] 16 [5])
 (.seq (.region [rq 0 85 (.bin .eql (.tm 43) (ki 2)),
 RM 1 84 85] 2 [0,5,6,84])
 (.cond (.tm 84)
 (.region [RM 0 86 5,
 RM 1 87 6,
 rq 2 88 (.bC 1 2 [VZ] [(0,1,(.kv (.int .i64 (-1)))),(1,1,(ki 3))]),
 RM 3 89 0,
 rq 4 90 (.call aD [(.tm 89),(ki 2)]),
 rq 5 91 (.idx 1 (.tm 88) (.tm 90)),
 RL 6 92 91,
 rq 7 93 (.idx 4 (.tm 86) (.tm 87)),
 RF 8 94 2 93,
 rn 9 (.store 1 false (.tm 94) (.tm 92))] 10 [5])
 (.region [RM 0 44 5,
 rq 1 45 (.build [VZ,VZ,VZ,(.v (.bool false))] [(0,1,(ki 60)),(1,1,(ki 61))]),
 rq 2 46 (.build [VZ,VZ,VZ,(.v (.bool false))] [(0,1,(ki 62)),(1,1,(ki 62))]),
 rq 3 47 (.build [VZ,VZ,VZ,(.v (.bool false))] [(0,1,(ki 63)),(1,1,(ki 63))]),
 rq 4 48 (.bC 4 3 [VZ,VZ,VZ,(.v (.bool false))] [(0,4,(.tm 45)),(4,4,(.tm 46)),(8,4,(.tm 47))]),
 rq 5 49 (.append 4 (.tm 44) (.tm 48)),
 RM 6 5 49] 7 [5]))))))))))
 .skip))
 (.seq (.region [RM 0 95 5,
 RM 1 4 95] 2 [4])
 .ret)))))
def R5:List Cert:=[⟨[],[0,1]⟩,⟨[],[0,1,5]⟩,⟨[],[0,1,5,15]⟩,⟨[],[0,1,5,15,16]⟩,⟨[],[0,1,5]⟩,⟨[],[0,1,5,28]⟩,⟨[],[0,1,5]⟩,⟨[],[0,5,37]⟩,⟨[],[0,5,6]⟩,⟨[],[0,5,6,43]⟩,⟨[],[0,5,6,43,50]⟩,⟨[cz 0,cz 1,cz 2,cz 3,cz 4,cz 5,(6,[8],[],true),cz 7,cz 8,cz 9,(10,[8],[6],false),cz 11,cz 12,cz 13,cz 14,cz 15],[5]⟩,⟨[],[0,5,6,43,67]⟩,⟨[cz 0,cz 1,cz 2,cz 3,cz 4,cz 5,(6,[8],[],true),cz 7,cz 8,cz 9,(10,[8],[6],false),cz 11,cz 12,cz 13,cz 14,cz 15],[5]⟩,⟨[],[0,5,6,84]⟩,⟨[],[5]⟩,⟨[],[5]⟩,⟨[],[4]⟩]
def GO:List aW:=[.tm 4]
theorem TD:aO Tryz.prog Tryz.f107 R5=some (w9,GO):=by kernel_rfl
theorem RN:aN Tryz.prog tN Tryz.f107 w9 GO:=
 aN.mk Tryz.func107 (by kernel_rfl) TD
def xW:AC:=
 (.seq (.region [rq 0 4 (.alloc [VZ,VZ,VZ,VZ,(.v (.bool false)),OZ,OZ])] 1 [0,1,4])
 (.seq (.region [RM 0 7 0,
 RM 2 9 0,
 RM 5 12 0,
 rq 7 14 (.bC 1 4 [VZ] [(0,1,(ki 1)),(1,1,(ki 1)),(2,1,(ki 2)),(3,1,(ki 4))]),
 RM 8 15 0,
 RM 12 19 0,
 rq 16 5 (.alloc [VZ,VZ,VZ,VZ,(.v (.bool false)),OZ,OZ]),
 ⟨1,(some 8),.call aD [(.tm 7),(ki 2)],none,[7,16],[],false⟩,
 ⟨3,(some 10),.call aD [(.tm 9),(ki 4)],none,[7,16],[],false⟩,
 rq 4 11 (.bin .add (ki 1) (.tm 10)),
 ⟨6,(some 13),.call qM [(.tm 12)],none,[7,16],[],false⟩,
 ⟨9,(some 16),.call aD [(.tm 15),(ki 4)],none,[7,16],[],false⟩,
 rq 10 17 (.idx 1 (.tm 14) (.tm 16)),
 ⟨11,(some 18),.load 1 false (.tm 17),none,[16],[],true⟩,
 ⟨13,(some 20),.call aD [(.tm 19),(ki 3)],none,[7,16],[11],false⟩,
 rq 14 21 (.bin .eql (.tm 20) (ki 0)),
 rq 15 22 (.build [VZ,VZ,VZ,VZ,(.v (.bool false)),OZ,OZ] [(0,1,(.tm 8)),(1,1,(.tm 11)),(2,1,(.tm 13)),(3,1,(.tm 18)),(4,1,(.tm 21))]),
 rn 17 (.store 7 true (.tm 5) (.tm 22))] 18 [0,1,4,5])
 (.seq (.seq (.region [RF 0 23 1 5,
 RL 1 24 23,
 rq 2 25 (.bin .geq (.tm 24) (ki 3))] 3 [0,1,4,5,25])
 (.cond (.tm 25)
 (.seq (.region [RF 0 26 3 5,
 rn 1 (.store 1 false (.tm 26) (ki 1))] 2 [0,1,4,5])
 (.region [rq 0 27 (.bC 1 4 [VZ] [(0,1,(ki 0)),(1,1,(ki 1)),(2,1,(ki 16)),(3,1,(ki 32))]),
 RM 1 28 0,
 rq 2 29 (.call aD [(.tm 28),(ki 4)]),
 rq 3 30 (.idx 1 (.tm 27) (.tm 29)),
 RL 4 31 30,
 RF 5 32 2 5,
 rn 6 (.store 1 false (.tm 32) (.tm 31))] 7 [0,1,4,5]))
 .skip))
 (.seq (.seq (.region [RF 0 33 4 5,
 RL 1 34 33,
 rq 2 35 (.un .not (.tm 34)),
 RM 3 36 35,
 GQ 4 37 (.fld 2 (.tm 5)) 36 true,
 GQ 5 38 (.load 1 false (.tm 37)) 36 true,
 GQ 6 39 (.fld 3 (.tm 5)) 36 true,
 GQ 7 40 (.load 1 false (.tm 39)) 36 true,
 GQ 8 41 (.bin .add (.tm 38) (.tm 40)) 36 true,
 GQ 9 42 (.bin .sub (.tm 41) (ki 1)) 36 true,
 GQ 10 43 (.bin .gtr (.tm 42) (ki 63)) 36 true,
 rq 11 44 (.pick (.tm 36) (.tm 43) (.kv (.bool false)))] 12 [0,1,4,5,44])
 (.cond (.tm 44)
 (.region [RF 0 45 3 5,
 RL 1 46 45,
 rq 2 47 (.bin .sub (ki 63) (.tm 46)),
 rq 3 48 (.bin .add (.tm 47) (ki 1)),
 RF 4 49 2 5,
 rn 5 (.store 1 false (.tm 49) (.tm 48))] 6 [0,1,4,5])
 .skip))
 (.seq (.seq (.region [RF 0 50 1 5,
 RL 1 51 50,
 rq 2 52 (.bin .eql (.tm 51) (ki 2)),
 RM 3 53 52,
 GQ 4 54 (.fld 1 (.tm 5)) 53 false,
 GQ 5 55 (.load 1 false (.tm 54)) 53 false,
 GQ 6 56 (.bin .eql (.tm 55) (ki 4)) 53 false,
 rq 7 57 (.pick (.tm 53) (.kv (.bool true)) (.tm 56))] 8 [0,1,4,5,57])
 (.cond (.tm 57)
 (.seq (.region [rq 0 6 (.move (ki 0))] 1 [0,1,4,5,6])
 (.block 0
 (.loop
 (.seq (.seq (.region [RM 0 58 6,
 RF 1 59 3 5,
 RL 2 60 59,
 rq 3 61 (.bin .lss (.tm 58) (.tm 60))] 4 [0,1,4,5,6,61])
 (.cond (.tm 61)
 .skip
 (.exit 0)))
 (.seq (.block 1
 (.seq (.region [RF 0 64 5 5,
 ⟨1,(some 65),.load 1 false (.tm 64),none,[7,12],[],true⟩,
 RM 2 66 0,
 RM 5 69 0,
 RM 8 72 0,
 ⟨3,(some 67),.call aD [(.tm 66),(ki 256)],none,[],[1],false⟩,
 rq 4 68 (.bin .mul (.tm 67) (ki 257)),
 ⟨6,(some 70),.call aD [(.tm 69),(ki 10)],none,[],[1],false⟩,
 rq 7 71 (.bC 1 4 [VZ] [(0,1,(.tm 68)),(1,1,(.tm 70)),(2,1,(ki 65535)),(3,1,(ki 0))]),
 ⟨9,(some 73),.call aD [(.tm 72),(ki 4)],none,[7],[1],false⟩,
 rq 10 74 (.idx 1 (.tm 71) (.tm 73)),
 RL 11 75 74,
 rq 12 76 (.bC 1 1 [VZ] [(0,1,(.tm 75))]),
 rq 13 77 (.append 1 (.tm 65) (.tm 76)),
 RF 14 78 5 5,
 rn 15 (.store 1 false (.tm 78) (.tm 77))] 16 [0,1,4,5,6])
 (.region [RF 0 79 6 5,
 ⟨1,(some 80),.load 1 false (.tm 79),none,[2,7],[],true⟩,
 rq 2 81 (.bC 1 5 [VZ] [(0,1,(ki 3)),(1,1,(ki 3)),(2,1,(ki 1)),(3,1,(ki 2)),(4,1,(ki 0))]),
 RM 3 82 0,
 ⟨4,(some 83),.call aD [(.tm 82),(ki 5)],none,[2],[1],false⟩,
 rq 5 84 (.idx 1 (.tm 81) (.tm 83)),
 RL 6 85 84,
 rq 7 86 (.bC 1 1 [VZ] [(0,1,(.tm 85))]),
 rq 8 87 (.append 1 (.tm 80) (.tm 86)),
 RF 9 88 6 5,
 rn 10 (.store 1 false (.tm 88) (.tm 87))] 11 [0,1,4,5,6])))
 (.region [RM 0 62 6,
 rq 1 63 (.bin .add (.tm 62) (ki 1)),
 RM 2 6 63] 3 [0,1,4,5,6]))))))
 .skip))
 (.seq (.seq (.region [RM 0 89 0,
 RM 1 90 1,
 rq 2 91 (.call kE [(.tm 89),(.tm 90)])] 3 [0,4,5,91])
 (.cond (.tm 91)
 (.seq (.region [RM 0 92 0,
 rq 1 93 (.call aD [(.tm 92),(ki 7)])] 2 [0,4,5,93])
 (.block 2
 (.seq (.region [rq 0 107 (.bin .eql (.tm 93) (ki 0)),
 RM 1 106 107] 2 [0,4,5,93,106])
 (.cond (.tm 106)
 (.region [rq 0 108 (.bC 1 2 [VZ] [(0,1,(.kv (.int .i64 (-1)))),(1,1,(ki 2))]),
 RM 1 109 0,
 rq 2 110 (.call aD [(.tm 109),(ki 2)]),
 rq 3 111 (.idx 1 (.tm 108) (.tm 110)),
 RL 4 112 111,
 RF 5 113 0 5,
 rn 6 (.store 1 false (.tm 113) (.tm 112))] 7 [4,5])
 (.seq (.region [rq 0 115 (.bin .eql (.tm 93) (ki 1)),
 RM 1 114 115] 2 [0,4,5,93,114])
 (.cond (.tm 114)
 (.region [rq 0 116 (.bC 1 2 [VZ] [(0,1,(ki 0)),(1,1,(ki 5))]),
 RM 1 117 0,
 rq 2 118 (.call aD [(.tm 117),(ki 2)]),
 rq 3 119 (.idx 1 (.tm 116) (.tm 118)),
 RL 4 120 119,
 RF 5 121 1 5,
 rn 6 (.store 1 false (.tm 121) (.tm 120))] 7 [4,5])
 (.seq (.region [rq 0 123 (.bin .eql (.tm 93) (ki 2)),
 RM 1 122 123] 2 [0,4,5,93,122])
 (.cond (.tm 122)
 (.region [rq 0 124 (.bC 1 3 [VZ] [(0,1,(.kv (.int .i64 (-1)))),(1,1,(ki 64)),(2,1,(ki 63))]),
 RM 1 125 0,
 rq 2 126 (.call aD [(.tm 125),(ki 3)]),
 rq 3 127 (.idx 1 (.tm 124) (.tm 126)),
 RL 4 128 127,
 RF 5 129 2 5,
 rn 6 (.store 1 false (.tm 129) (.tm 128))] 7 [4,5])
 (.seq (.region [rq 0 131 (.bin .eql (.tm 93) (ki 3)),
 RM 1 130 131] 2 [0,4,5,93,130])
 (.cond (.tm 130)
 (.region [rq 0 132 (.bC 1 4 [VZ] [(0,1,(ki 0)),(1,1,(ki 3)),(2,1,(ki 8)),(3,1,(ki 4))]),
 RM 1 133 0,
 rq 2 134 (.call aD [(.tm 133),(ki 4)]),
 rq 3 135 (.idx 1 (.tm 132) (.tm 134)),
 RL 4 136 135,
 RF 5 137 3 5,
 rn 6 (.store 1 false (.tm 137) (.tm 136))] 7 [4,5])
 (.seq (.region [rq 0 139 (.bin .eql (.tm 93) (ki 4)),
 RM 1 138 139] 2 [0,4,5,93,138])
 (.cond (.tm 138)
 (.region [RF 0 140 5 5,
 RL 1 141 140,
 rq 2 142 (.bC 1 1 [VZ] [(0,1,(ki 5))]),
 rq 3 143 (.append 1 (.tm 141) (.tm 142)),
 RF 4 144 5 5,
 rn 5 (.store 1 false (.tm 144) (.tm 143))] 6 [4,5])
 (.seq (.region [rq 0 146 (.bin .eql (.tm 93) (ki 5)),
 RM 1 145 146] 2 [0,4,5,145])
 (.cond (.tm 145)
 (.region [RF 0 147 6 5,
 RL 1 148 147,
 rq 2 149 (.bC 1 1 [VZ] [(0,1,(ki 1))]),
 rq 3 150 (.append 1 (.tm 148) (.tm 149)),
 RF 4 151 6 5,
 rn 5 (.store 1 false (.tm 151) (.tm 150))] 6 [4,5])
 (.seq (.region [RF 0 94 5 5,
 RL 1 95 94,
 rq 2 96 (.len false (.tm 95)),
 rq 3 97 (.bin .gtr (.tm 96) (ki 0))] 4 [0,4,5,97])
 (.cond (.tm 97)
 (.region [RF 0 98 5 5,
 ⟨1,(some 99),.load 1 false (.tm 98),none,[2],[],true⟩,
 rq 2 100 (.bC 1 2 [VZ] [(0,1,(.kv (.int .i64 (-1)))),(1,1,(ki 65536))]),
 RM 3 101 0,
 ⟨4,(some 102),.call aD [(.tm 101),(ki 2)],none,[2],[1],false⟩,
 rq 5 103 (.idx 1 (.tm 100) (.tm 102)),
 RL 6 104 103,
 rq 7 105 (.idx 1 (.tm 99) (ki 0)),
 rn 8 (.store 1 false (.tm 105) (.tm 104))] 9 [4,5])
 .skip))))))))))))))))
 .skip))
 (.seq (.region [rq 0 152 (.load 7 true (.tm 5)),
 rn 1 (.store 7 true (.tm 4) (.tm 152))] 2 [4])
 .ret)))))))
def S8:List Cert:=[⟨[],[0,1,4]⟩,⟨[cz 0,cz 2,cz 5,cz 7,cz 8,cz 12,cz 16,(1,[7,16],[],false),(3,[7,16],[],false),cz 4,(6,[7,16],[],false),(9,[7,16],[],false),cz 10,(11,[16],[],true),(13,[7,16],[11],false),cz 14,cz 15,cz 17],[0,1,4,5]⟩,⟨[],[0,1,4,5,25]⟩,⟨[],[0,1,4,5]⟩,⟨[],[0,1,4,5]⟩,⟨[],[0,1,4,5,44]⟩,⟨[],[0,1,4,5]⟩,⟨[],[0,1,4,5,57]⟩,⟨[],[0,1,4,5,6]⟩,⟨[],[0,1,4,5,6,61]⟩,⟨[cz 0,(1,[7,12],[],true),cz 2,cz 5,cz 8,(3,[],[1],false),cz 4,(6,[],[1],false),cz 7,(9,[7],[1],false),cz 10,cz 11,cz 12,cz 13,cz 14,cz 15],[0,1,4,5,6]⟩,⟨[cz 0,(1,[2,7],[],true),cz 2,cz 3,(4,[2],[1],false),cz 5,cz 6,cz 7,cz 8,cz 9,cz 10],[0,1,4,5,6]⟩,⟨[],[0,1,4,5,6]⟩,⟨[],[0,4,5,91]⟩,⟨[],[0,4,5,93]⟩,⟨[],[0,4,5,93,106]⟩,⟨[],[4,5]⟩,⟨[],[0,4,5,93,114]⟩,⟨[],[4,5]⟩,⟨[],[0,4,5,93,122]⟩,⟨[],[4,5]⟩,⟨[],[0,4,5,93,130]⟩,⟨[],[4,5]⟩,⟨[],[0,4,5,93,138]⟩,⟨[],[4,5]⟩,⟨[],[0,4,5,145]⟩,⟨[],[4,5]⟩,⟨[],[0,4,5,97]⟩,⟨[cz 0,(1,[2],[],true),cz 2,cz 3,(4,[2],[1],false),cz 5,cz 6,cz 7,cz 8],[4,5]⟩,⟨[],[4]⟩]
def E5:List aW:=[.cell 4 7 true]
theorem TG:aO Tryz.prog Tryz.f108 S8=some (xW,E5):=by kernel_rfl
theorem QN:aN Tryz.prog tS Tryz.f108 xW E5:=
 aN.mk Tryz.func108 (by kernel_rfl) TG
def zQ:AC:=
 (.seq (.region [rq 0 2 (.move (.kv (.bool false)))] 1 [0])
 (.seq (.seq (.region [RM 0 5 0,
 rq 1 6 (.len false (.tm 5)),
 rq 2 7 (.move (ki 0))] 3 [0,5,6,7])
 (.block 0
 (.loop
 (.seq (.region [rq 0 8 (.bin .lss (.tm 7) (.tm 6))] 1 [0,5,6,7,8])
 (.seq (.cond (.tm 8)
 .skip
 (.exit 0))
 (.seq (.block 1
 (.seq (.region [RM 0 9 7,
 rq 1 10 (.idx 4 (.tm 5) (.tm 7)),
 rq 2 11 (.load 4 true (.tm 10)),
 rq 3 4 (.alloc [VZ,VZ,VZ,(.v (.bool false))]),
 RM 4 3 9,
 rn 5 (.store 4 true (.tm 4) (.tm 11))] 6 [0,3,4,5,6,7])
 (.seq (.region [RF 0 12 0 4,
 RL 1 13 12,
 rq 2 14 (.call cQ [(.tm 13),(ki 0),(ki 63)]),
 rq 3 15 (.un .not (.tm 14)),
 RM 4 16 15,
 GQ 5 17 (.fld 1 (.tm 4)) 16 false,
 GQ 6 18 (.load 1 false (.tm 17)) 16 false,
 GQ 7 19 (.fld 0 (.tm 4)) 16 false,
 GQ 8 20 (.load 1 false (.tm 19)) 16 false,
 GQ 9 21 (.call cQ [(.tm 18),(.tm 20),(ki 63)]) 16 false,
 GQ 10 22 (.un .not (.tm 21)) 16 false,
 rq 11 23 (.pick (.tm 16) (.kv (.bool true)) (.tm 22)),
 RM 12 24 23,
 GQ 13 25 (.fld 2 (.tm 4)) 24 false,
 GQ 14 26 (.load 1 false (.tm 25)) 24 false,
 GQ 15 27 (.call cQ [(.tm 26),(ki 0),(ki 2)]) 24 false,
 GQ 16 28 (.un .not (.tm 27)) 24 false,
 rq 17 29 (.pick (.tm 24) (.kv (.bool true)) (.tm 28)),
 RM 18 30 29,
 GQ 19 31 (.move (.tm 0)) 30 false,
 GQ 20 32 (.move (.tm 3)) 30 false,
 GQ 21 33 (.slc 4 (.tm 31) none (some (.tm 32)) none) 30 false,
 GQ 22 34 (.xop (.zI rE) [(.tm 4)]) 30 false,
 GQ 23 35 (.call bX [(.tm 33),(.tm 34)]) 30 false,
 rq 24 36 (.pick (.tm 30) (.kv (.bool true)) (.tm 35))] 25 [0,5,6,7,36])
 (.cond (.tm 36)
 (.seq (.region [rq 0 2 (.move (.kv (.bool false)))] 1 [2])
 .ret)
 .skip))))
 (.region [rq 0 37 (.bin .add (.tm 7) (ki 1)),
 RM 1 7 37] 2 [0,5,6,7])))))))
 (.seq (.region [RM 0 38 0,
 rq 1 39 (.len false (.tm 38)),
 rq 2 40 (.bin .leq (.tm 39) (ki 4)),
 RM 3 2 40] 4 [2])
 .ret)))
def VE:List Cert:=[⟨[],[0]⟩,⟨[],[0,5,6,7]⟩,⟨[],[0,5,6,7,8]⟩,⟨[],[0,3,4,5,6,7]⟩,⟨[],[0,5,6,7,36]⟩,⟨[],[2]⟩,⟨[],[0,5,6,7]⟩,⟨[],[2]⟩]
def I5:List aW:=[.tm 2]
theorem VT:aO Tryz.prog Tryz.f110 VE=some (zQ,I5):=by kernel_rfl
theorem VB:aN Tryz.prog wR Tryz.f110 zQ I5:=
 aN.mk Tryz.func110 (by kernel_rfl) VT
def fX:AC:=
 (.seq (.region [rq 0 4 (.move (.kv (.bool false)))] 1 [0,1])
 (.seq (.region [RM 0 5 0,
 RM 1 6 1,
 rq 2 7 (.call fF [(.tm 5),(.tm 6)]),
 rq 3 8 (.bin .geq (.tm 7) (ki 0)),
 RM 4 4 8] 5 [4])
 .ret))
def sD:List Cert:=[⟨[],[0,1]⟩,⟨[],[4]⟩]
def jY:List aW:=[.tm 4]
theorem rV:aO Tryz.prog Tryz.f111 sD=some (fX,jY):=by kernel_rfl
theorem r8:aN Tryz.prog bN Tryz.f111 fX jY:=
 aN.mk Tryz.func111 (by kernel_rfl) rV
def vK:AC:=
 (.seq (.region [rq 0 2 (.move (.kv (.bool false)))] 1 [0])
 (.seq (.region [RM 0 3 0,
 rq 1 4 (.call cQ [(.tm 3),(ki 0),(ki 3)]),
 rq 2 5 (.un .not (.tm 4)),
 RM 3 2 5] 4 [2])
 .ret))
def OR:List Cert:=[⟨[],[0]⟩,⟨[],[2]⟩]
def DT:List aW:=[.tm 2]
theorem OL:aO Tryz.prog Tryz.f112 OR=some (vK,DT):=by kernel_rfl
theorem PF:aN Tryz.prog qK Tryz.f112 vK DT:=
 aN.mk Tryz.func112 (by kernel_rfl) OL
def JX:AC:=
 (.seq (.region [rq 0 6 (.move (.kv (.bool false)))] 1 [0,1,2])
 (.seq (.region [RM 0 7 0,
 RM 1 8 1,
 rq 2 9 (.bin .geq (.tm 7) (.tm 8)),
 RM 3 10 9,
 GQ 4 11 (.move (.tm 0)) 10 true,
 GQ 5 12 (.move (.tm 2)) 10 true,
 GQ 6 13 (.bin .leq (.tm 11) (.tm 12)) 10 true,
 rq 7 14 (.pick (.tm 10) (.tm 13) (.kv (.bool false))),
 RM 8 6 14] 9 [6])
 .ret))
def afB:List Cert:=[⟨[],[0,1,2]⟩,⟨[],[6]⟩]
def SP:List aW:=[.tm 6]
theorem acJ:aO Tryz.prog Tryz.f113 afB=some (JX,SP):=by kernel_rfl
theorem ae0:aN Tryz.prog cQ Tryz.f113 JX SP:=
 aN.mk Tryz.func113 (by kernel_rfl) acJ
def dG:AC:=
 (.seq (.region [rq 0 4 (.move (.kv (.bool false)))] 1 [0,1])
 (.seq (.region [RM 0 5 0,
 RM 1 6 1,
 rq 2 7 (.call cT [(.tm 5),(.tm 6)]),
 rq 3 8 (.bin .geq (.tm 7) (ki 0)),
 RM 4 4 8] 5 [4])
 .ret))
def l5:List Cert:=[⟨[],[0,1]⟩,⟨[],[4]⟩]
def gE:List aW:=[.tm 4]
theorem l6:aO Tryz.prog Tryz.f114 l5=some (dG,gE):=by kernel_rfl
theorem l7:aN Tryz.prog cF Tryz.f114 dG gE:=
 aN.mk Tryz.func114 (by kernel_rfl) l6
def u6:AC:=
 (.seq (.region [rq 0 2 (.move (.kv (.bool false)))] 1 [0])
 (.seq (.region [RM 0 3 0,
 rq 1 4 (.len false (.tm 3)),
 rq 2 5 (.bin .gtr (.tm 4) (ki 12)),
 RM 3 6 5,
 GQ 4 7 (.move (.tm 0)) 6 false,
 GQ 5 8 (.call cN [(.tm 7),(.fn nH)]) 6 false,
 rq 6 9 (.pick (.tm 6) (.kv (.bool true)) (.tm 8)),
 RM 7 2 9] 8 [2])
 .ret))
def OE:List Cert:=[⟨[],[0]⟩,⟨[],[2]⟩]
def DW:List aW:=[.tm 2]
theorem OD:aO Tryz.prog Tryz.f115 OE=some (u6,DW):=by kernel_rfl
theorem OS:aN Tryz.prog rR Tryz.f115 u6 DW:=
 aN.mk Tryz.func115 (by kernel_rfl) OD
def rM:AC:=
 (.seq (.region [rq 0 1 (.box true (.tm 0)),
 rq 1 2 (.move (.kv (.bool false)))] 2 [1])
 (.seq (.region [rq 0 3 (.load 7 true (.tm 1)),
 rq 1 4 (.call wD [(.tm 3)]),
 rq 2 5 (.un .not (.tm 4)),
 RM 3 2 5] 4 [2])
 .ret))
def K9:List Cert:=[⟨[],[1]⟩,⟨[],[2]⟩]
def y9:List aW:=[.tm 2]
theorem J8:aO Tryz.prog Tryz.f116 K9=some (rM,y9):=by kernel_rfl
theorem KW:aN Tryz.prog nH Tryz.f116 rM y9:=
 aN.mk Tryz.func116 (by kernel_rfl) J8
def zP:AC:=
 (.seq (.region [rq 0 1 (.box true (.tm 0)),
 rq 1 2 (.move (.kv (.bool false)))] 2 [1])
 (.seq (.region [rq 0 3 (.move (ki 0))] 1 [1,3])
 (.seq (.seq (.region [rq 0 4 (.load 7 true (.tm 1)),
 rq 1 5 (.call eY [(.tm 4)])] 2 [1,3,5])
 (.cond (.tm 5)
 (.region [RF 0 6 3 1,
 RL 1 7 6,
 RM 2 3 7] 3 [1,3])
 .skip))
 (.seq (.region [RF 0 8 0 1,
 RL 1 9 8,
 rq 2 10 (.call cQ [(.tm 9),(ki 0),(ki 1)]),
 RM 3 11 10,
 GQ 4 12 (.fld 1 (.tm 1)) 11 true,
 GQ 5 13 (.load 1 false (.tm 12)) 11 true,
 GQ 6 14 (.call cQ [(.tm 13),(ki 1),(ki 4)]) 11 true,
 rq 7 15 (.pick (.tm 11) (.tm 14) (.kv (.bool false))),
 RM 8 16 15,
 GQ 9 17 (.fld 2 (.tm 1)) 16 true,
 GQ 10 18 (.load 1 false (.tm 17)) 16 true,
 GQ 11 19 (.fld 3 (.tm 1)) 16 true,
 GQ 12 20 (.load 1 false (.tm 19)) 16 true,
 GQ 13 21 (.fld 4 (.tm 1)) 16 true,
 GQ 14 22 (.load 1 false (.tm 21)) 16 true,
 GQ 15 23 (.call nI [(.tm 18),(.tm 20),(.tm 22)]) 16 true,
 rq 16 24 (.pick (.tm 16) (.tm 23) (.kv (.bool false))),
 RM 17 25 24,
 GQ 18 26 (.fld 5 (.tm 1)) 25 true,
 GQ 19 27 (.load 1 false (.tm 26)) 25 true,
 GQ 20 28 (.len false (.tm 27)) 25 true,
 GQ 21 29 (.move (.tm 3)) 25 true,
 GQ 22 30 (.bin .eql (.tm 28) (.tm 29)) 25 true,
 rq 23 31 (.pick (.tm 25) (.tm 30) (.kv (.bool false))),
 RM 24 32 31,
 GQ 25 33 (.fld 6 (.tm 1)) 32 true,
 GQ 26 34 (.load 1 false (.tm 33)) 32 true,
 GQ 27 35 (.len false (.tm 34)) 32 true,
 GQ 28 36 (.move (.tm 3)) 32 true,
 GQ 29 37 (.bin .eql (.tm 35) (.tm 36)) 32 true,
 rq 30 38 (.pick (.tm 32) (.tm 37) (.kv (.bool false))),
 RM 31 39 38,
 GQ 32 40 (.fld 5 (.tm 1)) 39 true,
 GQ 33 41 (.load 1 false (.tm 40)) 39 true,
 GQ 34 42 (.call jB [(.tm 41)]) 39 true,
 rq 35 43 (.pick (.tm 39) (.tm 42) (.kv (.bool false))),
 RM 36 44 43,
 GQ 37 45 (.fld 6 (.tm 1)) 44 true,
 GQ 38 46 (.load 1 false (.tm 45)) 44 true,
 GQ 39 47 (.call bN [(.tm 46),(.fn rT)]) 44 true,
 GQ 40 48 (.un .not (.tm 47)) 44 true,
 rq 41 49 (.pick (.tm 44) (.tm 48) (.kv (.bool false))),
 RM 42 50 49,
 GQ 43 51 (.fld 1 (.tm 1)) 50 true,
 GQ 44 52 (.load 1 false (.tm 51)) 50 true,
 GQ 45 53 (.bin .eql (.tm 52) (ki 1)) 50 true,
 GQ 46 54 (.move (.tm 53)) 50 true,
 GQ 47 55 (.fld 1 (.tm 1)) 54 false,
 GQ 48 56 (.load 1 false (.tm 55)) 54 false,
 GQ 49 57 (.bin .eql (.tm 56) (ki 2)) 54 false,
 GQ 50 58 (.pick (.tm 54) (.kv (.bool true)) (.tm 57)) 50 true,
 GQ 51 59 (.move (.tm 58)) 50 true,
 GQ 52 60 (.fld 3 (.tm 1)) 59 false,
 GQ 53 61 (.load 1 false (.tm 60)) 59 false,
 GQ 54 62 (.bin .eql (.tm 61) (ki 1)) 59 false,
 GQ 55 63 (.pick (.tm 59) (.kv (.bool true)) (.tm 62)) 50 true,
 rq 56 64 (.pick (.tm 50) (.tm 63) (.kv (.bool false))),
 RM 57 2 64] 58 [2])
 .ret))))
def U1:List Cert:=[⟨[],[1]⟩,⟨[],[1,3]⟩,⟨[],[1,3,5]⟩,⟨[],[1,3]⟩,⟨[],[2]⟩]
def I9:List aW:=[.tm 2]
theorem UO:aO Tryz.prog Tryz.f117 U1=some (zP,I9):=by kernel_rfl
theorem VJ:aN Tryz.prog wD Tryz.f117 zP I9:=
 aN.mk Tryz.func117 (by kernel_rfl) UO
end Go.Proofs.YtegiblhkjfiooaaGreat
end
section
namespace Go.Proofs.YtegiblhkjfiooaaGreat
open Go Go.AM
set_option maxRecDepth 100000
def rI:AC:=
 (.seq (.region [rq 0 2 (.move (.kv (.slice none 0 0)))] 1 [0])
 (.seq (.region [RM 0 3 0,
 rq 1 4 (.call gO [(.tm 3)]),
 rq 2 5 (.call iD [(.tm 4)]),
 RM 3 2 5] 4 [2])
 .ret))
def LQ:List Cert:=[⟨[],[0]⟩,⟨[],[2]⟩]
def zA:List aW:=[.tm 2]
theorem KH:aO Tryz.prog Tryz.f119 LQ=some (rI,zA):=by kernel_rfl
theorem LI:aN Tryz.prog eX Tryz.f119 rI zA:=
 aN.mk Tryz.func119 (by kernel_rfl) KH
def kO:AC:=
 (.seq (.region [rq 0 4 (.move (.kv (.int .u64 0))),
 rq 1 5 (.move (.kv (.int .u64 0)))] 2 [0,1])
 (.seq (.cond (.kv (.bool false))
 (.seq (.region [RM 0 11 0,
 rq 1 12 (.conv .u32 (.tm 11)),
 RM 2 13 1,
 rq 3 14 (.conv .u32 (.tm 13)),
 rq 4 15 (.call J2 [(.tm 12),(.tm 14)]),
 RM 5 10 15,
 rq 6 16 (.ext (.tm 10) 0),
 rq 7 17 (.ext (.tm 10) 1),
 RM 8 6 16,
 RM 9 7 17] 10 [6,7])
 (.seq (.region [RM 0 18 6,
 rq 1 19 (.conv .u64 (.tm 18)),
 RM 2 20 7,
 rq 3 21 (.conv .u64 (.tm 20)),
 RM 4 4 19,
 RM 5 5 21] 6 [4,5])
 .ret))
 .skip)
 (.seq (.region [RM 0 23 0,
 RM 1 24 1,
 rq 2 25 (.call eF [(.tm 23),(.tm 24)]),
 RM 3 22 25,
 rq 4 26 (.ext (.tm 22) 0),
 rq 5 27 (.ext (.tm 22) 1),
 RM 6 8 26,
 RM 7 9 27] 8 [8,9])
 (.seq (.region [RM 0 28 8,
 RM 1 29 9,
 RM 2 4 28,
 RM 3 5 29] 4 [4,5])
 .ret))))
def ND:List Cert:=[⟨[],[0,1]⟩,⟨[],[6,7]⟩,⟨[],[4,5]⟩,⟨[],[8,9]⟩,⟨[],[4,5]⟩]
def BR:List aW:=[.tm 4,.tm 5]
theorem M4:aO Tryz.prog Tryz.f122 ND=some (kO,BR):=by kernel_rfl
theorem tM:aN Tryz.prog cE Tryz.f122 kO BR:=
 aN.mk Tryz.func122 (by kernel_rfl) M4
def xL:AC:=
 (.seq (.region [rq 0 0 (.alloc [OZ])] 1 [0])
 (.seq (.region [rq 0 1 (.kY 1 [VZ] (ki 64) (ki 64)),
 rq 1 2 (.build [OZ] [(0,1,(.tm 1))]),
 rn 2 (.store 1 true (.tm 0) (.tm 2))] 3 [0])
 .ret))
def SC:List Cert:=[⟨[],[0]⟩,⟨[],[0]⟩]
def GD:List aW:=[.cell 0 1 true]
theorem SM:aO Tryz.prog Tryz.f123 SC=some (xL,GD):=by kernel_rfl
theorem RT:aN Tryz.prog oC Tryz.f123 xL GD:=
 aN.mk Tryz.func123 (by kernel_rfl) SM
def i7:AC:=
 (.seq (.region [rq 0 4 (.move (.kv (.slice none 0 0)))] 1 [0,1])
 (.seq (.seq (.region [RM 0 9 1,
 rq 1 10 (.bin .lss (.tm 9) (ki 0))] 2 [0,1,10])
 (.cond (.tm 10)
 (.region [rq 0 11 (.xop .bad []),
 rn 1 (.xop .bad [])] 2 [0,1])
 .skip))
 (.seq (.region [RM 0 13 0,
 rq 1 14 (.len false (.tm 13)),
 rq 2 15 (.conv .u64 (.tm 14)),
 RM 3 16 1,
 rq 4 17 (.conv .u64 (.tm 16)),
 rq 5 18 (.call cE [(.tm 15),(.tm 17)]),
 RM 6 12 18,
 rq 7 19 (.ext (.tm 12) 0),
 rq 8 20 (.ext (.tm 12) 1),
 RM 9 5 19,
 RM 10 6 20] 11 [0,5,6])
 (.seq (.seq (.region [RM 0 21 5,
 rq 1 22 (.bin .gtr (.tm 21) (.kv (.int .u64 0))),
 RM 2 23 22,
 GQ 3 24 (.move (.tm 6)) 23 false,
 GQ 4 25 (.bin .gtr (.tm 24) (.kv (.int .u64 9223372036854775807))) 23 false,
 rq 5 26 (.pick (.tm 23) (.kv (.bool true)) (.tm 25))] 6 [0,6,26])
 (.cond (.tm 26)
 (.region [rq 0 27 (.xop .bad []),
 rn 1 (.xop .bad [])] 2 [0,6])
 .skip))
 (.seq (.region [RM 0 28 6,
 rq 1 29 (.conv .i64 (.tm 28)),
 rq 2 30 (.kY 1 [VZ] (.tm 29) (.tm 29)),
 RM 3 7 30] 4 [0,7])
 (.seq (.region [RM 0 31 7,
 RM 1 32 0,
 rq 2 33 (.xop (.copy 1) [(.tm 31),(.tm 32)]),
 RM 3 8 33] 4 [7,8])
 (.seq (.block 0
 (.loop
 (.seq (.seq (.region [RM 0 34 8,
 RM 1 35 7,
 rq 2 36 (.len false (.tm 35)),
 rq 3 37 (.bin .lss (.tm 34) (.tm 36))] 4 [7,8,37])
 (.cond (.tm 37)
 .skip
 (.exit 0)))
 (.block 1
 (.region [RM 0 38 8,
 RM 1 39 7,
 RM 2 40 8,
 rq 3 41 (.slc 1 (.tm 39) (some (.tm 40)) none none),
 RM 4 42 7,
 RM 5 43 8,
 rq 6 44 (.slc 1 (.tm 42) none (some (.tm 43)) none),
 rq 7 45 (.xop (.copy 1) [(.tm 41),(.tm 44)]),
 rq 8 46 (.bin .add (.tm 38) (.tm 45)),
 RM 9 8 46] 10 [7,8])))))
 (.seq (.region [RM 0 47 7,
 RM 1 4 47] 2 [4])
 .ret))))))))
def y6:List Cert:=[⟨[],[0,1]⟩,⟨[],[0,1,10]⟩,⟨[],[0,1]⟩,⟨[],[0,5,6]⟩,⟨[],[0,6,26]⟩,⟨[],[0,6]⟩,⟨[],[0,7]⟩,⟨[],[7,8]⟩,⟨[],[7,8,37]⟩,⟨[cz 0,cz 1,cz 2,cz 3,cz 4,cz 5,cz 6,cz 7,cz 8,cz 9],[7,8]⟩,⟨[],[4]⟩]
def nM:List aW:=[.tm 4]
theorem yY:aO Tryz.prog Tryz.f124 y6=some (i7,nM):=by kernel_rfl
theorem yV:aN Tryz.prog eJ Tryz.f124 i7 nM:=
 aN.mk Tryz.func124 (by kernel_rfl) yY
def kI:AC:=
 (.seq (.region [rq 0 1 (.box true (.tm 0)),
 rq 1 2 (.alloc [OZ,OZ])] 2 [1,2])
 (.seq (.region [RF 0 3 0 1,
 RF 1 4 0 3,
 RL 2 5 4,
 RF 5 8 1 1,
 ⟨6,(some 9),.load 1 false (.tm 8),none,[],[],true⟩,
 ⟨3,(some 6),.call eX [(.tm 5)],none,[],[6],false⟩,
 rq 4 7 (.build [OZ] [(0,1,(.tm 6))]),
 rq 7 10 (.call eX [(.tm 9)]),
 rq 8 11 (.build [OZ,OZ] [(0,1,(.tm 7)),(1,1,(.tm 10))]),
 rn 9 (.store 2 true (.tm 2) (.tm 11))] 10 [2])
 .ret))
def BQ:List Cert:=[⟨[],[1,2]⟩,⟨[cz 0,cz 1,cz 2,cz 5,(6,[],[],true),(3,[],[6],false),cz 4,cz 7,cz 8,cz 9],[2]⟩]
def pS:List aW:=[.cell 2 2 true]
theorem BE:aO Tryz.prog Tryz.f125 BQ=some (kI,pS):=by kernel_rfl
theorem A9:aN Tryz.prog fL Tryz.f125 kI pS:=
 aN.mk Tryz.func125 (by kernel_rfl) BE
def AK:AC:=
 (.seq (.region [rq 0 1 (.box true (.tm 0)),
 rq 1 2 (.move (.kv (.bool false)))] 2 [1])
 (.seq (.region [RF 0 3 0 1,
 RL 1 4 3,
 rq 2 5 (.len false (.tm 4)),
 rq 3 6 (.bin .eql (.tm 5) (ki 64)),
 RM 4 7 6,
 GQ 5 8 (.fld 0 (.tm 1)) 7 true,
 GQ 6 9 (.load 1 false (.tm 8)) 7 true,
 GQ 7 10 (.call jB [(.tm 9)]) 7 true,
 rq 8 11 (.pick (.tm 7) (.tm 10) (.kv (.bool false))),
 RM 9 2 11] 10 [2])
 .ret))
def U7:List Cert:=[⟨[],[1]⟩,⟨[],[2]⟩]
def H8:List aW:=[.tm 2]
theorem T7:aO Tryz.prog Tryz.f129 U7=some (AK,H8):=by kernel_rfl
theorem T3:aN Tryz.prog wP Tryz.f129 AK H8:=
 aN.mk Tryz.func129 (by kernel_rfl) T7
def vO:AC:=
 (.seq (.region [rq 0 2 (.move (.kv (.bool false)))] 1 [0])
 (.seq (.region [RM 0 3 0,
 rq 1 4 (.call cQ [(.tm 3),(.kv (.int .i64 (-1))),(ki 63)]),
 rq 2 5 (.un .not (.tm 4)),
 RM 3 2 5] 4 [2])
 .ret))
def OY:List Cert:=[⟨[],[0]⟩,⟨[],[2]⟩]
def DZ:List aW:=[.tm 2]
theorem OJ:aO Tryz.prog Tryz.f130 OY=some (vO,DZ):=by kernel_rfl
theorem OW:aN Tryz.prog rC Tryz.f130 vO DZ:=
 aN.mk Tryz.func130 (by kernel_rfl) OJ
def rD:AC:=
 (.seq (.region [rq 0 3 (.box true (.tm 0)),
 rq 1 6 (.move (ki 0))] 2 [1,2,3])
 (.seq (.region [RF 0 7 2 3,
 RL 1 8 7,
 RM 2 9 1,
 rq 3 10 (.idx 1 (.tm 8) (.tm 9)),
 RL 4 11 10,
 RM 5 12 2,
 rq 6 13 (.idx 7 (.tm 11) (.tm 12)),
 RF 7 14 0 13,
 RL 8 15 14,
 RM 9 6 15] 10 [6])
 .ret))
def K8:List Cert:=[⟨[],[1,2,3]⟩,⟨[],[6]⟩]
def zC:List aW:=[.tm 6]
theorem KU:aO Tryz.prog Tryz.f131 K8=some (rD,zC):=by kernel_rfl
theorem KX:aN Tryz.prog fB Tryz.f131 rD zC:=
 aN.mk Tryz.func131 (by kernel_rfl) KU
def z8:AC:=
 (.seq (.region [rq 0 1 (.box true (.tm 0)),
 rq 1 2 (.move (.kv (.bool false)))] 2 [1])
 (.seq (.region [RF 0 3 0 1,
 RL 1 4 3,
 rq 2 5 (.call cQ [(.tm 4),(ki 0),(ki 1)]),
 RM 3 6 5,
 GQ 4 7 (.fld 1 (.tm 1)) 6 true,
 GQ 5 8 (.load 1 false (.tm 7)) 6 true,
 GQ 6 9 (.call cQ [(.tm 8),(ki 1),(ki 4)]) 6 true,
 rq 7 10 (.pick (.tm 6) (.tm 9) (.kv (.bool false))),
 RM 8 11 10,
 GQ 9 12 (.fld 2 (.tm 1)) 11 true,
 GQ 10 13 (.load 1 false (.tm 12)) 11 true,
 GQ 11 14 (.len false (.tm 13)) 11 true,
 GQ 12 15 (.bin .leq (.tm 14) (ki 4)) 11 true,
 rq 13 16 (.pick (.tm 11) (.tm 15) (.kv (.bool false))),
 RM 14 17 16,
 GQ 15 18 (.fld 2 (.tm 1)) 17 true,
 GQ 16 19 (.load 1 false (.tm 18)) 17 true,
 GQ 17 20 (.call jB [(.tm 19)]) 17 true,
 rq 18 21 (.pick (.tm 17) (.tm 20) (.kv (.bool false))),
 RM 19 2 21] 20 [2])
 .ret))
def T2:List Cert:=[⟨[],[1]⟩,⟨[],[2]⟩]
def I0:List aW:=[.tm 2]
theorem VO:aO Tryz.prog Tryz.f134 T2=some (z8,I0):=by kernel_rfl
theorem UX:aN Tryz.prog m6 Tryz.f134 z8 I0:=
 aN.mk Tryz.func134 (by kernel_rfl) VO
def x7:AC:=
 (.seq (.region [rq 0 2 (.move (.kv (.bool false)))] 1 [0])
 (.seq (.seq (.region [rq 0 3 (.move (ki 1))] 1 [0,3])
 (.block 0
 (.loop
 (.seq (.seq (.region [RM 0 4 3,
 RM 1 5 0,
 rq 2 6 (.len false (.tm 5)),
 rq 3 7 (.bin .lss (.tm 4) (.tm 6))] 4 [0,3,7])
 (.cond (.tm 7)
 .skip
 (.exit 0)))
 (.seq (.block 1
 (.seq (.region [RM 0 10 0,
 RM 1 11 3,
 rq 2 12 (.bin .sub (.tm 11) (ki 1)),
 rq 3 13 (.idx 5 (.tm 10) (.tm 12)),
 rq 4 14 (.load 5 true (.tm 13)),
 RM 5 15 0,
 RM 6 16 3,
 rq 7 17 (.idx 5 (.tm 15) (.tm 16)),
 rq 8 18 (.load 5 true (.tm 17)),
 rq 9 19 (.call bJ [(.tm 14),(.tm 18)]),
 rq 10 20 (.bin .geq (.tm 19) (ki 0))] 11 [0,3,20])
 (.cond (.tm 20)
 (.seq (.region [rq 0 2 (.move (.kv (.bool false)))] 1 [2])
 .ret)
 .skip)))
 (.region [RM 0 8 3,
 rq 1 9 (.bin .add (.tm 8) (ki 1)),
 RM 2 3 9] 3 [0,3]))))))
 (.seq (.region [rq 0 2 (.move (.kv (.bool true)))] 1 [2])
 .ret)))
def RQ:List Cert:=[⟨[],[0]⟩,⟨[],[0,3]⟩,⟨[],[0,3,7]⟩,⟨[cz 0,cz 1,cz 2,cz 3,cz 4,cz 5,cz 6,cz 7,cz 8,cz 9,cz 10],[0,3,20]⟩,⟨[],[2]⟩,⟨[],[0,3]⟩,⟨[],[2]⟩]
def FX:List aW:=[.tm 2]
theorem P5:aO Tryz.prog Tryz.f135 RQ=some (x7,FX):=by kernel_rfl
theorem Q2:aN Tryz.prog oI Tryz.f135 x7 FX:=
 aN.mk Tryz.func135 (by kernel_rfl) P5
def nO:AC:=
 (.seq (.region [rq 0 1 (.box true (.tm 0)),
 rq 1 2 (.move (.kv (.bool false)))] 2 [1])
 (.seq (.region [RF 0 3 0 1,
 RL 1 4 3,
 rq 2 5 (.bin .eql (.tm 4) (ki 0)),
 RM 3 6 5,
 GQ 4 7 (.fld 1 (.tm 1)) 6 true,
 GQ 5 8 (.load 1 false (.tm 7)) 6 true,
 GQ 6 9 (.bin .eql (.tm 8) (ki 0)) 6 true,
 rq 7 10 (.pick (.tm 6) (.tm 9) (.kv (.bool false))),
 RM 8 11 10,
 GQ 9 12 (.fld 2 (.tm 1)) 11 true,
 GQ 10 13 (.load 1 false (.tm 12)) 11 true,
 GQ 11 14 (.len false (.tm 13)) 11 true,
 GQ 12 15 (.bin .eql (.tm 14) (ki 0)) 11 true,
 rq 13 16 (.pick (.tm 11) (.tm 15) (.kv (.bool false))),
 RM 14 2 16] 15 [2])
 .ret))
def HS:List Cert:=[⟨[],[1]⟩,⟨[],[2]⟩]
def vS:List aW:=[.tm 2]
theorem HW:aO Tryz.prog Tryz.f136 HS=some (nO,vS):=by kernel_rfl
theorem HU:aN Tryz.prog iT Tryz.f136 nO vS:=
 aN.mk Tryz.func136 (by kernel_rfl) HW
def zZ:AC:=
 (.seq (.region [rq 0 3 (.box true (.tm 1)),
 rq 1 4 (.move (ki 0))] 2 [0,3])
 (.seq (.region [rq 0 5 (.move (.kv (.int .i64 (-1))))] 1 [0,3,5])
 (.seq (.seq (.region [rq 0 9 (.load 7 true (.tm 3)),
 rq 1 10 (.call fP [(.tm 9)]),
 rq 2 11 (.len false (.tm 10)),
 rq 3 12 (.move (ki 0))] 4 [0,5,10,11,12])
 (.block 0
 (.loop
 (.seq (.region [rq 0 13 (.bin .lss (.tm 12) (.tm 11))] 1 [0,5,10,11,12,13])
 (.seq (.cond (.tm 13)
 .skip
 (.exit 0))
 (.seq (.block 1
 (.seq (.region [RM 0 14 12,
 rq 1 15 (.idx 1 (.tm 10) (.tm 12)),
 RL 2 16 15,
 RM 3 6 14,
 RM 4 7 16] 5 [0,5,6,7,10,11,12])
 (.seq (.region [RM 0 17 0,
 RM 1 18 7,
 rq 2 19 (.call qX [(.tm 17),(.tm 18)]),
 RM 3 8 19] 4 [0,5,6,8,10,11,12])
 (.seq (.seq (.region [RM 0 20 8,
 rq 1 21 (.bin .lss (.tm 20) (ki 0)),
 RM 2 22 21,
 GQ 3 23 (.move (.tm 6)) 22 false,
 GQ 4 24 (.bin .gtr (.tm 23) (ki 0)) 22 false,
 GQ 5 25 (.move (.tm 24)) 22 false,
 GQ 6 26 (.move (.tm 8)) 25 true,
 GQ 7 27 (.move (.tm 5)) 25 true,
 GQ 8 28 (.bin .neq (.tm 26) (.tm 27)) 25 true,
 GQ 9 29 (.pick (.tm 25) (.tm 28) (.kv (.bool false))) 22 false,
 rq 10 30 (.pick (.tm 22) (.kv (.bool true)) (.tm 29))] 11 [0,8,10,11,12,30])
 (.cond (.tm 30)
 (.seq (.region [rq 0 4 (.move (.kv (.int .i64 (-1))))] 1 [4])
 .ret)
 .skip))
 (.region [RM 0 31 8,
 RM 1 5 31] 2 [0,5,10,11,12])))))
 (.region [rq 0 32 (.bin .add (.tm 12) (ki 1)),
 RM 1 12 32] 2 [0,5,10,11,12])))))))
 (.seq (.region [RM 0 33 5,
 RM 1 4 33] 2 [4])
 .ret))))
def U8:List Cert:=[⟨[],[0,3]⟩,⟨[],[0,3,5]⟩,⟨[],[0,5,10,11,12]⟩,⟨[],[0,5,10,11,12,13]⟩,⟨[],[0,5,6,7,10,11,12]⟩,⟨[],[0,5,6,8,10,11,12]⟩,⟨[],[0,8,10,11,12,30]⟩,⟨[],[4]⟩,⟨[],[0,5,10,11,12]⟩,⟨[],[0,5,10,11,12]⟩,⟨[],[4]⟩]
def IE:List aW:=[.tm 4]
theorem VF:aO Tryz.prog Tryz.f141 U8=some (zZ,IE):=by kernel_rfl
theorem TU:aN Tryz.prog mZ Tryz.f141 zZ IE:=
 aN.mk Tryz.func141 (by kernel_rfl) VF
def eV:AC:=
 (.seq (.region [rq 0 4 (.move (ki 0))] 1 [0,1])
 (.seq (.seq (.region [RM 0 6 0,
 rq 1 7 (.len false (.tm 6)),
 rq 2 8 (.move (ki 0))] 3 [0,1,7,8])
 (.block 0
 (.loop
 (.seq (.region [rq 0 9 (.bin .lss (.tm 8) (.tm 7))] 1 [0,1,7,8,9])
 (.seq (.cond (.tm 9)
 .skip
 (.exit 0))
 (.seq (.block 1
 (.seq (.region [RM 0 10 8,
 RM 1 5 10] 2 [0,1,5,7,8])
 (.seq (.region [RM 0 11 1,
 RM 1 12 0,
 RM 2 13 5,
 rq 3 14 (.idx 7 (.tm 12) (.tm 13)),
 rq 4 15 (.load 7 true (.tm 14)),
 rq 5 16 (.t5 (.tm 11) [(.tm 15)])] 6 [0,1,5,7,8,16])
 (.cond (.tm 16)
 (.seq (.region [RM 0 17 5,
 RM 1 4 17] 2 [4])
 .ret)
 .skip))))
 (.region [rq 0 18 (.bin .add (.tm 8) (ki 1)),
 RM 1 8 18] 2 [0,1,7,8])))))))
 (.seq (.region [rq 0 4 (.move (.kv (.int .i64 (-1))))] 1 [4])
 .ret)))
def pM:List Cert:=[⟨[],[0,1]⟩,⟨[],[0,1,7,8]⟩,⟨[],[0,1,7,8,9]⟩,⟨[],[0,1,5,7,8]⟩,⟨[],[0,1,5,7,8,16]⟩,⟨[],[4]⟩,⟨[],[0,1,7,8]⟩,⟨[],[4]⟩]
def iQ:List aW:=[.tm 4]
theorem pF:aO Tryz.prog Tryz.f142 pM=some (eV,iQ):=by kernel_rfl
theorem pO:aN Tryz.prog dC Tryz.f142 eV iQ:=
 aN.mk Tryz.func142 (by kernel_rfl) pF
def i6:AC:=
 (.seq (.region [rq 0 2 (.move (.kv (.slice none 0 0)))] 1 [0])
 (.seq (.region [RM 0 3 0,
 rq 1 4 (.call eG [(.tm 3)]),
 rq 2 5 (.call eS [(.tm 4)]),
 RM 3 2 5] 4 [2])
 .ret))
def yU:List Cert:=[⟨[],[0]⟩,⟨[],[2]⟩]
def nL:List aW:=[.tm 2]
theorem yR:aO Tryz.prog Tryz.f151 yU=some (i6,nL):=by kernel_rfl
theorem yQ:aN Tryz.prog gG Tryz.f151 i6 nL:=
 aN.mk Tryz.func151 (by kernel_rfl) yR
def av3:AC:=
 (.seq (.region [rq 0 4 (.box false (.tm 1)),
 rq 1 5 (.box false (.tm 2)),
 rq 2 6 (.move (ki 0))] 3 [0,4,5])
 (.seq (.region [RM 0 7 0,
 rq 1 8 (.xop (.zI avA) [(.tm 4),(.tm 5)]),
 rq 2 9 (.call hZ [(.tm 7),(.tm 8)]),
 RM 3 6 9] 4 [6])
 .ret))
def ayC:List Cert:=[⟨[],[0,4,5]⟩,⟨[],[6]⟩]
def aw1:List aW:=[.tm 6]
theorem ayJ:aO Tryz.prog Tryz.f152 ayC=some (av3,aw1):=by kernel_rfl
theorem ayD:aN Tryz.prog auK Tryz.f152 av3 aw1:=
 aN.mk Tryz.func152 (by kernel_rfl) ayJ
def auO:AC:=
 (.seq (.region [rq 0 3 (.box true (.tm 0)),
 rq 1 5 (.box true (.tm 2)),
 rq 2 6 (.move (.kv (.bool false)))] 3 [1,3,5])
 (.seq (.region [RM 0 7 1,
 rq 1 8 (.xop (.zI at5) [(.tm 5),(.tm 3)]),
 rq 2 9 (.call wB [(.tm 7),(.tm 8)]),
 RM 3 6 9] 4 [6])
 .ret))
def awQ:List Cert:=[⟨[],[1,3,5]⟩,⟨[],[6]⟩]
def avN:List aW:=[.tm 6]
theorem awR:aO Tryz.prog Tryz.f153 awQ=some (auO,avN):=by kernel_rfl
theorem awL:aN Tryz.prog atY Tryz.f153 auO avN:=
 aN.mk Tryz.func153 (by kernel_rfl) awR
def avZ:AC:=
 (.seq (.region [rq 0 3 (.box true (.tm 1)),
 rq 1 4 (.move (.kv (.slice none 0 0)))] 2 [0,3])
 (.seq (.region [RM 0 8 0,
 rq 1 9 (.load 5 true (.tm 3)),
 rq 2 10 (.call eR [(.tm 8),(.tm 9),(.fn bJ)]),
 RM 3 7 10,
 rq 4 11 (.ext (.tm 7) 0),
 rq 5 12 (.ext (.tm 7) 1),
 RM 6 5 11,
 RM 7 6 12] 8 [0,3,5])
 (.seq (.region [RM 0 13 0,
 RM 1 14 5,
 rq 2 15 (.load 5 true (.tm 3)),
 rq 3 16 (.bC 5 1 [VZ,VZ,VZ,VZ,OZ] [(0,5,(.tm 15))]),
 rq 4 17 (.call atU [(.tm 13),(.tm 14),(.tm 16)]),
 RM 5 4 17] 6 [4])
 .ret)))
def axZ:List Cert:=[⟨[],[0,3]⟩,⟨[],[0,3,5]⟩,⟨[],[4]⟩]
def awP:List aW:=[.tm 4]
theorem ax2:aO Tryz.prog Tryz.f154 axZ=some (avZ,awP):=by kernel_rfl
theorem ax5:aN Tryz.prog auE Tryz.f154 avZ awP:=
 aN.mk Tryz.func154 (by kernel_rfl) ax2
def at0:AC:=
 (.seq (.region [rq 0 6 (.move (.kv (.slice none 0 0)))] 1 [0,1,2])
 (.seq (.region [RM 0 8 0,
 RM 1 9 1,
 RM 2 10 2,
 RM 3 11 0,
 rq 4 12 (.len false (.tm 11)),
 rq 5 13 (.slc 5 (.tm 8) (some (.tm 9)) (some (.tm 10)) (some (.tm 12)))] 6 [0,1,2])
 (.seq (.seq (.region [RM 0 14 1,
 RM 1 15 2,
 rq 2 16 (.bin .eql (.tm 14) (.tm 15))] 3 [0,1,2,16])
 (.cond (.tm 16)
 (.seq (.region [RM 0 17 0,
 RM 1 6 17] 2 [6])
 .ret)
 .skip))
 (.seq (.region [RM 0 18 0,
 rq 1 19 (.len false (.tm 18)),
 RM 2 7 19] 3 [0,1,2,7])
 (.seq (.region [RM 0 20 0,
 RM 1 21 1,
 rq 2 22 (.slc 5 (.tm 20) none (some (.tm 21)) none),
 RM 3 23 0,
 RM 4 24 2,
 rq 5 25 (.slc 5 (.tm 23) (some (.tm 24)) none none),
 rq 6 26 (.append 5 (.tm 22) (.tm 25)),
 RM 7 0 26] 8 [0,7])
 (.seq (.region [RM 0 27 0,
 RM 1 28 0,
 rq 2 29 (.len false (.tm 28)),
 RM 3 30 7,
 rq 4 31 (.slc 5 (.tm 27) (some (.tm 29)) (some (.tm 30)) none),
 rn 5 (.xop (.clear 5 [VZ,VZ,VZ,VZ,OZ]) [(.tm 31)])] 6 [0])
 (.seq (.region [RM 0 32 0,
 RM 1 6 32] 2 [6])
 .ret)))))))
def avC:List Cert:=[⟨[],[0,1,2]⟩,⟨[],[0,1,2]⟩,⟨[],[0,1,2,16]⟩,⟨[],[6]⟩,⟨[],[0,1,2,7]⟩,⟨[cz 0,cz 1,cz 2,cz 3,cz 4,cz 5,cz 6,cz 7],[0,7]⟩,⟨[],[0]⟩,⟨[],[6]⟩]
def auG:List aW:=[.tm 6]
theorem avG:aO Tryz.prog Tryz.f155 avC=some (at0,auG):=by kernel_rfl
theorem avF:aN Tryz.prog x4 Tryz.f155 at0 auG:=
 aN.mk Tryz.func155 (by kernel_rfl) avG
def z6:AC:=
 (.seq (.region [rq 0 2 (.move (ki 0))] 1 [0])
 (.seq (.region [rq 0 3 (.move (ki 0))] 1 [0,3])
 (.seq (.seq (.region [RM 0 6 0,
 rq 1 7 (.len false (.tm 6)),
 rq 2 8 (.move (ki 0))] 3 [3,6,7,8])
 (.block 0
 (.loop
 (.seq (.region [rq 0 9 (.bin .lss (.tm 8) (.tm 7))] 1 [3,6,7,8,9])
 (.seq (.cond (.tm 9)
 .skip
 (.exit 0))
 (.seq (.block 1
 (.seq (.region [rq 0 10 (.idx 1 (.tm 6) (.tm 8)),
 RL 1 11 10,
 RM 2 5 11] 3 [3,5,6,7,8])
 (.seq (.region [RM 0 12 5,
 RM 1 13 3,
 rq 2 14 (.bin .neq (.tm 12) (.tm 13))] 3 [3,5,6,7,8,14])
 (.cond (.tm 14)
 (.seq (.region [RM 0 15 5,
 RM 1 2 15] 2 [2])
 .ret)
 .skip))))
 (.region [rq 0 16 (.bin .add (.tm 8) (ki 1)),
 RM 1 8 16] 2 [3,6,7,8])))))))
 (.seq (.region [RM 0 17 3,
 RM 1 2 17] 2 [2])
 .ret))))
def UF:List Cert:=[⟨[],[0]⟩,⟨[],[0,3]⟩,⟨[],[3,6,7,8]⟩,⟨[],[3,6,7,8,9]⟩,⟨[],[3,5,6,7,8]⟩,⟨[],[3,5,6,7,8,14]⟩,⟨[],[2]⟩,⟨[],[3,6,7,8]⟩,⟨[],[2]⟩]
def IP:List aW:=[.tm 2]
theorem UR:aO Tryz.prog Tryz.f157 UF=some (z6,IP):=by kernel_rfl
theorem T8:aN Tryz.prog wC Tryz.f157 z6 IP:=
 aN.mk Tryz.func157 (by kernel_rfl) UR
def pI:AC:=
 (.seq (.region [rq 0 4 (.move (ki 0))] 1 [0,1])
 (.seq (.region [RM 0 7 0,
 rq 1 8 (.call lG [(.tm 7)]),
 RM 2 5 8] 3 [0,1,5])
 (.seq (.region [RM 0 9 1,
 rq 1 10 (.call lG [(.tm 9)]),
 RM 2 6 10] 3 [0,1,5,6])
 (.seq (.seq (.region [RM 0 11 5] 1 [0,1,6,11])
 (.cond (.tm 11)
 (.seq (.seq (.region [RM 0 12 6] 1 [12])
 (.cond (.tm 12)
 (.seq (.region [rq 0 4 (.move (ki 0))] 1 [4])
 .ret)
 .skip))
 (.seq (.region [rq 0 4 (.move (.kv (.int .i64 (-1))))] 1 [4])
 .ret))
 .skip))
 (.seq (.seq (.region [RM 0 13 6] 1 [0,1,13])
 (.cond (.tm 13)
 (.seq (.region [rq 0 4 (.move (ki 1))] 1 [4])
 .ret)
 .skip))
 (.seq (.seq (.region [RM 0 14 0,
 RM 1 15 1,
 rq 2 16 (.bin .lss (.tm 14) (.tm 15))] 3 [0,1,16])
 (.cond (.tm 16)
 (.seq (.region [rq 0 4 (.move (.kv (.int .i64 (-1))))] 1 [4])
 .ret)
 .skip))
 (.seq (.seq (.region [RM 0 17 0,
 RM 1 18 1,
 rq 2 19 (.bin .gtr (.tm 17) (.tm 18))] 3 [19])
 (.cond (.tm 19)
 (.seq (.region [rq 0 4 (.move (ki 1))] 1 [4])
 .ret)
 .skip))
 (.seq (.region [rq 0 4 (.move (ki 0))] 1 [4])
 .ret))))))))
def JV:List Cert:=[⟨[],[0,1]⟩,⟨[],[0,1,5]⟩,⟨[],[0,1,5,6]⟩,⟨[],[0,1,6,11]⟩,⟨[],[12]⟩,⟨[],[4]⟩,⟨[],[4]⟩,⟨[],[0,1,13]⟩,⟨[],[4]⟩,⟨[],[0,1,16]⟩,⟨[],[4]⟩,⟨[],[19]⟩,⟨[],[4]⟩,⟨[],[4]⟩]
def x5:List aW:=[.tm 4]
theorem JD:aO Tryz.prog Tryz.f158 JV=some (pI,x5):=by kernel_rfl
theorem JR:aN Tryz.prog jC Tryz.f158 pI x5:=
 aN.mk Tryz.func158 (by kernel_rfl) JD
def lM:AC:=
 (.seq (.region [rq 0 1 (.box true (.tm 0)),
 rq 1 2 (.move (.kv (.bool false)))] 2 [1])
 (.seq (.region [RF 0 3 1 1,
 RL 1 4 3,
 rq 2 5 (.bin .eql (.tm 4) (ki 2)),
 RM 3 6 5,
 GQ 4 7 (.fld 1 (.tm 1)) 6 false,
 GQ 5 8 (.load 1 false (.tm 7)) 6 false,
 GQ 6 9 (.bin .eql (.tm 8) (ki 4)) 6 false,
 rq 7 10 (.pick (.tm 6) (.kv (.bool true)) (.tm 9)),
 RM 8 2 10] 9 [2])
 .ret))
def D8:List Cert:=[⟨[],[1]⟩,⟨[],[2]⟩]
def sE:List aW:=[.tm 2]
theorem D4:aO Tryz.prog Tryz.f159 D8=some (lM,sE):=by kernel_rfl
theorem EO:aN Tryz.prog eY Tryz.f159 lM sE:=
 aN.mk Tryz.func159 (by kernel_rfl) D4
def mQ:AC:=
 (.seq (.region [rq 0 1 (.box true (.tm 0)),
 rq 1 2 (.move (.kv (.slice none 0 0)))] 2 [1])
 (.seq (.region [RF 0 3 2 1,
 RL 1 4 3,
 RF 2 5 3 1,
 RL 3 6 5,
 RF 4 7 4 1,
 RL 5 8 7,
 rq 6 9 (.call oS [(.tm 4),(.tm 6),(.tm 8)]),
 RM 7 2 9] 8 [2])
 .ret))
def FU:List Cert:=[⟨[],[1]⟩,⟨[],[2]⟩]
def uP:List aW:=[.tm 2]
theorem GP:aO Tryz.prog Tryz.f160 FU=some (mQ,uP):=by kernel_rfl
theorem GL:aN Tryz.prog fP Tryz.f160 mQ uP:=
 aN.mk Tryz.func160 (by kernel_rfl) GP
def GM:AC:=
 (.seq (.region [rq 0 6 (.move (ki 0))] 1 [0,1,2])
 (.seq (.region [RM 0 8 2,
 rq 1 9 (.bin .and (.tm 8) (ki 1)),
 rq 2 10 (.bin .mul (.tm 9) (ki 255)),
 RM 3 11 2,
 rq 4 12 (.bin .shr (.tm 11) (.kv (.int .u64 1))),
 rq 5 13 (.bin .mul (.tm 12) (ki 65280)),
 rq 6 14 (.bin .or (.tm 10) (.tm 13)),
 RM 7 7 14] 8 [0,1,7])
 (.seq (.region [RM 0 15 0,
 RM 1 16 7,
 rq 2 17 (.bin .andNot (.tm 15) (.tm 16)),
 RM 3 18 1,
 RM 4 19 7,
 rq 5 20 (.bin .and (.tm 18) (.tm 19)),
 rq 6 21 (.bin .or (.tm 17) (.tm 20)),
 RM 7 6 21] 8 [6])
 .ret)))
def ZK:List Cert:=[⟨[],[0,1,2]⟩,⟨[],[0,1,7]⟩,⟨[],[6]⟩]
def NL:List aW:=[.tm 6]
theorem aaH:aO Tryz.prog Tryz.f161 ZK=some (GM,NL):=by kernel_rfl
theorem ZG:aN Tryz.prog DA Tryz.f161 GM NL:=
 aN.mk Tryz.func161 (by kernel_rfl) aaH
def iC:AC:=
 (.seq (.region [rq 0 4 (.move (.kv (.bool false)))] 1 [0,1])
 (.seq (.region [RM 0 5 0,
 RM 1 6 1,
 rq 2 7 (.call gN [(.tm 5),(.tm 6)]),
 rq 3 8 (.bin .geq (.tm 7) (ki 0)),
 RM 4 4 8] 5 [4])
 .ret))
def wA:List Cert:=[⟨[],[0,1]⟩,⟨[],[4]⟩]
def lV:List aW:=[.tm 4]
theorem wI:aO Tryz.prog Tryz.f162 wA=some (iC,lV):=by kernel_rfl
theorem wG:aN Tryz.prog fK Tryz.f162 iC lV:=
 aN.mk Tryz.func162 (by kernel_rfl) wI
def vH:AC:=
 (.seq (.region [rq 0 2 (.move (ki 0))] 1 [0])
 (.seq (.region [RM 0 3 0,
 rq 1 4 (.call aD [(.tm 3),(ki 4)]),
 RM 2 5 0,
 rq 3 6 (.call aD [(.tm 5),(ki 4)]),
 rq 4 7 (.bin .add (ki 16) (.tm 6)),
 RM 5 8 0,
 rq 6 9 (.call aD [(.tm 8),(ki 4)]),
 rq 7 10 (.bin .add (ki 32) (.tm 9)),
 RM 8 11 0,
 rq 9 12 (.call aD [(.tm 11),(ki 64)]),
 RM 10 13 0,
 rq 11 14 (.call aD [(.tm 13),(ki 5)]),
 rq 12 15 (.bin .add (ki 13) (.tm 14)),
 RM 13 16 0,
 rq 14 17 (.call aD [(.tm 16),(ki 4)]),
 rq 15 18 (.bin .add (ki 60) (.tm 17)),
 rq 16 19 (.bC 1 6 [VZ] [(0,1,(.tm 4)),(1,1,(.tm 7)),(2,1,(.tm 10)),(3,1,(.tm 12)),(4,1,(.tm 15)),(5,1,(.tm 18))]),
 rq 17 20 (.bC 1 8 [VZ] [(0,1,(ki 0)),(1,1,(ki 0)),(2,1,(ki 1)),(3,1,(ki 1)),(4,1,(ki 2)),(5,1,(ki 3)),(6,1,(ki 4)),(7,1,(ki 5))]),
 RM 18 21 0,
 rq 19 22 (.call aD [(.tm 21),(ki 8)]),
 rq 20 23 (.idx 1 (.tm 20) (.tm 22)),
 RL 21 24 23,
 rq 22 25 (.idx 1 (.tm 19) (.tm 24)),
 RL 23 26 25,
 RM 24 2 26] 25 [2])
 .ret))
def PD:List Cert:=[⟨[],[0]⟩,⟨[],[2]⟩]
def DR:List aW:=[.tm 2]
theorem O8:aO Tryz.prog Tryz.f177 PD=some (vH,DR):=by kernel_rfl
theorem N4:aN Tryz.prog qM Tryz.f177 vH DR:=
 aN.mk Tryz.func177 (by kernel_rfl) O8
def cY:AC:=
 (.seq (.region [rq 0 4 (.move (.kv (.bool false)))] 1 [0,1])
 (.seq (.region [RM 0 5 0,
 RM 1 6 1,
 rq 2 7 (.call bR [(.tm 5),(.tm 6)]),
 rq 3 8 (.bin .geq (.tm 7) (ki 0)),
 RM 4 4 8] 5 [4])
 .ret))
def lC:List Cert:=[⟨[],[0,1]⟩,⟨[],[4]⟩]
def fT:List aW:=[.tm 4]
theorem lH:aO Tryz.prog Tryz.f179 lC=some (cY,fT):=by kernel_rfl
theorem lF:aN Tryz.prog bX Tryz.f179 cY fT:=
 aN.mk Tryz.func179 (by kernel_rfl) lH
end Go.Proofs.YtegiblhkjfiooaaGreat
end
