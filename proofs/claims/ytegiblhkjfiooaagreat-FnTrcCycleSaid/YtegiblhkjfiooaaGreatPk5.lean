/- Texts laid together by a program: rules, contracts and the walk that leads to the law. -/
import Derived.Test.YtegiblhkjfiooaaGreatPk3
set_option linter.unusedVariables false
set_option linter.unusedSimpArgs false
set_option linter.unusedSectionVars false
section
namespace Go.Proofs.YtegiblhkjfiooaaGreat
open Go Go.AM
set_option maxRecDepth 100000
def tF:AC:=
 (.seq (.region [rq 0 4 (.move (.kv (.bool false)))] 1 [0,1])
 (.seq (.region [RM 0 5 1,
 rq 1 6 (.bin .lss (.tm 5) (ki 9000)),
 RM 2 7 6,
 GQ 3 8 (.move (.tm 0)) 7 true,
 GQ 4 9 (.move (.tm 1)) 7 true,
 GQ 5 10 (.call aG [(.tm 8),(.tm 9)]) 7 true,
 GQ 6 11 (.move (.tm 1)) 7 true,
 GQ 7 12 (.bin .sub (.tm 11) (ki 1)) 7 true,
 GQ 8 13 (.bin .eql (.tm 10) (.tm 12)) 7 true,
 rq 9 14 (.pick (.tm 7) (.tm 13) (.kv (.bool false))),
 RM 10 4 14] 11 [4])
 .ret))
def LH:List Cert:=[⟨[],[0,1]⟩,⟨[],[4]⟩]
def AN:List aZ:=[.tm 4]
theorem K3:aR Tryz.prog Tryz.f97 LH=some (tF,AN):=by kernel_rfl
theorem K9:aP Tryz.prog kY Tryz.f97 tF AN:=
 aP.mk Tryz.func97 (by kernel_rfl) K3
def qO:AC:=
 (.seq (.region [rq 0 4 (.move (ki 0))] 1 [0,1])
 (.seq (.region [RM 0 7 0,
 RM 1 8 0,
 RK 2 9 8,
 RF 3 10 1 9,
 RL 4 11 10,
 rq 5 12 (.bin .add (.tm 11) (ki 1)),
 RK 6 13 7,
 RF 7 14 1 13,
 rn 8 (.store 1 false (.tm 14) (.tm 12))] 9 [0,1])
 (.seq (.seq (.region [RM 0 15 1,
 rq 1 16 (.bin .lss (.tm 15) (ki 1)),
 RM 2 17 16,
 GQ 3 18 (.move (.tm 0)) 17 false,
 GQ 4 19 (.uG (.tm 18)) 17 false,
 GQ 5 20 (.fld 0 (.tm 19)) 17 false,
 GQ 6 21 (.load 1 false (.tm 20)) 17 false,
 GQ 7 22 (.len false (.tm 21)) 17 false,
 GQ 8 23 (.bin .eql (.tm 22) (ki 0)) 17 false,
 rq 9 24 (.pick (.tm 17) (.kv (.bool true)) (.tm 23))] 10 [0,1,24])
 (.cond (.tm 24)
 (.seq (.region [rq 0 4 (.move (ki 0))] 1 [4])
 .ret)
 .skip))
 (.seq (.region [RM 0 25 0,
 RK 1 26 25,
 RF 2 27 1 26,
 RL 3 28 27,
 rq 4 29 (.bin .sub (.tm 28) (ki 1)),
 RM 5 5 29] 6 [0,1,5])
 (.seq (.seq (.region [RM 0 30 5,
 RM 1 31 0,
 RK 2 32 31,
 RF 3 33 0 32,
 RL 4 34 33,
 rq 5 35 (.len false (.tm 34)),
 rq 6 36 (.bin .lss (.tm 30) (.tm 35))] 7 [0,1,5,36])
 (.cond (.tm 36)
 (.seq (.region [RM 0 37 0,
 RK 1 38 37,
 RF 2 39 0 38,
 RL 3 40 39,
 RM 4 41 5,
 rq 5 42 (.idx 1 (.tm 40) (.tm 41)),
 RL 6 43 42,
 rq 7 44 (.conv .i64 (.tm 43)),
 RM 8 45 1,
 rq 9 46 (.bin .rem (.tm 44) (.tm 45)),
 RM 10 4 46] 11 [4])
 .ret)
 .skip))
 (.seq (.region [RM 0 47 0,
 RK 1 48 47,
 RF 2 49 0 48,
 RL 3 50 49,
 RM 4 51 5,
 RM 5 52 0,
 RK 6 53 52,
 RF 7 54 0 53,
 RL 8 55 54,
 rq 9 56 (.len false (.tm 55)),
 rq 10 57 (.bin .rem (.tm 51) (.tm 56)),
 rq 11 58 (.idx 1 (.tm 50) (.tm 57)),
 RL 12 59 58,
 rq 13 60 (.conv .i64 (.tm 59)),
 rq 14 61 (.bin .mul (.tm 60) (ki 131)),
 RM 15 62 0,
 RK 16 63 62,
 RF 17 64 0 63,
 RL 18 65 64,
 RM 19 66 5,
 rq 20 67 (.bin .mul (.tm 66) (ki 7)),
 rq 21 68 (.bin .add (.tm 67) (ki 3)),
 RM 22 69 0,
 RK 23 70 69,
 RF 24 71 0 70,
 RL 25 72 71,
 rq 26 73 (.len false (.tm 72)),
 rq 27 74 (.bin .rem (.tm 68) (.tm 73)),
 rq 28 75 (.idx 1 (.tm 65) (.tm 74)),
 RL 29 76 75,
 rq 30 77 (.conv .i64 (.tm 76)),
 rq 31 78 (.bin .mul (.tm 77) (ki 1117)),
 rq 32 79 (.bin .add (.tm 61) (.tm 78)),
 RM 33 80 5,
 rq 34 81 (.bin .mul (.tm 80) (ki 29)),
 rq 35 82 (.bin .add (.tm 79) (.tm 81)),
 RM 36 83 5,
 RM 37 84 0,
 RK 38 85 84,
 RF 39 86 0 85,
 RL 40 87 86,
 rq 41 88 (.len false (.tm 87)),
 rq 42 89 (.bin .quo (.tm 83) (.tm 88)),
 rq 43 90 (.bin .mul (.tm 89) (ki 53)),
 rq 44 91 (.bin .add (.tm 82) (.tm 90)),
 RM 45 6 91] 46 [1,6])
 (.seq (.region [RM 0 92 6,
 RM 1 93 6,
 rq 2 94 (.bin .quo (.tm 93) (ki 64)),
 rq 3 95 (.bin .xor (.tm 92) (.tm 94)),
 RM 4 6 95] 5 [1,6])
 (.seq (.region [RM 0 96 6,
 RM 1 97 1,
 rq 2 98 (.bin .rem (.tm 96) (.tm 97)),
 RM 3 4 98] 4 [4])
 .ret))))))))
def J6:List Cert:=[⟨[],[0,1]⟩,⟨[],[0,1]⟩,⟨[],[0,1,24]⟩,⟨[],[4]⟩,⟨[],[0,1,5]⟩,⟨[],[0,1,5,36]⟩,⟨[],[4]⟩,⟨[cz 0,cz 1,cz 2,cz 3,cz 4,cz 5,cz 6,cz 7,cz 8,cz 9,cz 10,cz 11,cz 12,cz 13,cz 14,cz 15,cz 16,cz 17,cz 18,cz 19,cz 20,cz 21,cz 22,cz 23,cz 24,cz 25,cz 26,cz 27,cz 28,cz 29,cz 30,cz 31,cz 32,cz 33,cz 34,cz 35,cz 36,cz 37,cz 38,cz 39,cz 40,cz 41,cz 42,cz 43,cz 44,cz 45],[1,6]⟩,⟨[],[1,6]⟩,⟨[],[4]⟩]
def yR:List aZ:=[.tm 4]
theorem KS:aR Tryz.prog Tryz.f104 J6=some (qO,yR):=by kernel_rfl
theorem J8:aP Tryz.prog aG Tryz.f104 qO yR:=
 aP.mk Tryz.func104 (by kernel_rfl) KS
def yZ:AC:=
 (.seq (.region [rq 0 4 (.move (.kv (.slice none 0 0)))] 1 [0,1])
 (.seq (.region [rq 0 7 (.build [VZ,VZ,VZ,(.v (.bool false))] [(0,1,(ki 0)),(1,1,(ki 15))]),
 rq 1 8 (.build [VZ,VZ,VZ,(.v (.bool false))] [(0,1,(ki 16)),(1,1,(ki 31)),(2,1,(ki 1))]),
 RM 2 9 0,
 rq 3 10 (.call aG [(.tm 9),(ki 3)]),
 rq 4 11 (.bin .eql (.tm 10) (ki 0)),
 rq 5 12 (.build [VZ,VZ,VZ,(.v (.bool false))] [(0,1,(ki 32)),(1,1,(ki 47)),(2,1,(ki 2)),(3,1,(.tm 11))]),
 rq 6 13 (.bI 4 3 [VZ,VZ,VZ,(.v (.bool false))] [(0,4,(.tm 7)),(4,4,(.tm 8)),(8,4,(.tm 12))]),
 RM 7 5 13] 8 [0,1,5])
 (.seq (.seq (.region [RM 0 14 0,
 rq 1 15 (.call aG [(.tm 14),(ki 4)])] 2 [0,1,5,15])
 (.block 0
 (.seq (.region [rq 0 17 (.bin .eql (.tm 15) (ki 0)),
 RM 1 16 17] 2 [0,1,5,15,16])
 (.cond (.tm 16)
 (.region [rq 0 18 (.build [VZ,VZ,VZ,(.v (.bool false))] [(0,1,(ki 0)),(1,1,(ki 7))]),
 rq 1 19 (.build [VZ,VZ,VZ,(.v (.bool false))] [(0,1,(ki 8)),(1,1,(ki 15)),(2,1,(ki 1))]),
 RM 2 20 0,
 rq 3 21 (.call aG [(.tm 20),(ki 3)]),
 rq 4 22 (.build [VZ,VZ,VZ,(.v (.bool false))] [(0,1,(ki 20)),(1,1,(ki 40)),(2,1,(.tm 21))]),
 RM 5 23 0,
 rq 6 24 (.call aG [(.tm 23),(ki 2)]),
 rq 7 25 (.bin .eql (.tm 24) (ki 0)),
 rq 8 26 (.build [VZ,VZ,VZ,(.v (.bool false))] [(0,1,(ki 41)),(1,1,(ki 63)),(2,1,(ki 2)),(3,1,(.tm 25))]),
 rq 9 27 (.bI 4 4 [VZ,VZ,VZ,(.v (.bool false))] [(0,4,(.tm 18)),(4,4,(.tm 19)),(8,4,(.tm 22)),(12,4,(.tm 26))]),
 RM 10 5 27] 11 [0,1,5])
 (.seq (.region [rq 0 29 (.bin .eql (.tm 15) (ki 1)),
 RM 1 28 29] 2 [0,1,5,28])
 (.cond (.tm 28)
 (.region [RM 0 30 5,
 RM 1 31 0,
 rq 2 32 (.call aG [(.tm 31),(ki 3)]),
 rq 3 33 (.bin .add (ki 1) (.tm 32)),
 rq 4 34 (.slc 4 (.tm 30) none (some (.tm 33)) none),
 RM 5 5 34] 6 [0,1,5])
 .skip))))))
 (.seq (.seq (.region [RM 0 35 0,
 RM 1 36 1,
 rq 2 37 (.call kY [(.tm 35),(.tm 36)])] 3 [0,5,37])
 (.cond (.tm 37)
 (.seq (.region [RM 0 38 0,
 RM 1 39 5,
 rq 2 40 (.len false (.tm 39)),
 rq 3 41 (.call aG [(.tm 38),(.tm 40)]),
 RM 4 6 41] 5 [0,5,6])
 (.seq (.region [RM 0 42 0,
 rq 1 43 (.call aG [(.tm 42),(ki 4)])] 2 [0,5,6,43])
 (.block 1
 (.seq (.region [rq 0 51 (.bin .eql (.tm 43) (ki 0)),
 RM 1 50 51] 2 [0,5,6,43,50])
 (.cond (.tm 50)
 (.region [RM 0 52 5,
 RM 1 53 6,
 RM 2 54 5,
 RM 3 55 6,
 rq 4 56 (.idx 4 (.tm 54) (.tm 55)),
 RF 5 57 1 56,
 ⟨6,(some 58),.load 1 false (.tm 57),none,[8],[],true⟩,
 rq 7 59 (.bin .add (.tm 58) (ki 1)),
 rq 8 60 (.bI 1 3 [VZ] [(0,1,(.kv (.int .i64 (-1)))),(1,1,(.tm 59)),(2,1,(ki 5))]),
 RM 9 61 0,
 ⟨10,(some 62),.call aG [(.tm 61),(ki 3)],none,[8],[6],false⟩,
 rq 11 63 (.idx 1 (.tm 60) (.tm 62)),
 RL 12 64 63,
 rq 13 65 (.idx 4 (.tm 52) (.tm 53)),
 RF 14 66 0 65,
 rn 15 (.store 1 false (.tm 66) (.tm 64))] 16 [5])
 (.seq (.region [rq 0 68 (.bin .eql (.tm 43) (ki 1)),
 RM 1 67 68] 2 [0,5,6,43,67])
 (.cond (.tm 67)
 (.region [RM 0 69 5,
 RM 1 70 6,
 RM 2 71 5,
 RM 3 72 6,
 rq 4 73 (.idx 4 (.tm 71) (.tm 72)),
 RF 5 74 0 73,
 ⟨6,(some 75),.load 1 false (.tm 74),none,[8],[],true⟩,
 rq 7 76 (.bin .sub (.tm 75) (ki 1)),
 rq 8 77 (.bI 1 3 [VZ] [(0,1,(ki 64)),(1,1,(.tm 76)),(2,1,(ki 40))]),
 RM 9 78 0,
 ⟨10,(some 79),.call aG [(.tm 78),(ki 3)],none,[8],[6],false⟩,
 rq 11 80 (.idx 1 (.tm 77) (.tm 79)),
 RL 12 81 80,
 rq 13 82 (.idx 4 (.tm 69) (.tm 70)),
 RF 14 83 1 82,
 rn 15 (.store 1 false (.tm 83) (.tm 81))] 16 [5])
 (.seq (.region [rq 0 85 (.bin .eql (.tm 43) (ki 2)),
 RM 1 84 85] 2 [0,5,6,84])
 (.cond (.tm 84)
 (.region [RM 0 86 5,
 RM 1 87 6,
 rq 2 88 (.bI 1 2 [VZ] [(0,1,(.kv (.int .i64 (-1)))),(1,1,(ki 3))]),
 RM 3 89 0,
 rq 4 90 (.call aG [(.tm 89),(ki 2)]),
 rq 5 91 (.idx 1 (.tm 88) (.tm 90)),
 RL 6 92 91,
 rq 7 93 (.idx 4 (.tm 86) (.tm 87)),
 RF 8 94 2 93,
 rn 9 (.store 1 false (.tm 94) (.tm 92))] 10 [5])
 (.region [RM 0 44 5,
 rq 1 45 (.build [VZ,VZ,VZ,(.v (.bool false))] [(0,1,(ki 60)),(1,1,(ki 61))]),
 rq 2 46 (.build [VZ,VZ,VZ,(.v (.bool false))] [(0,1,(ki 62)),(1,1,(ki 62))]),
 rq 3 47 (.build [VZ,VZ,VZ,(.v (.bool false))] [(0,1,(ki 63)),(1,1,(ki 63))]),
 rq 4 48 (.bI 4 3 [VZ,VZ,VZ,(.v (.bool false))] [(0,4,(.tm 45)),(4,4,(.tm 46)),(8,4,(.tm 47))]),
 rq 5 49 (.append 4 (.tm 44) (.tm 48)),
 RM 6 5 49] 7 [5]))))))))))
 .skip))
 (.seq (.region [RM 0 95 5,
 RM 1 4 95] 2 [4])
 .ret)))))
def SN:List Cert:=[⟨[],[0,1]⟩,⟨[],[0,1,5]⟩,⟨[],[0,1,5,15]⟩,⟨[],[0,1,5,15,16]⟩,⟨[],[0,1,5]⟩,⟨[],[0,1,5,28]⟩,⟨[],[0,1,5]⟩,⟨[],[0,5,37]⟩,⟨[],[0,5,6]⟩,⟨[],[0,5,6,43]⟩,⟨[],[0,5,6,43,50]⟩,⟨[cz 0,cz 1,cz 2,cz 3,cz 4,cz 5,(6,[8],[],true),cz 7,cz 8,cz 9,(10,[8],[6],false),cz 11,cz 12,cz 13,cz 14,cz 15],[5]⟩,⟨[],[0,5,6,43,67]⟩,⟨[cz 0,cz 1,cz 2,cz 3,cz 4,cz 5,(6,[8],[],true),cz 7,cz 8,cz 9,(10,[8],[6],false),cz 11,cz 12,cz 13,cz 14,cz 15],[5]⟩,⟨[],[0,5,6,84]⟩,⟨[],[5]⟩,⟨[],[5]⟩,⟨[],[4]⟩]
def HK:List aZ:=[.tm 4]
theorem SE:aR Tryz.prog Tryz.f107 SN=some (yZ,HK):=by kernel_rfl
theorem RD:aP Tryz.prog vL Tryz.f107 yZ HK:=
 aP.mk Tryz.func107 (by kernel_rfl) SE
def y0:AC:=
 (.seq (.region [rq 0 4 (.alloc [VZ,VZ,VZ,VZ,(.v (.bool false)),OZ,OZ])] 1 [0,1,4])
 (.seq (.region [RM 0 7 0,
 RM 2 9 0,
 RM 5 12 0,
 rq 7 14 (.bI 1 4 [VZ] [(0,1,(ki 1)),(1,1,(ki 1)),(2,1,(ki 2)),(3,1,(ki 4))]),
 RM 8 15 0,
 RM 12 19 0,
 rq 16 5 (.alloc [VZ,VZ,VZ,VZ,(.v (.bool false)),OZ,OZ]),
 ⟨1,(some 8),.call aG [(.tm 7),(ki 2)],none,[7,16],[],false⟩,
 ⟨3,(some 10),.call aG [(.tm 9),(ki 4)],none,[7,16],[],false⟩,
 rq 4 11 (.bin .add (ki 1) (.tm 10)),
 ⟨6,(some 13),.call r9 [(.tm 12)],none,[7,16],[],false⟩,
 ⟨9,(some 16),.call aG [(.tm 15),(ki 4)],none,[7,16],[],false⟩,
 rq 10 17 (.idx 1 (.tm 14) (.tm 16)),
 ⟨11,(some 18),.load 1 false (.tm 17),none,[16],[],true⟩,
 ⟨13,(some 20),.call aG [(.tm 19),(ki 3)],none,[7,16],[11],false⟩,
 rq 14 21 (.bin .eql (.tm 20) (ki 0)),
 rq 15 22 (.build [VZ,VZ,VZ,VZ,(.v (.bool false)),OZ,OZ] [(0,1,(.tm 8)),(1,1,(.tm 11)),(2,1,(.tm 13)),(3,1,(.tm 18)),(4,1,(.tm 21))]),
 rn 17 (.store 7 true (.tm 5) (.tm 22))] 18 [0,1,4,5])
 (.seq (.seq (.region [RF 0 23 1 5,
 RL 1 24 23,
 rq 2 25 (.bin .geq (.tm 24) (ki 3))] 3 [0,1,4,5,25])
 (.cond (.tm 25)
 (.seq (.region [RF 0 26 3 5,
 rn 1 (.store 1 false (.tm 26) (ki 1))] 2 [0,1,4,5])
 (.region [rq 0 27 (.bI 1 4 [VZ] [(0,1,(ki 0)),(1,1,(ki 1)),(2,1,(ki 16)),(3,1,(ki 32))]),
 RM 1 28 0,
 rq 2 29 (.call aG [(.tm 28),(ki 4)]),
 rq 3 30 (.idx 1 (.tm 27) (.tm 29)),
 RL 4 31 30,
 RF 5 32 2 5,
 rn 6 (.store 1 false (.tm 32) (.tm 31))] 7 [0,1,4,5]))
 .skip))
 (.seq (.seq (.region [RF 0 33 4 5,
 RL 1 34 33,
 rq 2 35 (.un .not (.tm 34)),
 RM 3 36 35,
 GQ 4 37 (.fld 2 (.tm 5)) 36 true,
 GQ 5 38 (.load 1 false (.tm 37)) 36 true,
 GQ 6 39 (.fld 3 (.tm 5)) 36 true,
 GQ 7 40 (.load 1 false (.tm 39)) 36 true,
 GQ 8 41 (.bin .add (.tm 38) (.tm 40)) 36 true,
 GQ 9 42 (.bin .sub (.tm 41) (ki 1)) 36 true,
 GQ 10 43 (.bin .gtr (.tm 42) (ki 63)) 36 true,
 rq 11 44 (.pick (.tm 36) (.tm 43) (.kv (.bool false)))] 12 [0,1,4,5,44])
 (.cond (.tm 44)
 (.region [RF 0 45 3 5,
 RL 1 46 45,
 rq 2 47 (.bin .sub (ki 63) (.tm 46)),
 rq 3 48 (.bin .add (.tm 47) (ki 1)),
 RF 4 49 2 5,
 rn 5 (.store 1 false (.tm 49) (.tm 48))] 6 [0,1,4,5])
 .skip))
 (.seq (.seq (.region [RF 0 50 1 5,
 RL 1 51 50,
 rq 2 52 (.bin .eql (.tm 51) (ki 2)),
 RM 3 53 52,
 GQ 4 54 (.fld 1 (.tm 5)) 53 false,
 GQ 5 55 (.load 1 false (.tm 54)) 53 false,
 GQ 6 56 (.bin .eql (.tm 55) (ki 4)) 53 false,
 rq 7 57 (.pick (.tm 53) (.kv (.bool true)) (.tm 56))] 8 [0,1,4,5,57])
 (.cond (.tm 57)
 (.seq (.region [rq 0 6 (.move (ki 0))] 1 [0,1,4,5,6])
 (.block 0
 (.loop
 (.seq (.seq (.region [RM 0 58 6,
 RF 1 59 3 5,
 RL 2 60 59,
 rq 3 61 (.bin .lss (.tm 58) (.tm 60))] 4 [0,1,4,5,6,61])
 (.cond (.tm 61)
 .skip
 (.exit 0)))
 (.seq (.block 1
 (.seq (.region [RF 0 64 5 5,
 ⟨1,(some 65),.load 1 false (.tm 64),none,[7,12],[],true⟩,
 RM 2 66 0,
 RM 5 69 0,
 RM 8 72 0,
 ⟨3,(some 67),.call aG [(.tm 66),(ki 256)],none,[],[1],false⟩,
 rq 4 68 (.bin .mul (.tm 67) (ki 257)),
 ⟨6,(some 70),.call aG [(.tm 69),(ki 10)],none,[],[1],false⟩,
 rq 7 71 (.bI 1 4 [VZ] [(0,1,(.tm 68)),(1,1,(.tm 70)),(2,1,(ki 65535)),(3,1,(ki 0))]),
 ⟨9,(some 73),.call aG [(.tm 72),(ki 4)],none,[7],[1],false⟩,
 rq 10 74 (.idx 1 (.tm 71) (.tm 73)),
 RL 11 75 74,
 rq 12 76 (.bI 1 1 [VZ] [(0,1,(.tm 75))]),
 rq 13 77 (.append 1 (.tm 65) (.tm 76)),
 RF 14 78 5 5,
 rn 15 (.store 1 false (.tm 78) (.tm 77))] 16 [0,1,4,5,6])
 (.region [RF 0 79 6 5,
 ⟨1,(some 80),.load 1 false (.tm 79),none,[2,7],[],true⟩,
 rq 2 81 (.bI 1 5 [VZ] [(0,1,(ki 3)),(1,1,(ki 3)),(2,1,(ki 1)),(3,1,(ki 2)),(4,1,(ki 0))]),
 RM 3 82 0,
 ⟨4,(some 83),.call aG [(.tm 82),(ki 5)],none,[2],[1],false⟩,
 rq 5 84 (.idx 1 (.tm 81) (.tm 83)),
 RL 6 85 84,
 rq 7 86 (.bI 1 1 [VZ] [(0,1,(.tm 85))]),
 rq 8 87 (.append 1 (.tm 80) (.tm 86)),
 RF 9 88 6 5,
 rn 10 (.store 1 false (.tm 88) (.tm 87))] 11 [0,1,4,5,6])))
 (.region [RM 0 62 6,
 rq 1 63 (.bin .add (.tm 62) (ki 1)),
 RM 2 6 63] 3 [0,1,4,5,6]))))))
 .skip))
 (.seq (.seq (.region [RM 0 89 0,
 RM 1 90 1,
 rq 2 91 (.call kY [(.tm 89),(.tm 90)])] 3 [0,4,5,91])
 (.cond (.tm 91)
 (.seq (.region [RM 0 92 0,
 rq 1 93 (.call aG [(.tm 92),(ki 7)])] 2 [0,4,5,93])
 (.block 2
 (.seq (.region [rq 0 107 (.bin .eql (.tm 93) (ki 0)),
 RM 1 106 107] 2 [0,4,5,93,106])
 (.cond (.tm 106)
 (.region [rq 0 108 (.bI 1 2 [VZ] [(0,1,(.kv (.int .i64 (-1)))),(1,1,(ki 2))]),
 RM 1 109 0,
 rq 2 110 (.call aG [(.tm 109),(ki 2)]),
 rq 3 111 (.idx 1 (.tm 108) (.tm 110)),
 RL 4 112 111,
 RF 5 113 0 5,
 rn 6 (.store 1 false (.tm 113) (.tm 112))] 7 [4,5])
 (.seq (.region [rq 0 115 (.bin .eql (.tm 93) (ki 1)),
 RM 1 114 115] 2 [0,4,5,93,114])
 (.cond (.tm 114)
 (.region [rq 0 116 (.bI 1 2 [VZ] [(0,1,(ki 0)),(1,1,(ki 5))]),
 RM 1 117 0,
 rq 2 118 (.call aG [(.tm 117),(ki 2)]),
 rq 3 119 (.idx 1 (.tm 116) (.tm 118)),
 RL 4 120 119,
 RF 5 121 1 5,
 rn 6 (.store 1 false (.tm 121) (.tm 120))] 7 [4,5])
 (.seq (.region [rq 0 123 (.bin .eql (.tm 93) (ki 2)),
 RM 1 122 123] 2 [0,4,5,93,122])
 (.cond (.tm 122)
 (.region [rq 0 124 (.bI 1 3 [VZ] [(0,1,(.kv (.int .i64 (-1)))),(1,1,(ki 64)),(2,1,(ki 63))]),
 RM 1 125 0,
 rq 2 126 (.call aG [(.tm 125),(ki 3)]),
 rq 3 127 (.idx 1 (.tm 124) (.tm 126)),
 RL 4 128 127,
 RF 5 129 2 5,
 rn 6 (.store 1 false (.tm 129) (.tm 128))] 7 [4,5])
 (.seq (.region [rq 0 131 (.bin .eql (.tm 93) (ki 3)),
 RM 1 130 131] 2 [0,4,5,93,130])
 (.cond (.tm 130)
 (.region [rq 0 132 (.bI 1 4 [VZ] [(0,1,(ki 0)),(1,1,(ki 3)),(2,1,(ki 8)),(3,1,(ki 4))]),
 RM 1 133 0,
 rq 2 134 (.call aG [(.tm 133),(ki 4)]),
 rq 3 135 (.idx 1 (.tm 132) (.tm 134)),
 RL 4 136 135,
 RF 5 137 3 5,
 rn 6 (.store 1 false (.tm 137) (.tm 136))] 7 [4,5])
 (.seq (.region [rq 0 139 (.bin .eql (.tm 93) (ki 4)),
 RM 1 138 139] 2 [0,4,5,93,138])
 (.cond (.tm 138)
 (.region [RF 0 140 5 5,
 RL 1 141 140,
 rq 2 142 (.bI 1 1 [VZ] [(0,1,(ki 5))]),
 rq 3 143 (.append 1 (.tm 141) (.tm 142)),
 RF 4 144 5 5,
 rn 5 (.store 1 false (.tm 144) (.tm 143))] 6 [4,5])
 (.seq (.region [rq 0 146 (.bin .eql (.tm 93) (ki 5)),
 RM 1 145 146] 2 [0,4,5,145])
 (.cond (.tm 145)
 (.region [RF 0 147 6 5,
 RL 1 148 147,
 rq 2 149 (.bI 1 1 [VZ] [(0,1,(ki 1))]),
 rq 3 150 (.append 1 (.tm 148) (.tm 149)),
 RF 4 151 6 5,
 rn 5 (.store 1 false (.tm 151) (.tm 150))] 6 [4,5])
 (.seq (.region [RF 0 94 5 5,
 RL 1 95 94,
 rq 2 96 (.len false (.tm 95)),
 rq 3 97 (.bin .gtr (.tm 96) (ki 0))] 4 [0,4,5,97])
 (.cond (.tm 97)
 (.region [RF 0 98 5 5,
 ⟨1,(some 99),.load 1 false (.tm 98),none,[2],[],true⟩,
 rq 2 100 (.bI 1 2 [VZ] [(0,1,(.kv (.int .i64 (-1)))),(1,1,(ki 65536))]),
 RM 3 101 0,
 ⟨4,(some 102),.call aG [(.tm 101),(ki 2)],none,[2],[1],false⟩,
 rq 5 103 (.idx 1 (.tm 100) (.tm 102)),
 RL 6 104 103,
 rq 7 105 (.idx 1 (.tm 99) (ki 0)),
 rn 8 (.store 1 false (.tm 105) (.tm 104))] 9 [4,5])
 .skip))))))))))))))))
 .skip))
 (.seq (.region [rq 0 152 (.load 7 true (.tm 5)),
 rn 1 (.store 7 true (.tm 4) (.tm 152))] 2 [4])
 .ret)))))))
def TE:List Cert:=[⟨[],[0,1,4]⟩,⟨[cz 0,cz 2,cz 5,cz 7,cz 8,cz 12,cz 16,(1,[7,16],[],false),(3,[7,16],[],false),cz 4,(6,[7,16],[],false),(9,[7,16],[],false),cz 10,(11,[16],[],true),(13,[7,16],[11],false),cz 14,cz 15,cz 17],[0,1,4,5]⟩,⟨[],[0,1,4,5,25]⟩,⟨[],[0,1,4,5]⟩,⟨[],[0,1,4,5]⟩,⟨[],[0,1,4,5,44]⟩,⟨[],[0,1,4,5]⟩,⟨[],[0,1,4,5,57]⟩,⟨[],[0,1,4,5,6]⟩,⟨[],[0,1,4,5,6,61]⟩,⟨[cz 0,(1,[7,12],[],true),cz 2,cz 5,cz 8,(3,[],[1],false),cz 4,(6,[],[1],false),cz 7,(9,[7],[1],false),cz 10,cz 11,cz 12,cz 13,cz 14,cz 15],[0,1,4,5,6]⟩,⟨[cz 0,(1,[2,7],[],true),cz 2,cz 3,(4,[2],[1],false),cz 5,cz 6,cz 7,cz 8,cz 9,cz 10],[0,1,4,5,6]⟩,⟨[],[0,1,4,5,6]⟩,⟨[],[0,4,5,91]⟩,⟨[],[0,4,5,93]⟩,⟨[],[0,4,5,93,106]⟩,⟨[],[4,5]⟩,⟨[],[0,4,5,93,114]⟩,⟨[],[4,5]⟩,⟨[],[0,4,5,93,122]⟩,⟨[],[4,5]⟩,⟨[],[0,4,5,93,130]⟩,⟨[],[4,5]⟩,⟨[],[0,4,5,93,138]⟩,⟨[],[4,5]⟩,⟨[],[0,4,5,145]⟩,⟨[],[4,5]⟩,⟨[],[0,4,5,97]⟩,⟨[cz 0,(1,[2],[],true),cz 2,cz 3,(4,[2],[1],false),cz 5,cz 6,cz 7,cz 8],[4,5]⟩,⟨[],[4]⟩]
def FW:List aZ:=[.cell 4 7 true]
theorem SQ:aR Tryz.prog Tryz.f108 TE=some (y0,FW):=by kernel_rfl
theorem Q6:aP Tryz.prog vG Tryz.f108 y0 FW:=
 aP.mk Tryz.func108 (by kernel_rfl) SQ
def BO:AC:=
 (.seq (.region [rq 0 2 (.move (.kv (.bool false)))] 1 [0])
 (.seq (.seq (.region [RM 0 5 0,
 rq 1 6 (.len false (.tm 5)),
 rq 2 7 (.move (ki 0))] 3 [0,5,6,7])
 (.block 0
 (.loop
 (.seq (.region [rq 0 8 (.bin .lss (.tm 7) (.tm 6))] 1 [0,5,6,7,8])
 (.seq (.cond (.tm 8)
 .skip
 (.exit 0))
 (.seq (.block 1
 (.seq (.region [RM 0 9 7,
 rq 1 10 (.idx 4 (.tm 5) (.tm 7)),
 rq 2 11 (.load 4 true (.tm 10)),
 rq 3 4 (.alloc [VZ,VZ,VZ,(.v (.bool false))]),
 RM 4 3 9,
 rn 5 (.store 4 true (.tm 4) (.tm 11))] 6 [0,3,4,5,6,7])
 (.seq (.region [RF 0 12 0 4,
 RL 1 13 12,
 rq 2 14 (.call cE [(.tm 13),(ki 0),(ki 63)]),
 rq 3 15 (.un .not (.tm 14)),
 RM 4 16 15,
 GQ 5 17 (.fld 1 (.tm 4)) 16 false,
 GQ 6 18 (.load 1 false (.tm 17)) 16 false,
 GQ 7 19 (.fld 0 (.tm 4)) 16 false,
 GQ 8 20 (.load 1 false (.tm 19)) 16 false,
 GQ 9 21 (.call cE [(.tm 18),(.tm 20),(ki 63)]) 16 false,
 GQ 10 22 (.un .not (.tm 21)) 16 false,
 rq 11 23 (.pick (.tm 16) (.kv (.bool true)) (.tm 22)),
 RM 12 24 23,
 GQ 13 25 (.fld 2 (.tm 4)) 24 false,
 GQ 14 26 (.load 1 false (.tm 25)) 24 false,
 GQ 15 27 (.call cE [(.tm 26),(ki 0),(ki 2)]) 24 false,
 GQ 16 28 (.un .not (.tm 27)) 24 false,
 rq 17 29 (.pick (.tm 24) (.kv (.bool true)) (.tm 28)),
 RM 18 30 29,
 GQ 19 31 (.move (.tm 0)) 30 false,
 GQ 20 32 (.move (.tm 3)) 30 false,
 GQ 21 33 (.slc 4 (.tm 31) none (some (.tm 32)) none) 30 false,
 GQ 22 34 (.xop (.xT sX) [(.tm 4)]) 30 false,
 GQ 23 35 (.call bX [(.tm 33),(.tm 34)]) 30 false,
 rq 24 36 (.pick (.tm 30) (.kv (.bool true)) (.tm 35))] 25 [0,5,6,7,36])
 (.cond (.tm 36)
 (.seq (.region [rq 0 2 (.move (.kv (.bool false)))] 1 [2])
 .ret)
 .skip))))
 (.region [rq 0 37 (.bin .add (.tm 7) (ki 1)),
 RM 1 7 37] 2 [0,5,6,7])))))))
 (.seq (.region [RM 0 38 0,
 rq 1 39 (.len false (.tm 38)),
 rq 2 40 (.bin .leq (.tm 39) (ki 4)),
 RM 3 2 40] 4 [2])
 .ret)))
def VM:List Cert:=[⟨[],[0]⟩,⟨[],[0,5,6,7]⟩,⟨[],[0,5,6,7,8]⟩,⟨[],[0,3,4,5,6,7]⟩,⟨[],[0,5,6,7,36]⟩,⟨[],[2]⟩,⟨[],[0,5,6,7]⟩,⟨[],[2]⟩]
def I4:List aZ:=[.tm 2]
theorem VQ:aR Tryz.prog Tryz.f110 VM=some (BO,I4):=by kernel_rfl
theorem UU:aP Tryz.prog xZ Tryz.f110 BO I4:=
 aP.mk Tryz.func110 (by kernel_rfl) VQ
def gB:AC:=
 (.seq (.region [rq 0 4 (.move (.kv (.bool false)))] 1 [0,1])
 (.seq (.region [RM 0 5 0,
 RM 1 6 1,
 rq 2 7 (.call fK [(.tm 5),(.tm 6)]),
 rq 3 8 (.bin .geq (.tm 7) (ki 0)),
 RM 4 4 8] 5 [4])
 .ret))
def tY:List Cert:=[⟨[],[0,1]⟩,⟨[],[4]⟩]
def kG:List aZ:=[.tm 4]
theorem t6:aR Tryz.prog Tryz.f111 tY=some (gB,kG):=by kernel_rfl
theorem tU:aP Tryz.prog bP Tryz.f111 gB kG:=
 aP.mk Tryz.func111 (by kernel_rfl) t6
def wR:AC:=
 (.seq (.region [rq 0 2 (.move (.kv (.bool false)))] 1 [0])
 (.seq (.region [RM 0 3 0,
 rq 1 4 (.call cE [(.tm 3),(ki 0),(ki 3)]),
 rq 2 5 (.un .not (.tm 4)),
 RM 3 2 5] 4 [2])
 .ret))
def O4:List Cert:=[⟨[],[0]⟩,⟨[],[2]⟩]
def ET:List aZ:=[.tm 2]
theorem PA:aR Tryz.prog Tryz.f112 O4=some (wR,ET):=by kernel_rfl
theorem PT:aP Tryz.prog sT Tryz.f112 wR ET:=
 aP.mk Tryz.func112 (by kernel_rfl) PA
def KH:AC:=
 (.seq (.region [rq 0 6 (.move (.kv (.bool false)))] 1 [0,1,2])
 (.seq (.region [RM 0 7 0,
 RM 1 8 1,
 rq 2 9 (.bin .geq (.tm 7) (.tm 8)),
 RM 3 10 9,
 GQ 4 11 (.move (.tm 0)) 10 true,
 GQ 5 12 (.move (.tm 2)) 10 true,
 GQ 6 13 (.bin .leq (.tm 11) (.tm 12)) 10 true,
 rq 7 14 (.pick (.tm 10) (.tm 13) (.kv (.bool false))),
 RM 8 6 14] 9 [6])
 .ret))
def adU:List Cert:=[⟨[],[0,1,2]⟩,⟨[],[6]⟩]
def Q0:List aZ:=[.tm 6]
theorem acJ:aR Tryz.prog Tryz.f113 adU=some (KH,Q0):=by kernel_rfl
theorem ad0:aP Tryz.prog cE Tryz.f113 KH Q0:=
 aP.mk Tryz.func113 (by kernel_rfl) acJ
def dR:AC:=
 (.seq (.region [rq 0 4 (.move (.kv (.bool false)))] 1 [0,1])
 (.seq (.region [RM 0 5 0,
 RM 1 6 1,
 rq 2 7 (.call cT [(.tm 5),(.tm 6)]),
 rq 3 8 (.bin .geq (.tm 7) (ki 0)),
 RM 4 4 8] 5 [4])
 .ret))
def mW:List Cert:=[⟨[],[0,1]⟩,⟨[],[4]⟩]
def gK:List aZ:=[.tm 4]
theorem m9:aR Tryz.prog Tryz.f114 mW=some (dR,gK):=by kernel_rfl
theorem mZ:aP Tryz.prog cF Tryz.f114 dR gK:=
 aP.mk Tryz.func114 (by kernel_rfl) m9
def xL:AC:=
 (.seq (.region [rq 0 2 (.move (.kv (.bool false)))] 1 [0])
 (.seq (.region [RM 0 3 0,
 rq 1 4 (.len false (.tm 3)),
 rq 2 5 (.bin .gtr (.tm 4) (ki 12)),
 RM 3 6 5,
 GQ 4 7 (.move (.tm 0)) 6 false,
 GQ 5 8 (.call cP [(.tm 7),(.fn oP)]) 6 false,
 rq 6 9 (.pick (.tm 6) (.kv (.bool true)) (.tm 8)),
 RM 7 2 9] 8 [2])
 .ret))
def O6:List Cert:=[⟨[],[0]⟩,⟨[],[2]⟩]
def EM:List aZ:=[.tm 2]
theorem PL:aR Tryz.prog Tryz.f115 O6=some (xL,EM):=by kernel_rfl
theorem PY:aP Tryz.prog sA Tryz.f115 xL EM:=
 aP.mk Tryz.func115 (by kernel_rfl) PL
def sI:AC:=
 (.seq (.region [rq 0 1 (.box true (.tm 0)),
 rq 1 2 (.move (.kv (.bool false)))] 2 [1])
 (.seq (.region [rq 0 3 (.load 7 true (.tm 1)),
 rq 1 4 (.call x6 [(.tm 3)]),
 rq 2 5 (.un .not (.tm 4)),
 RM 3 2 5] 4 [2])
 .ret))
def K2:List Cert:=[⟨[],[1]⟩,⟨[],[2]⟩]
def AK:List aZ:=[.tm 2]
theorem MO:aR Tryz.prog Tryz.f116 K2=some (sI,AK):=by kernel_rfl
theorem LM:aP Tryz.prog oP Tryz.f116 sI AK:=
 aP.mk Tryz.func116 (by kernel_rfl) MO
def A0:AC:=
 (.seq (.region [rq 0 1 (.box true (.tm 0)),
 rq 1 2 (.move (.kv (.bool false)))] 2 [1])
 (.seq (.region [rq 0 3 (.move (ki 0))] 1 [1,3])
 (.seq (.seq (.region [rq 0 4 (.load 7 true (.tm 1)),
 rq 1 5 (.call fG [(.tm 4)])] 2 [1,3,5])
 (.cond (.tm 5)
 (.region [RF 0 6 3 1,
 RL 1 7 6,
 RM 2 3 7] 3 [1,3])
 .skip))
 (.seq (.region [RF 0 8 0 1,
 RL 1 9 8,
 rq 2 10 (.call cE [(.tm 9),(ki 0),(ki 1)]),
 RM 3 11 10,
 GQ 4 12 (.fld 1 (.tm 1)) 11 true,
 GQ 5 13 (.load 1 false (.tm 12)) 11 true,
 GQ 6 14 (.call cE [(.tm 13),(ki 1),(ki 4)]) 11 true,
 rq 7 15 (.pick (.tm 11) (.tm 14) (.kv (.bool false))),
 RM 8 16 15,
 GQ 9 17 (.fld 2 (.tm 1)) 16 true,
 GQ 10 18 (.load 1 false (.tm 17)) 16 true,
 GQ 11 19 (.fld 3 (.tm 1)) 16 true,
 GQ 12 20 (.load 1 false (.tm 19)) 16 true,
 GQ 13 21 (.fld 4 (.tm 1)) 16 true,
 GQ 14 22 (.load 1 false (.tm 21)) 16 true,
 GQ 15 23 (.call n8 [(.tm 18),(.tm 20),(.tm 22)]) 16 true,
 rq 16 24 (.pick (.tm 16) (.tm 23) (.kv (.bool false))),
 RM 17 25 24,
 GQ 18 26 (.fld 5 (.tm 1)) 25 true,
 GQ 19 27 (.load 1 false (.tm 26)) 25 true,
 GQ 20 28 (.len false (.tm 27)) 25 true,
 GQ 21 29 (.move (.tm 3)) 25 true,
 GQ 22 30 (.bin .eql (.tm 28) (.tm 29)) 25 true,
 rq 23 31 (.pick (.tm 25) (.tm 30) (.kv (.bool false))),
 RM 24 32 31,
 GQ 25 33 (.fld 6 (.tm 1)) 32 true,
 GQ 26 34 (.load 1 false (.tm 33)) 32 true,
 GQ 27 35 (.len false (.tm 34)) 32 true,
 GQ 28 36 (.move (.tm 3)) 32 true,
 GQ 29 37 (.bin .eql (.tm 35) (.tm 36)) 32 true,
 rq 30 38 (.pick (.tm 32) (.tm 37) (.kv (.bool false))),
 RM 31 39 38,
 GQ 32 40 (.fld 5 (.tm 1)) 39 true,
 GQ 33 41 (.load 1 false (.tm 40)) 39 true,
 GQ 34 42 (.call jP [(.tm 41)]) 39 true,
 rq 35 43 (.pick (.tm 39) (.tm 42) (.kv (.bool false))),
 RM 36 44 43,
 GQ 37 45 (.fld 6 (.tm 1)) 44 true,
 GQ 38 46 (.load 1 false (.tm 45)) 44 true,
 GQ 39 47 (.call bP [(.tm 46),(.fn sD)]) 44 true,
 GQ 40 48 (.un .not (.tm 47)) 44 true,
 rq 41 49 (.pick (.tm 44) (.tm 48) (.kv (.bool false))),
 RM 42 50 49,
 GQ 43 51 (.fld 1 (.tm 1)) 50 true,
 GQ 44 52 (.load 1 false (.tm 51)) 50 true,
 GQ 45 53 (.bin .eql (.tm 52) (ki 1)) 50 true,
 GQ 46 54 (.move (.tm 53)) 50 true,
 GQ 47 55 (.fld 1 (.tm 1)) 54 false,
 GQ 48 56 (.load 1 false (.tm 55)) 54 false,
 GQ 49 57 (.bin .eql (.tm 56) (ki 2)) 54 false,
 GQ 50 58 (.pick (.tm 54) (.kv (.bool true)) (.tm 57)) 50 true,
 GQ 51 59 (.move (.tm 58)) 50 true,
 GQ 52 60 (.fld 3 (.tm 1)) 59 false,
 GQ 53 61 (.load 1 false (.tm 60)) 59 false,
 GQ 54 62 (.bin .eql (.tm 61) (ki 1)) 59 false,
 GQ 55 63 (.pick (.tm 59) (.kv (.bool true)) (.tm 62)) 50 true,
 rq 56 64 (.pick (.tm 50) (.tm 63) (.kv (.bool false))),
 RM 57 2 64] 58 [2])
 .ret))))
def V3:List Cert:=[⟨[],[1]⟩,⟨[],[1,3]⟩,⟨[],[1,3,5]⟩,⟨[],[1,3]⟩,⟨[],[2]⟩]
def I0:List aZ:=[.tm 2]
theorem T8:aR Tryz.prog Tryz.f117 V3=some (A0,I0):=by kernel_rfl
theorem VO:aP Tryz.prog x6 Tryz.f117 A0 I0:=
 aP.mk Tryz.func117 (by kernel_rfl) T8
end Go.Proofs.YtegiblhkjfiooaaGreat
end
section
namespace Go.Proofs.YtegiblhkjfiooaaGreat
open Go Go.AM
set_option maxRecDepth 100000
def sZ:AC:=
 (.seq (.region [rq 0 2 (.move (.kv (.slice none 0 0)))] 1 [0])
 (.seq (.region [RM 0 3 0,
 rq 1 4 (.call gY [(.tm 3)]),
 rq 2 5 (.call iP [(.tm 4)]),
 RM 3 2 5] 4 [2])
 .ret))
def L0:List Cert:=[⟨[],[0]⟩,⟨[],[2]⟩]
def AD:List aZ:=[.tm 2]
theorem LG:aR Tryz.prog Tryz.f119 L0=some (sZ,AD):=by kernel_rfl
theorem MR:aP Tryz.prog fF Tryz.f119 sZ AD:=
 aP.mk Tryz.func119 (by kernel_rfl) LG
def uK:AC:=
 (.seq (.region [rq 0 4 (.move (.kv (.int .u64 0))),
 rq 1 5 (.move (.kv (.int .u64 0)))] 2 [0,1])
 (.seq (.cond (.kv (.bool false))
 (.seq (.region [RM 0 11 0,
 rq 1 12 (.conv .u32 (.tm 11)),
 RM 2 13 1,
 rq 3 14 (.conv .u32 (.tm 13)),
 rq 4 15 (.call L8 [(.tm 12),(.tm 14)]),
 RM 5 10 15,
 rq 6 16 (.ext (.tm 10) 0),
 rq 7 17 (.ext (.tm 10) 1),
 RM 8 6 16,
 RM 9 7 17] 10 [6,7])
 (.seq (.region [RM 0 18 6,
 rq 1 19 (.conv .u64 (.tm 18)),
 RM 2 20 7,
 rq 3 21 (.conv .u64 (.tm 20)),
 RM 4 4 19,
 RM 5 5 21] 6 [4,5])
 .ret))
 .skip)
 (.seq (.region [RM 0 23 0,
 RM 1 24 1,
 rq 2 25 (.call mP [(.tm 23),(.tm 24)]),
 RM 3 22 25,
 rq 4 26 (.ext (.tm 22) 0),
 rq 5 27 (.ext (.tm 22) 1),
 RM 6 8 26,
 RM 7 9 27] 8 [8,9])
 (.seq (.region [RM 0 28 8,
 RM 1 29 9,
 RM 2 4 28,
 RM 3 5 29] 4 [4,5])
 .ret))))
def MZ:List Cert:=[⟨[],[0,1]⟩,⟨[],[6,7]⟩,⟨[],[4,5]⟩,⟨[],[8,9]⟩,⟨[],[4,5]⟩]
def B6:List aZ:=[.tm 4,.tm 5]
theorem NL:aR Tryz.prog Tryz.f122 MZ=some (uK,B6):=by kernel_rfl
theorem NN:aP Tryz.prog pZ Tryz.f122 uK B6:=
 aP.mk Tryz.func122 (by kernel_rfl) NL
def zL:AC:=
 (.seq (.region [rq 0 0 (.alloc [OZ])] 1 [0])
 (.seq (.region [rq 0 1 (.oK 1 [VZ] (ki 64) (ki 64)),
 rq 1 2 (.build [OZ] [(0,1,(.tm 1))]),
 rn 2 (.store 1 true (.tm 0) (.tm 2))] 3 [0])
 .ret))
def S9:List Cert:=[⟨[],[0]⟩,⟨[],[0]⟩]
def F1:List aZ:=[.cell 0 1 true]
theorem RA:aR Tryz.prog Tryz.f123 S9=some (zL,F1):=by kernel_rfl
theorem Q8:aP Tryz.prog pS Tryz.f123 zL F1:=
 aP.mk Tryz.func123 (by kernel_rfl) RA
def jN:AC:=
 (.seq (.region [rq 0 4 (.move (.kv (.slice none 0 0)))] 1 [0,1])
 (.seq (.seq (.region [RM 0 9 1,
 rq 1 10 (.bin .lss (.tm 9) (ki 0))] 2 [0,1,10])
 (.cond (.tm 10)
 (.region [rq 0 11 (.xop .bad []),
 rn 1 (.xop .bad [])] 2 [0,1])
 .skip))
 (.seq (.region [RM 0 13 0,
 rq 1 14 (.len false (.tm 13)),
 rq 2 15 (.conv .u64 (.tm 14)),
 RM 3 16 1,
 rq 4 17 (.conv .u64 (.tm 16)),
 rq 5 18 (.call pZ [(.tm 15),(.tm 17)]),
 RM 6 12 18,
 rq 7 19 (.ext (.tm 12) 0),
 rq 8 20 (.ext (.tm 12) 1),
 RM 9 5 19,
 RM 10 6 20] 11 [0,5,6])
 (.seq (.seq (.region [RM 0 21 5,
 rq 1 22 (.bin .gtr (.tm 21) (.kv (.int .u64 0))),
 RM 2 23 22,
 GQ 3 24 (.move (.tm 6)) 23 false,
 GQ 4 25 (.bin .gtr (.tm 24) (.kv (.int .u64 9223372036854775807))) 23 false,
 rq 5 26 (.pick (.tm 23) (.kv (.bool true)) (.tm 25))] 6 [0,6,26])
 (.cond (.tm 26)
 (.region [rq 0 27 (.xop .bad []),
 rn 1 (.xop .bad [])] 2 [0,6])
 .skip))
 (.seq (.region [RM 0 28 6,
 rq 1 29 (.conv .i64 (.tm 28)),
 rq 2 30 (.oK 1 [VZ] (.tm 29) (.tm 29)),
 RM 3 7 30] 4 [0,7])
 (.seq (.region [RM 0 31 7,
 RM 1 32 0,
 rq 2 33 (.xop (.copy 1) [(.tm 31),(.tm 32)]),
 RM 3 8 33] 4 [7,8])
 (.seq (.block 0
 (.loop
 (.seq (.seq (.region [RM 0 34 8,
 RM 1 35 7,
 rq 2 36 (.len false (.tm 35)),
 rq 3 37 (.bin .lss (.tm 34) (.tm 36))] 4 [7,8,37])
 (.cond (.tm 37)
 .skip
 (.exit 0)))
 (.block 1
 (.region [RM 0 38 8,
 RM 1 39 7,
 RM 2 40 8,
 rq 3 41 (.slc 1 (.tm 39) (some (.tm 40)) none none),
 RM 4 42 7,
 RM 5 43 8,
 rq 6 44 (.slc 1 (.tm 42) none (some (.tm 43)) none),
 rq 7 45 (.xop (.copy 1) [(.tm 41),(.tm 44)]),
 rq 8 46 (.bin .add (.tm 38) (.tm 45)),
 RM 9 8 46] 10 [7,8])))))
 (.seq (.region [RM 0 47 7,
 RM 1 4 47] 2 [4])
 .ret))))))))
def zR:List Cert:=[⟨[],[0,1]⟩,⟨[],[0,1,10]⟩,⟨[],[0,1]⟩,⟨[],[0,5,6]⟩,⟨[],[0,6,26]⟩,⟨[],[0,6]⟩,⟨[],[0,7]⟩,⟨[],[7,8]⟩,⟨[],[7,8,37]⟩,⟨[cz 0,cz 1,cz 2,cz 3,cz 4,cz 5,cz 6,cz 7,cz 8,cz 9],[7,8]⟩,⟨[],[4]⟩]
def oU:List aZ:=[.tm 4]
theorem zW:aR Tryz.prog Tryz.f124 zR=some (jN,oU):=by kernel_rfl
theorem zZ:aP Tryz.prog eV Tryz.f124 jN oU:=
 aP.mk Tryz.func124 (by kernel_rfl) zW
def lG:AC:=
 (.seq (.region [rq 0 1 (.box true (.tm 0)),
 rq 1 2 (.alloc [OZ,OZ])] 2 [1,2])
 (.seq (.region [RF 0 3 0 1,
 RF 1 4 0 3,
 RL 2 5 4,
 RF 5 8 1 1,
 ⟨6,(some 9),.load 1 false (.tm 8),none,[],[],true⟩,
 ⟨3,(some 6),.call fF [(.tm 5)],none,[],[6],false⟩,
 rq 4 7 (.build [OZ] [(0,1,(.tm 6))]),
 rq 7 10 (.call fF [(.tm 9)]),
 rq 8 11 (.build [OZ,OZ] [(0,1,(.tm 7)),(1,1,(.tm 10))]),
 rn 9 (.store 2 true (.tm 2) (.tm 11))] 10 [2])
 .ret))
def B3:List Cert:=[⟨[],[1,2]⟩,⟨[cz 0,cz 1,cz 2,cz 5,(6,[],[],true),(3,[],[6],false),cz 4,cz 7,cz 8,cz 9],[2]⟩]
def rJ:List aZ:=[.cell 2 2 true]
theorem DC:aR Tryz.prog Tryz.f125 B3=some (lG,rJ):=by kernel_rfl
theorem BU:aP Tryz.prog fQ Tryz.f125 lG rJ:=
 aP.mk Tryz.func125 (by kernel_rfl) DC
def BM:AC:=
 (.seq (.region [rq 0 1 (.box true (.tm 0)),
 rq 1 2 (.move (.kv (.bool false)))] 2 [1])
 (.seq (.region [RF 0 3 0 1,
 RL 1 4 3,
 rq 2 5 (.len false (.tm 4)),
 rq 3 6 (.bin .eql (.tm 5) (ki 64)),
 RM 4 7 6,
 GQ 5 8 (.fld 0 (.tm 1)) 7 true,
 GQ 6 9 (.load 1 false (.tm 8)) 7 true,
 GQ 7 10 (.call jP [(.tm 9)]) 7 true,
 rq 8 11 (.pick (.tm 7) (.tm 10) (.kv (.bool false))),
 RM 9 2 11] 10 [2])
 .ret))
def VD:List Cert:=[⟨[],[1]⟩,⟨[],[2]⟩]
def JQ:List aZ:=[.tm 2]
theorem VA:aR Tryz.prog Tryz.f129 VD=some (BM,JQ):=by kernel_rfl
theorem VY:aP Tryz.prog yC Tryz.f129 BM JQ:=
 aP.mk Tryz.func129 (by kernel_rfl) VA
def xJ:AC:=
 (.seq (.region [rq 0 2 (.move (.kv (.bool false)))] 1 [0])
 (.seq (.region [RM 0 3 0,
 rq 1 4 (.call cE [(.tm 3),(.kv (.int .i64 (-1))),(ki 63)]),
 rq 2 5 (.un .not (.tm 4)),
 RM 3 2 5] 4 [2])
 .ret))
def PB:List Cert:=[⟨[],[0]⟩,⟨[],[2]⟩]
def EU:List aZ:=[.tm 2]
theorem P6:aR Tryz.prog Tryz.f130 PB=some (xJ,EU):=by kernel_rfl
theorem PV:aP Tryz.prog sJ Tryz.f130 xJ EU:=
 aP.mk Tryz.func130 (by kernel_rfl) P6
def tB:AC:=
 (.seq (.region [rq 0 3 (.box true (.tm 0)),
 rq 1 6 (.move (ki 0))] 2 [1,2,3])
 (.seq (.region [RF 0 7 2 3,
 RL 1 8 7,
 RM 2 9 1,
 rq 3 10 (.idx 1 (.tm 8) (.tm 9)),
 RL 4 11 10,
 RM 5 12 2,
 rq 6 13 (.idx 7 (.tm 11) (.tm 12)),
 RF 7 14 0 13,
 RL 8 15 14,
 RM 9 6 15] 10 [6])
 .ret))
def LA:List Cert:=[⟨[],[1,2,3]⟩,⟨[],[6]⟩]
def AJ:List aZ:=[.tm 6]
theorem LP:aR Tryz.prog Tryz.f131 LA=some (tB,AJ):=by kernel_rfl
theorem MH:aP Tryz.prog dE Tryz.f131 tB AJ:=
 aP.mk Tryz.func131 (by kernel_rfl) LP
def BA:AC:=
 (.seq (.region [rq 0 1 (.box true (.tm 0)),
 rq 1 2 (.move (.kv (.bool false)))] 2 [1])
 (.seq (.region [RF 0 3 0 1,
 RL 1 4 3,
 rq 2 5 (.call cE [(.tm 4),(ki 0),(ki 1)]),
 RM 3 6 5,
 GQ 4 7 (.fld 1 (.tm 1)) 6 true,
 GQ 5 8 (.load 1 false (.tm 7)) 6 true,
 GQ 6 9 (.call cE [(.tm 8),(ki 1),(ki 4)]) 6 true,
 rq 7 10 (.pick (.tm 6) (.tm 9) (.kv (.bool false))),
 RM 8 11 10,
 GQ 9 12 (.fld 2 (.tm 1)) 11 true,
 GQ 10 13 (.load 1 false (.tm 12)) 11 true,
 GQ 11 14 (.len false (.tm 13)) 11 true,
 GQ 12 15 (.bin .leq (.tm 14) (ki 4)) 11 true,
 rq 13 16 (.pick (.tm 11) (.tm 15) (.kv (.bool false))),
 RM 14 17 16,
 GQ 15 18 (.fld 2 (.tm 1)) 17 true,
 GQ 16 19 (.load 1 false (.tm 18)) 17 true,
 GQ 17 20 (.call jP [(.tm 19)]) 17 true,
 rq 18 21 (.pick (.tm 17) (.tm 20) (.kv (.bool false))),
 RM 19 2 21] 20 [2])
 .ret))
def T9:List Cert:=[⟨[],[1]⟩,⟨[],[2]⟩]
def JR:List aZ:=[.tm 2]
theorem UO:aR Tryz.prog Tryz.f134 T9=some (BA,JR):=by kernel_rfl
theorem VR:aP Tryz.prog nZ Tryz.f134 BA JR:=
 aP.mk Tryz.func134 (by kernel_rfl) UO
def yQ:AC:=
 (.seq (.region [rq 0 2 (.move (.kv (.bool false)))] 1 [0])
 (.seq (.seq (.region [rq 0 3 (.move (ki 1))] 1 [0,3])
 (.block 0
 (.loop
 (.seq (.seq (.region [RM 0 4 3,
 RM 1 5 0,
 rq 2 6 (.len false (.tm 5)),
 rq 3 7 (.bin .lss (.tm 4) (.tm 6))] 4 [0,3,7])
 (.cond (.tm 7)
 .skip
 (.exit 0)))
 (.seq (.block 1
 (.seq (.region [RM 0 10 0,
 RM 1 11 3,
 rq 2 12 (.bin .sub (.tm 11) (ki 1)),
 rq 3 13 (.idx 5 (.tm 10) (.tm 12)),
 rq 4 14 (.load 5 true (.tm 13)),
 RM 5 15 0,
 RM 6 16 3,
 rq 7 17 (.idx 5 (.tm 15) (.tm 16)),
 rq 8 18 (.load 5 true (.tm 17)),
 rq 9 19 (.call aX [(.tm 14),(.tm 18)]),
 rq 10 20 (.bin .geq (.tm 19) (ki 0))] 11 [0,3,20])
 (.cond (.tm 20)
 (.seq (.region [rq 0 2 (.move (.kv (.bool false)))] 1 [2])
 .ret)
 .skip)))
 (.region [RM 0 8 3,
 rq 1 9 (.bin .add (.tm 8) (ki 1)),
 RM 2 3 9] 3 [0,3]))))))
 (.seq (.region [rq 0 2 (.move (.kv (.bool true)))] 1 [2])
 .ret)))
def SP:List Cert:=[⟨[],[0]⟩,⟨[],[0,3]⟩,⟨[],[0,3,7]⟩,⟨[cz 0,cz 1,cz 2,cz 3,cz 4,cz 5,cz 6,cz 7,cz 8,cz 9,cz 10],[0,3,20]⟩,⟨[],[2]⟩,⟨[],[0,3]⟩,⟨[],[2]⟩]
def F2:List aZ:=[.tm 2]
theorem TP:aR Tryz.prog Tryz.f135 SP=some (yQ,F2):=by kernel_rfl
theorem RQ:aP Tryz.prog pP Tryz.f135 yQ F2:=
 aP.mk Tryz.func135 (by kernel_rfl) TP
def pI:AC:=
 (.seq (.region [rq 0 1 (.box true (.tm 0)),
 rq 1 2 (.move (.kv (.bool false)))] 2 [1])
 (.seq (.region [RF 0 3 0 1,
 RL 1 4 3,
 rq 2 5 (.bin .eql (.tm 4) (ki 0)),
 RM 3 6 5,
 GQ 4 7 (.fld 1 (.tm 1)) 6 true,
 GQ 5 8 (.load 1 false (.tm 7)) 6 true,
 GQ 6 9 (.bin .eql (.tm 8) (ki 0)) 6 true,
 rq 7 10 (.pick (.tm 6) (.tm 9) (.kv (.bool false))),
 RM 8 11 10,
 GQ 9 12 (.fld 2 (.tm 1)) 11 true,
 GQ 10 13 (.load 1 false (.tm 12)) 11 true,
 GQ 11 14 (.len false (.tm 13)) 11 true,
 GQ 12 15 (.bin .eql (.tm 14) (ki 0)) 11 true,
 rq 13 16 (.pick (.tm 11) (.tm 15) (.kv (.bool false))),
 RM 14 2 16] 15 [2])
 .ret))
def IS:List Cert:=[⟨[],[1]⟩,⟨[],[2]⟩]
def xP:List aZ:=[.tm 2]
theorem H9:aR Tryz.prog Tryz.f136 IS=some (pI,xP):=by kernel_rfl
theorem IE:aP Tryz.prog iT Tryz.f136 pI xP:=
 aP.mk Tryz.func136 (by kernel_rfl) H9
def BG:AC:=
 (.seq (.region [rq 0 3 (.box true (.tm 1)),
 rq 1 4 (.move (ki 0))] 2 [0,3])
 (.seq (.region [rq 0 5 (.move (.kv (.int .i64 (-1))))] 1 [0,3,5])
 (.seq (.seq (.region [rq 0 9 (.load 7 true (.tm 3)),
 rq 1 10 (.call eO [(.tm 9)]),
 rq 2 11 (.len false (.tm 10)),
 rq 3 12 (.move (ki 0))] 4 [0,5,10,11,12])
 (.block 0
 (.loop
 (.seq (.region [rq 0 13 (.bin .lss (.tm 12) (.tm 11))] 1 [0,5,10,11,12,13])
 (.seq (.cond (.tm 13)
 .skip
 (.exit 0))
 (.seq (.block 1
 (.seq (.region [RM 0 14 12,
 rq 1 15 (.idx 1 (.tm 10) (.tm 12)),
 RL 2 16 15,
 RM 3 6 14,
 RM 4 7 16] 5 [0,5,6,7,10,11,12])
 (.seq (.region [RM 0 17 0,
 RM 1 18 7,
 rq 2 19 (.call sG [(.tm 17),(.tm 18)]),
 RM 3 8 19] 4 [0,5,6,8,10,11,12])
 (.seq (.seq (.region [RM 0 20 8,
 rq 1 21 (.bin .lss (.tm 20) (ki 0)),
 RM 2 22 21,
 GQ 3 23 (.move (.tm 6)) 22 false,
 GQ 4 24 (.bin .gtr (.tm 23) (ki 0)) 22 false,
 GQ 5 25 (.move (.tm 24)) 22 false,
 GQ 6 26 (.move (.tm 8)) 25 true,
 GQ 7 27 (.move (.tm 5)) 25 true,
 GQ 8 28 (.bin .neq (.tm 26) (.tm 27)) 25 true,
 GQ 9 29 (.pick (.tm 25) (.tm 28) (.kv (.bool false))) 22 false,
 rq 10 30 (.pick (.tm 22) (.kv (.bool true)) (.tm 29))] 11 [0,8,10,11,12,30])
 (.cond (.tm 30)
 (.seq (.region [rq 0 4 (.move (.kv (.int .i64 (-1))))] 1 [4])
 .ret)
 .skip))
 (.region [RM 0 31 8,
 RM 1 5 31] 2 [0,5,10,11,12])))))
 (.region [rq 0 32 (.bin .add (.tm 12) (ki 1)),
 RM 1 12 32] 2 [0,5,10,11,12])))))))
 (.seq (.region [RM 0 33 5,
 RM 1 4 33] 2 [4])
 .ret))))
def VX:List Cert:=[⟨[],[0,3]⟩,⟨[],[0,3,5]⟩,⟨[],[0,5,10,11,12]⟩,⟨[],[0,5,10,11,12,13]⟩,⟨[],[0,5,6,7,10,11,12]⟩,⟨[],[0,5,6,8,10,11,12]⟩,⟨[],[0,8,10,11,12,30]⟩,⟨[],[4]⟩,⟨[],[0,5,10,11,12]⟩,⟨[],[0,5,10,11,12]⟩,⟨[],[4]⟩]
def JP:List aZ:=[.tm 4]
theorem T5:aR Tryz.prog Tryz.f141 VX=some (BG,JP):=by kernel_rfl
theorem U1:aP Tryz.prog lQ Tryz.f141 BG JP:=
 aP.mk Tryz.func141 (by kernel_rfl) T5
def fE:AC:=
 (.seq (.region [rq 0 4 (.move (ki 0))] 1 [0,1])
 (.seq (.seq (.region [RM 0 6 0,
 rq 1 7 (.len false (.tm 6)),
 rq 2 8 (.move (ki 0))] 3 [0,1,7,8])
 (.block 0
 (.loop
 (.seq (.region [rq 0 9 (.bin .lss (.tm 8) (.tm 7))] 1 [0,1,7,8,9])
 (.seq (.cond (.tm 9)
 .skip
 (.exit 0))
 (.seq (.block 1
 (.seq (.region [RM 0 10 8,
 RM 1 5 10] 2 [0,1,5,7,8])
 (.seq (.region [RM 0 11 1,
 RM 1 12 0,
 RM 2 13 5,
 rq 3 14 (.idx 7 (.tm 12) (.tm 13)),
 rq 4 15 (.load 7 true (.tm 14)),
 rq 5 16 (.rE (.tm 11) [(.tm 15)])] 6 [0,1,5,7,8,16])
 (.cond (.tm 16)
 (.seq (.region [RM 0 17 5,
 RM 1 4 17] 2 [4])
 .ret)
 .skip))))
 (.region [rq 0 18 (.bin .add (.tm 8) (ki 1)),
 RM 1 8 18] 2 [0,1,7,8])))))))
 (.seq (.region [rq 0 4 (.move (.kv (.int .i64 (-1))))] 1 [4])
 .ret)))
def rA:List Cert:=[⟨[],[0,1]⟩,⟨[],[0,1,7,8]⟩,⟨[],[0,1,7,8,9]⟩,⟨[],[0,1,5,7,8]⟩,⟨[],[0,1,5,7,8,16]⟩,⟨[],[4]⟩,⟨[],[0,1,7,8]⟩,⟨[],[4]⟩]
def iZ:List aZ:=[.tm 4]
theorem qG:aR Tryz.prog Tryz.f142 rA=some (fE,iZ):=by kernel_rfl
theorem qH:aP Tryz.prog dC Tryz.f142 fE iZ:=
 aP.mk Tryz.func142 (by kernel_rfl) qG
def jM:AC:=
 (.seq (.region [rq 0 2 (.move (.kv (.slice none 0 0)))] 1 [0])
 (.seq (.region [RM 0 3 0,
 rq 1 4 (.call eQ [(.tm 3)]),
 rq 2 5 (.call eW [(.tm 4)]),
 RM 3 2 5] 4 [2])
 .ret))
def zX:List Cert:=[⟨[],[0]⟩,⟨[],[2]⟩]
def oR:List aZ:=[.tm 2]
theorem zQ:aR Tryz.prog Tryz.f151 zX=some (jM,oR):=by kernel_rfl
theorem zS:aP Tryz.prog gN Tryz.f151 jM oR:=
 aP.mk Tryz.func151 (by kernel_rfl) zQ
def A2:AC:=
 (.seq (.region [rq 0 4 (.box false (.tm 1)),
 rq 1 5 (.box false (.tm 2)),
 rq 2 6 (.move (ki 0))] 3 [0,4,5])
 (.seq (.region [RM 0 7 0,
 rq 1 8 (.xop (.xT sM) [(.tm 4),(.tm 5)]),
 rq 2 9 (.call bZ [(.tm 7),(.tm 8)]),
 RM 3 6 9] 4 [6])
 .ret))
def U6:List Cert:=[⟨[],[0,4,5]⟩,⟨[],[6]⟩]
def JN:List aZ:=[.tm 6]
theorem VH:aR Tryz.prog Tryz.f152 U6=some (A2,JN):=by kernel_rfl
theorem UF:aP Tryz.prog lU Tryz.f152 A2 JN:=
 aP.mk Tryz.func152 (by kernel_rfl) VH
def nU:AC:=
 (.seq (.region [rq 0 3 (.box true (.tm 0)),
 rq 1 5 (.box true (.tm 2)),
 rq 2 6 (.move (.kv (.bool false)))] 3 [1,3,5])
 (.seq (.region [RM 0 7 1,
 rq 1 8 (.xop (.xT jE) [(.tm 5),(.tm 3)]),
 rq 2 9 (.call cM [(.tm 7),(.tm 8)]),
 RM 3 6 9] 4 [6])
 .ret))
def GR:List Cert:=[⟨[],[1,3,5]⟩,⟨[],[6]⟩]
def vZ:List aZ:=[.tm 6]
theorem GJ:aR Tryz.prog Tryz.f153 GR=some (nU,vZ):=by kernel_rfl
theorem GP:aP Tryz.prog fU Tryz.f153 nU vZ:=
 aP.mk Tryz.func153 (by kernel_rfl) GJ
def zC:AC:=
 (.seq (.region [rq 0 3 (.box true (.tm 1)),
 rq 1 4 (.move (.kv (.slice none 0 0)))] 2 [0,3])
 (.seq (.region [RM 0 8 0,
 rq 1 9 (.load 5 true (.tm 3)),
 rq 2 10 (.call bO [(.tm 8),(.tm 9),(.fn aX)]),
 RM 3 7 10,
 rq 4 11 (.ext (.tm 7) 0),
 rq 5 12 (.ext (.tm 7) 1),
 RM 6 5 11,
 RM 7 6 12] 8 [0,3,5])
 (.seq (.region [RM 0 13 0,
 RM 1 14 5,
 rq 2 15 (.load 5 true (.tm 3)),
 rq 3 16 (.bI 5 1 [VZ,VZ,VZ,VZ,OZ] [(0,5,(.tm 15))]),
 rq 4 17 (.call eE [(.tm 13),(.tm 14),(.tm 16)]),
 RM 5 4 17] 6 [4])
 .ret)))
def RZ:List Cert:=[⟨[],[0,3]⟩,⟨[],[0,3,5]⟩,⟨[],[4]⟩]
def GA:List aZ:=[.tm 4]
theorem S8:aR Tryz.prog Tryz.f154 RZ=some (zC,GA):=by kernel_rfl
theorem Q7:aP Tryz.prog kF Tryz.f154 zC GA:=
 aP.mk Tryz.func154 (by kernel_rfl) S8
def fZ:AC:=
 (.seq (.region [rq 0 6 (.move (.kv (.slice none 0 0)))] 1 [0,1,2])
 (.seq (.region [RM 0 8 0,
 RM 1 9 1,
 RM 2 10 2,
 RM 3 11 0,
 rq 4 12 (.len false (.tm 11)),
 rq 5 13 (.slc 5 (.tm 8) (some (.tm 9)) (some (.tm 10)) (some (.tm 12)))] 6 [0,1,2])
 (.seq (.seq (.region [RM 0 14 1,
 RM 1 15 2,
 rq 2 16 (.bin .eql (.tm 14) (.tm 15))] 3 [0,1,2,16])
 (.cond (.tm 16)
 (.seq (.region [RM 0 17 0,
 RM 1 6 17] 2 [6])
 .ret)
 .skip))
 (.seq (.region [RM 0 18 0,
 rq 1 19 (.len false (.tm 18)),
 RM 2 7 19] 3 [0,1,2,7])
 (.seq (.region [RM 0 20 0,
 RM 1 21 1,
 rq 2 22 (.slc 5 (.tm 20) none (some (.tm 21)) none),
 RM 3 23 0,
 RM 4 24 2,
 rq 5 25 (.slc 5 (.tm 23) (some (.tm 24)) none none),
 rq 6 26 (.append 5 (.tm 22) (.tm 25)),
 RM 7 0 26] 8 [0,7])
 (.seq (.region [RM 0 27 0,
 RM 1 28 0,
 rq 2 29 (.len false (.tm 28)),
 RM 3 30 7,
 rq 4 31 (.slc 5 (.tm 27) (some (.tm 29)) (some (.tm 30)) none),
 rn 5 (.xop (.clear 5 [VZ,VZ,VZ,VZ,OZ]) [(.tm 31)])] 6 [0])
 (.seq (.region [RM 0 32 0,
 RM 1 6 32] 2 [6])
 .ret)))))))
def tH:List Cert:=[⟨[],[0,1,2]⟩,⟨[],[0,1,2]⟩,⟨[],[0,1,2,16]⟩,⟨[],[6]⟩,⟨[],[0,1,2,7]⟩,⟨[cz 0,cz 1,cz 2,cz 3,cz 4,cz 5,cz 6,cz 7],[0,7]⟩,⟨[],[0]⟩,⟨[],[6]⟩]
def kK:List aZ:=[.tm 6]
theorem tL:aR Tryz.prog Tryz.f155 tH=some (fZ,kK):=by kernel_rfl
theorem tI:aP Tryz.prog cQ Tryz.f155 fZ kK:=
 aP.mk Tryz.func155 (by kernel_rfl) tL
def A7:AC:=
 (.seq (.region [rq 0 2 (.move (ki 0))] 1 [0])
 (.seq (.region [rq 0 3 (.move (ki 0))] 1 [0,3])
 (.seq (.seq (.region [RM 0 6 0,
 rq 1 7 (.len false (.tm 6)),
 rq 2 8 (.move (ki 0))] 3 [3,6,7,8])
 (.block 0
 (.loop
 (.seq (.region [rq 0 9 (.bin .lss (.tm 8) (.tm 7))] 1 [3,6,7,8,9])
 (.seq (.cond (.tm 9)
 .skip
 (.exit 0))
 (.seq (.block 1
 (.seq (.region [rq 0 10 (.idx 1 (.tm 6) (.tm 8)),
 RL 1 11 10,
 RM 2 5 11] 3 [3,5,6,7,8])
 (.seq (.region [RM 0 12 5,
 RM 1 13 3,
 rq 2 14 (.bin .neq (.tm 12) (.tm 13))] 3 [3,5,6,7,8,14])
 (.cond (.tm 14)
 (.seq (.region [RM 0 15 5,
 RM 1 2 15] 2 [2])
 .ret)
 .skip))))
 (.region [rq 0 16 (.bin .add (.tm 8) (ki 1)),
 RM 1 8 16] 2 [3,6,7,8])))))))
 (.seq (.region [RM 0 17 3,
 RM 1 2 17] 2 [2])
 .ret))))
def V0:List Cert:=[⟨[],[0]⟩,⟨[],[0,3]⟩,⟨[],[3,6,7,8]⟩,⟨[],[3,6,7,8,9]⟩,⟨[],[3,5,6,7,8]⟩,⟨[],[3,5,6,7,8,14]⟩,⟨[],[2]⟩,⟨[],[3,6,7,8]⟩,⟨[],[2]⟩]
def JH:List aZ:=[.tm 2]
theorem U4:aR Tryz.prog Tryz.f157 V0=some (A7,JH):=by kernel_rfl
theorem V5:aP Tryz.prog yH Tryz.f157 A7 JH:=
 aP.mk Tryz.func157 (by kernel_rfl) U4
def qZ:AC:=
 (.seq (.region [rq 0 4 (.move (ki 0))] 1 [0,1])
 (.seq (.region [RM 0 7 0,
 rq 1 8 (.call lY [(.tm 7)]),
 RM 2 5 8] 3 [0,1,5])
 (.seq (.region [RM 0 9 1,
 rq 1 10 (.call lY [(.tm 9)]),
 RM 2 6 10] 3 [0,1,5,6])
 (.seq (.seq (.region [RM 0 11 5] 1 [0,1,6,11])
 (.cond (.tm 11)
 (.seq (.seq (.region [RM 0 12 6] 1 [12])
 (.cond (.tm 12)
 (.seq (.region [rq 0 4 (.move (ki 0))] 1 [4])
 .ret)
 .skip))
 (.seq (.region [rq 0 4 (.move (.kv (.int .i64 (-1))))] 1 [4])
 .ret))
 .skip))
 (.seq (.seq (.region [RM 0 13 6] 1 [0,1,13])
 (.cond (.tm 13)
 (.seq (.region [rq 0 4 (.move (ki 1))] 1 [4])
 .ret)
 .skip))
 (.seq (.seq (.region [RM 0 14 0,
 RM 1 15 1,
 rq 2 16 (.bin .lss (.tm 14) (.tm 15))] 3 [0,1,16])
 (.cond (.tm 16)
 (.seq (.region [rq 0 4 (.move (.kv (.int .i64 (-1))))] 1 [4])
 .ret)
 .skip))
 (.seq (.seq (.region [RM 0 17 0,
 RM 1 18 1,
 rq 2 19 (.bin .gtr (.tm 17) (.tm 18))] 3 [19])
 (.cond (.tm 19)
 (.seq (.region [rq 0 4 (.move (ki 1))] 1 [4])
 .ret)
 .skip))
 (.seq (.region [rq 0 4 (.move (ki 0))] 1 [4])
 .ret))))))))
def J2:List Cert:=[⟨[],[0,1]⟩,⟨[],[0,1,5]⟩,⟨[],[0,1,5,6]⟩,⟨[],[0,1,6,11]⟩,⟨[],[12]⟩,⟨[],[4]⟩,⟨[],[4]⟩,⟨[],[0,1,13]⟩,⟨[],[4]⟩,⟨[],[0,1,16]⟩,⟨[],[4]⟩,⟨[],[19]⟩,⟨[],[4]⟩,⟨[],[4]⟩]
def y3:List aZ:=[.tm 4]
theorem J9:aR Tryz.prog Tryz.f158 J2=some (qZ,y3):=by kernel_rfl
theorem KR:aP Tryz.prog jY Tryz.f158 qZ y3:=
 aP.mk Tryz.func158 (by kernel_rfl) J9
def mJ:AC:=
 (.seq (.region [rq 0 1 (.box true (.tm 0)),
 rq 1 2 (.move (.kv (.bool false)))] 2 [1])
 (.seq (.region [RF 0 3 1 1,
 RL 1 4 3,
 rq 2 5 (.bin .eql (.tm 4) (ki 2)),
 RM 3 6 5,
 GQ 4 7 (.fld 1 (.tm 1)) 6 false,
 GQ 5 8 (.load 1 false (.tm 7)) 6 false,
 GQ 6 9 (.bin .eql (.tm 8) (ki 4)) 6 false,
 rq 7 10 (.pick (.tm 6) (.kv (.bool true)) (.tm 9)),
 RM 8 2 10] 9 [2])
 .ret))
def E3:List Cert:=[⟨[],[1]⟩,⟨[],[2]⟩]
def uE:List aZ:=[.tm 2]
theorem FJ:aR Tryz.prog Tryz.f159 E3=some (mJ,uE):=by kernel_rfl
theorem FC:aP Tryz.prog fG Tryz.f159 mJ uE:=
 aP.mk Tryz.func159 (by kernel_rfl) FJ
def nH:AC:=
 (.seq (.region [rq 0 1 (.box true (.tm 0)),
 rq 1 2 (.move (.kv (.slice none 0 0)))] 2 [1])
 (.seq (.region [RF 0 3 2 1,
 RL 1 4 3,
 RF 2 5 3 1,
 RL 3 6 5,
 RF 4 7 4 1,
 RL 5 8 7,
 rq 6 9 (.call qE [(.tm 4),(.tm 6),(.tm 8)]),
 RM 7 2 9] 8 [2])
 .ret))
def HF:List Cert:=[⟨[],[1]⟩,⟨[],[2]⟩]
def wH:List aZ:=[.tm 2]
theorem GV:aR Tryz.prog Tryz.f160 HF=some (nH,wH):=by kernel_rfl
theorem FQ:aP Tryz.prog eO Tryz.f160 nH wH:=
 aP.mk Tryz.func160 (by kernel_rfl) GV
def GU:AC:=
 (.seq (.region [rq 0 6 (.move (ki 0))] 1 [0,1,2])
 (.seq (.region [RM 0 8 2,
 rq 1 9 (.bin .and (.tm 8) (ki 1)),
 rq 2 10 (.bin .mul (.tm 9) (ki 255)),
 RM 3 11 2,
 rq 4 12 (.bin .shr (.tm 11) (.kv (.int .u64 1))),
 rq 5 13 (.bin .mul (.tm 12) (ki 65280)),
 rq 6 14 (.bin .or (.tm 10) (.tm 13)),
 RM 7 7 14] 8 [0,1,7])
 (.seq (.region [RM 0 15 0,
 RM 1 16 7,
 rq 2 17 (.bin .andNot (.tm 15) (.tm 16)),
 RM 3 18 1,
 RM 4 19 7,
 rq 5 20 (.bin .and (.tm 18) (.tm 19)),
 rq 6 21 (.bin .or (.tm 17) (.tm 20)),
 RM 7 6 21] 8 [6])
 .ret)))
def abQ:List Cert:=[⟨[],[0,1,2]⟩,⟨[],[0,1,7]⟩,⟨[],[6]⟩]
def OL:List aZ:=[.tm 6]
theorem abG:aR Tryz.prog Tryz.f161 abQ=some (GU,OL):=by kernel_rfl
theorem Z9:aP Tryz.prog DT Tryz.f161 GU OL:=
 aP.mk Tryz.func161 (by kernel_rfl) abG
def iQ:AC:=
 (.seq (.region [rq 0 4 (.move (.kv (.bool false)))] 1 [0,1])
 (.seq (.region [RM 0 5 0,
 RM 1 6 1,
 rq 2 7 (.call iA [(.tm 5),(.tm 6)]),
 rq 3 8 (.bin .geq (.tm 7) (ki 0)),
 RM 4 4 8] 5 [4])
 .ret))
def yK:List Cert:=[⟨[],[0,1]⟩,⟨[],[4]⟩]
def mQ:List aZ:=[.tm 4]
theorem x5:aR Tryz.prog Tryz.f162 yK=some (iQ,mQ):=by kernel_rfl
theorem yB:aP Tryz.prog fR Tryz.f162 iQ mQ:=
 aP.mk Tryz.func162 (by kernel_rfl) x5
def xK:AC:=
 (.seq (.region [rq 0 2 (.move (ki 0))] 1 [0])
 (.seq (.region [RM 0 3 0,
 rq 1 4 (.call aG [(.tm 3),(ki 4)]),
 RM 2 5 0,
 rq 3 6 (.call aG [(.tm 5),(ki 4)]),
 rq 4 7 (.bin .add (ki 16) (.tm 6)),
 RM 5 8 0,
 rq 6 9 (.call aG [(.tm 8),(ki 4)]),
 rq 7 10 (.bin .add (ki 32) (.tm 9)),
 RM 8 11 0,
 rq 9 12 (.call aG [(.tm 11),(ki 64)]),
 RM 10 13 0,
 rq 11 14 (.call aG [(.tm 13),(ki 5)]),
 rq 12 15 (.bin .add (ki 13) (.tm 14)),
 RM 13 16 0,
 rq 14 17 (.call aG [(.tm 16),(ki 4)]),
 rq 15 18 (.bin .add (ki 60) (.tm 17)),
 rq 16 19 (.bI 1 6 [VZ] [(0,1,(.tm 4)),(1,1,(.tm 7)),(2,1,(.tm 10)),(3,1,(.tm 12)),(4,1,(.tm 15)),(5,1,(.tm 18))]),
 rq 17 20 (.bI 1 8 [VZ] [(0,1,(ki 0)),(1,1,(ki 0)),(2,1,(ki 1)),(3,1,(ki 1)),(4,1,(ki 2)),(5,1,(ki 3)),(6,1,(ki 4)),(7,1,(ki 5))]),
 RM 18 21 0,
 rq 19 22 (.call aG [(.tm 21),(ki 8)]),
 rq 20 23 (.idx 1 (.tm 20) (.tm 22)),
 RL 21 24 23,
 rq 22 25 (.idx 1 (.tm 19) (.tm 24)),
 RL 23 26 25,
 RM 24 2 26] 25 [2])
 .ret))
def PE:List Cert:=[⟨[],[0]⟩,⟨[],[2]⟩]
def EN:List aZ:=[.tm 2]
theorem O7:aR Tryz.prog Tryz.f177 PE=some (xK,EN):=by kernel_rfl
theorem PC:aP Tryz.prog r9 Tryz.f177 xK EN:=
 aP.mk Tryz.func177 (by kernel_rfl) O7
def cX:AC:=
 (.seq (.region [rq 0 4 (.move (.kv (.bool false)))] 1 [0,1])
 (.seq (.region [RM 0 5 0,
 RM 1 6 1,
 rq 2 7 (.call bR [(.tm 5),(.tm 6)]),
 rq 3 8 (.bin .geq (.tm 7) (ki 0)),
 RM 4 4 8] 5 [4])
 .ret))
def l5:List Cert:=[⟨[],[0,1]⟩,⟨[],[4]⟩]
def fX:List aZ:=[.tm 4]
theorem l6:aR Tryz.prog Tryz.f179 l5=some (cX,fX):=by kernel_rfl
theorem lZ:aP Tryz.prog bX Tryz.f179 cX fX:=
 aP.mk Tryz.func179 (by kernel_rfl) l6
end Go.Proofs.YtegiblhkjfiooaaGreat
end
