/- Texts laid together by a program: rules, contracts and the walk that leads to the law. -/
import Derived.Test.YtmccpdapaccnoaaGreatPF3
set_option linter.unusedVariables false
set_option linter.unusedSimpArgs false
set_option linter.unusedSectionVars false
namespace Go.Proofs.YtmccpdapaccnoaaGreat
open Go Go.AM
set_option maxRecDepth 100000
def a2V:AC:=
 (.seq (.region [rq 0 2 (.box true (.tm 0)),
 rq 1 4 (.move (ki 0))] 2 [1,2])
 (.seq (.region [RF 0 5 0 2,
 RL 1 6 5,
 RM 2 7 1,
 rq 3 8 (.call aZ5 [(.tm 6),(.tm 7)]),
 RM 4 1 8] 5 [1,2])
 (.seq (.seq (.region [RM 0 9 1,
 rq 1 10 (.bin .lss (.tm 9) (ki 0))] 2 [1,2,10])
 (.cond (.tm 10)
 (.seq (.region [rq 0 4 (.move (.kv (.int .i64 (-1))))] 1 [4])
 .ret)
 .skip))
 (.seq (.region [RF 0 11 1 2,
 RL 1 12 11,
 RM 2 13 1,
 rq 3 14 (.call g7 [(.tm 12),(.tm 13)]),
 RM 4 1 14] 5 [1,2])
 (.seq (.seq (.region [RM 0 15 1,
 rq 1 16 (.bin .lss (.tm 15) (ki 0))] 2 [1,2,16])
 (.cond (.tm 16)
 (.seq (.region [rq 0 4 (.move (.kv (.int .i64 (-1))))] 1 [4])
 .ret)
 .skip))
 (.seq (.region [RF 0 17 2 2,
 RL 1 18 17,
 RM 2 19 1,
 rq 3 20 (.call a0C [(.tm 18),(.tm 19)]),
 RM 4 1 20] 5 [1])
 (.seq (.seq (.region [RM 0 21 1,
 rq 1 22 (.bin .lss (.tm 21) (ki 0))] 2 [1,22])
 (.cond (.tm 22)
 (.seq (.region [rq 0 4 (.move (.kv (.int .i64 (-1))))] 1 [4])
 .ret)
 .skip))
 (.seq (.region [RM 0 23 1,
 RM 1 4 23] 2 [4])
 .ret))))))))
def bbI:List Cert:=[⟨[],[1,2]⟩,⟨[],[1,2]⟩,⟨[],[1,2,10]⟩,⟨[],[4]⟩,⟨[],[1,2]⟩,⟨[],[1,2,16]⟩,⟨[],[4]⟩,⟨[],[1]⟩,⟨[],[1,22]⟩,⟨[],[4]⟩,⟨[],[4]⟩]
def a4X:List aW:=[.tm 4]
theorem baB:aO Tryz.prog Tryz.f14 bbI=some (a2V,a4X):=by kernel_rfl
theorem bb1:aN Tryz.prog a1J Tryz.f14 a2V a4X:=
 aN.mk Tryz.func14 (by kernel_rfl) baB
def a2W:AC:=
 (.seq (.region [rq 0 1 (.box true (.tm 0)),
 rq 1 2 (.alloc [OZ,OZ,OZ])] 2 [1,2])
 (.seq (.region [rq 0 3 (.alloc [OZ,OZ,OZ])] 1 [1,2,3])
 (.seq (.region [RF 0 4 0 1,
 RL 1 5 4,
 rq 2 6 (.call aZ4 [(.tm 5)]),
 RF 3 7 0 3,
 rn 4 (.store 1 false (.tm 7) (.tm 6))] 5 [1,2,3])
 (.seq (.region [RF 0 8 1 1,
 RL 1 9 8,
 rq 2 10 (.call p8 [(.tm 9)]),
 RF 3 11 1 3,
 rn 4 (.store 1 false (.tm 11) (.tm 10))] 5 [1,2,3])
 (.seq (.region [RF 0 12 2 1,
 RL 1 13 12,
 rq 2 14 (.call a0G [(.tm 13)]),
 RF 3 15 2 3,
 rn 4 (.store 1 false (.tm 15) (.tm 14))] 5 [2,3])
 (.seq (.region [rq 0 16 (.load 3 true (.tm 3)),
 rn 1 (.store 3 true (.tm 2) (.tm 16))] 2 [2])
 .ret))))))
def baG:List Cert:=[⟨[],[1,2]⟩,⟨[],[1,2,3]⟩,⟨[],[1,2,3]⟩,⟨[],[1,2,3]⟩,⟨[],[2,3]⟩,⟨[],[2]⟩]
def a4Y:List aW:=[.cell 2 3 true]
theorem bbW:aO Tryz.prog Tryz.f17 baG=some (a2W,a4Y):=by kernel_rfl
theorem bbK:aN Tryz.prog aZL Tryz.f17 a2W a4Y:=
 aN.mk Tryz.func17 (by kernel_rfl) bbW
def a24:AC:=
 (.seq (.region [rq 0 2 (.box true (.tm 0)),
 rq 1 3 (.box true (.tm 1)),
 rq 2 4 (.move (.kv (.bool false)))] 3 [2,3])
 (.seq (.seq (.region [RF 0 5 0 2,
 RL 1 6 5,
 RF 2 7 0 3,
 RL 3 8 7,
 rq 4 9 (.call aZ8 [(.tm 6),(.tm 8)]),
 rq 5 10 (.un .not (.tm 9))] 6 [2,3,10])
 (.cond (.tm 10)
 (.seq (.region [rq 0 4 (.move (.kv (.bool false)))] 1 [4])
 .ret)
 .skip))
 (.seq (.seq (.region [RF 0 11 1 2,
 RL 1 12 11,
 RF 2 13 1 3,
 RL 3 14 13,
 rq 4 15 (.call o6 [(.tm 12),(.tm 14)]),
 rq 5 16 (.un .not (.tm 15))] 6 [2,3,16])
 (.cond (.tm 16)
 (.seq (.region [rq 0 4 (.move (.kv (.bool false)))] 1 [4])
 .ret)
 .skip))
 (.seq (.seq (.region [RF 0 17 2 2,
 RL 1 18 17,
 RF 2 19 2 3,
 RL 3 20 19,
 rq 4 21 (.call a0O [(.tm 18),(.tm 20)]),
 rq 5 22 (.un .not (.tm 21))] 6 [22])
 (.cond (.tm 22)
 (.seq (.region [rq 0 4 (.move (.kv (.bool false)))] 1 [4])
 .ret)
 .skip))
 (.seq (.region [rq 0 4 (.move (.kv (.bool true)))] 1 [4])
 .ret)))))
def ba2:List Cert:=[⟨[],[2,3]⟩,⟨[],[2,3,10]⟩,⟨[],[4]⟩,⟨[],[2,3,16]⟩,⟨[],[4]⟩,⟨[],[22]⟩,⟨[],[4]⟩,⟨[],[4]⟩]
def a4U:List aW:=[.tm 4]
theorem baA:aO Tryz.prog Tryz.f22 ba2=some (a24,a4U):=by kernel_rfl
theorem bbG:aN Tryz.prog a1B Tryz.f22 a24 a4U:=
 aN.mk Tryz.func22 (by kernel_rfl) baA
def a1M:AC:=
 (.seq (.region [rq 0 2 (.box true (.tm 0)),
 rq 1 4 (.move (ki 0))] 2 [1,2])
 (.seq (.region [RF 0 5 0 2,
 rq 1 6 (.load 2 true (.tm 5)),
 RM 2 7 1,
 rq 3 8 (.call a0M [(.tm 6),(.tm 7)]),
 RM 4 1 8] 5 [1,2])
 (.seq (.seq (.region [RM 0 9 1,
 rq 1 10 (.bin .lss (.tm 9) (ki 0))] 2 [1,2,10])
 (.cond (.tm 10)
 (.seq (.region [rq 0 4 (.move (.kv (.int .i64 (-1))))] 1 [4])
 .ret)
 .skip))
 (.seq (.region [RF 0 11 2 2,
 RL 1 12 11,
 RM 2 13 1,
 rq 3 14 (.call a0H [(.tm 12),(.tm 13)]),
 RM 4 1 14] 5 [1,2])
 (.seq (.seq (.region [RM 0 15 1,
 rq 1 16 (.bin .lss (.tm 15) (ki 0))] 2 [1,2,16])
 (.cond (.tm 16)
 (.seq (.region [rq 0 4 (.move (.kv (.int .i64 (-1))))] 1 [4])
 .ret)
 .skip))
 (.seq (.region [RF 0 17 3 2,
 RL 1 18 17,
 RM 2 19 1,
 rq 3 20 (.call aZ6 [(.tm 18),(.tm 19)]),
 RM 4 1 20] 5 [1,2])
 (.seq (.seq (.region [RM 0 21 1,
 rq 1 22 (.bin .lss (.tm 21) (ki 0))] 2 [1,2,22])
 (.cond (.tm 22)
 (.seq (.region [rq 0 4 (.move (.kv (.int .i64 (-1))))] 1 [4])
 .ret)
 .skip))
 (.seq (.region [RF 0 23 4 2,
 RL 1 24 23,
 RM 2 25 1,
 rq 3 26 (.call aZS [(.tm 24),(.tm 25)]),
 RM 4 1 26] 5 [1])
 (.seq (.seq (.region [RM 0 27 1,
 rq 1 28 (.bin .lss (.tm 27) (ki 0))] 2 [1,28])
 (.cond (.tm 28)
 (.seq (.region [rq 0 4 (.move (.kv (.int .i64 (-1))))] 1 [4])
 .ret)
 .skip))
 (.seq (.region [RM 0 29 1,
 RM 1 4 29] 2 [4])
 .ret))))))))))
def a7F:List Cert:=[⟨[],[1,2]⟩,⟨[],[1,2]⟩,⟨[],[1,2,10]⟩,⟨[],[4]⟩,⟨[],[1,2]⟩,⟨[],[1,2,16]⟩,⟨[],[4]⟩,⟨[],[1,2]⟩,⟨[],[1,2,22]⟩,⟨[],[4]⟩,⟨[],[1]⟩,⟨[],[1,28]⟩,⟨[],[4]⟩,⟨[],[4]⟩]
def a3Z:List aW:=[.tm 4]
theorem a6N:aO Tryz.prog Tryz.f32 a7F=some (a1M,a3Z):=by kernel_rfl
theorem a77:aN Tryz.prog a0E Tryz.f32 a1M a3Z:=
 aN.mk Tryz.func32 (by kernel_rfl) a6N
def a1N:AC:=
 (.seq (.region [rq 0 1 (.box true (.tm 0)),
 rq 1 2 (.alloc [OZ,OZ,OZ,OZ,OZ])] 2 [1,2])
 (.seq (.region [rq 0 3 (.alloc [OZ,OZ,OZ,OZ,OZ])] 1 [1,2,3])
 (.seq (.region [RF 0 4 0 1,
 rq 1 5 (.load 2 true (.tm 4)),
 rq 2 6 (.call a0K [(.tm 5)]),
 RF 3 7 0 3,
 rn 4 (.store 2 true (.tm 7) (.tm 6))] 5 [1,2,3])
 (.seq (.region [RF 0 8 2 1,
 RL 1 9 8,
 rq 2 10 (.call a0J [(.tm 9)]),
 RF 3 11 2 3,
 rn 4 (.store 1 false (.tm 11) (.tm 10))] 5 [1,2,3])
 (.seq (.region [RF 0 12 3 1,
 RL 1 13 12,
 rq 2 14 (.call aZ2 [(.tm 13)]),
 RF 3 15 3 3,
 rn 4 (.store 1 false (.tm 15) (.tm 14))] 5 [1,2,3])
 (.seq (.region [RF 0 16 4 1,
 RL 1 17 16,
 rq 2 18 (.call aZR [(.tm 17)]),
 RF 3 19 4 3,
 rn 4 (.store 1 false (.tm 19) (.tm 18))] 5 [2,3])
 (.seq (.region [rq 0 20 (.load 5 true (.tm 3)),
 rn 1 (.store 5 true (.tm 2) (.tm 20))] 2 [2])
 .ret)))))))
def a7G:List Cert:=[⟨[],[1,2]⟩,⟨[],[1,2,3]⟩,⟨[],[1,2,3]⟩,⟨[],[1,2,3]⟩,⟨[],[1,2,3]⟩,⟨[],[2,3]⟩,⟨[],[2]⟩]
def a3X:List aW:=[.cell 2 5 true]
theorem a6V:aO Tryz.prog Tryz.f34 a7G=some (a1N,a3X):=by kernel_rfl
theorem a60:aN Tryz.prog B7 Tryz.f34 a1N a3X:=
 aN.mk Tryz.func34 (by kernel_rfl) a6V
def a1Z:AC:=
 (.seq (.region [rq 0 2 (.box true (.tm 0)),
 rq 1 3 (.box true (.tm 1)),
 rq 2 4 (.move (.kv (.bool false)))] 3 [2,3])
 (.seq (.seq (.region [RF 0 5 0 2,
 rq 1 6 (.load 2 true (.tm 5)),
 RF 2 7 0 3,
 rq 3 8 (.load 2 true (.tm 7)),
 rq 4 9 (.call a0N [(.tm 6),(.tm 8)]),
 rq 5 10 (.un .not (.tm 9))] 6 [2,3,10])
 (.cond (.tm 10)
 (.seq (.region [rq 0 4 (.move (.kv (.bool false)))] 1 [4])
 .ret)
 .skip))
 (.seq (.seq (.region [RF 0 11 2 2,
 RL 1 12 11,
 RF 2 13 2 3,
 RL 3 14 13,
 rq 4 15 (.call a0L [(.tm 12),(.tm 14)]),
 rq 5 16 (.un .not (.tm 15))] 6 [2,3,16])
 (.cond (.tm 16)
 (.seq (.region [rq 0 4 (.move (.kv (.bool false)))] 1 [4])
 .ret)
 .skip))
 (.seq (.seq (.region [RF 0 17 3 2,
 RL 1 18 17,
 RF 2 19 3 3,
 RL 3 20 19,
 rq 4 21 (.call aZ3 [(.tm 18),(.tm 20)]),
 rq 5 22 (.un .not (.tm 21))] 6 [2,3,22])
 (.cond (.tm 22)
 (.seq (.region [rq 0 4 (.move (.kv (.bool false)))] 1 [4])
 .ret)
 .skip))
 (.seq (.seq (.region [RF 0 23 4 2,
 RL 1 24 23,
 RF 2 25 4 3,
 RL 3 26 25,
 rq 4 27 (.call aZX [(.tm 24),(.tm 26)]),
 rq 5 28 (.un .not (.tm 27))] 6 [28])
 (.cond (.tm 28)
 (.seq (.region [rq 0 4 (.move (.kv (.bool false)))] 1 [4])
 .ret)
 .skip))
 (.seq (.region [rq 0 4 (.move (.kv (.bool true)))] 1 [4])
 .ret))))))
def a7D:List Cert:=[⟨[],[2,3]⟩,⟨[],[2,3,10]⟩,⟨[],[4]⟩,⟨[],[2,3,16]⟩,⟨[],[4]⟩,⟨[],[2,3,22]⟩,⟨[],[4]⟩,⟨[],[28]⟩,⟨[],[4]⟩,⟨[],[4]⟩]
def a32:List aW:=[.tm 4]
theorem a7I:aO Tryz.prog Tryz.f36 a7D=some (a1Z,a32):=by kernel_rfl
theorem a7X:aN Tryz.prog a0D Tryz.f36 a1Z a32:=
 aN.mk Tryz.func36 (by kernel_rfl) a7I
def a0Y:AC:=
 (.seq (.region [rq 0 4 (.move (ki 0))] 1 [0,1])
 (.seq (.region [RM 0 5 1,
 RM 1 6 0,
 rq 2 7 (.len false (.tm 6)),
 rq 3 8 (.bin .sub (.tm 5) (.tm 7)),
 RM 4 1 8] 5 [1])
 (.seq (.seq (.region [RM 0 9 1,
 rq 1 10 (.bin .lss (.tm 9) (ki 0))] 2 [1,10])
 (.cond (.tm 10)
 (.seq (.region [rq 0 4 (.move (.kv (.int .i64 (-1))))] 1 [4])
 .ret)
 .skip))
 (.seq (.region [RM 0 11 1,
 RM 1 4 11] 2 [4])
 .ret))))
def a58:List Cert:=[⟨[],[0,1]⟩,⟨[],[1]⟩,⟨[],[1,10]⟩,⟨[],[4]⟩,⟨[],[4]⟩]
def a3H:List aW:=[.tm 4]
theorem a57:aO Tryz.prog Tryz.f67 a58=some (a0Y,a3H):=by kernel_rfl
theorem a53:aN Tryz.prog aZ5 Tryz.f67 a0Y a3H:=
 aN.mk Tryz.func67 (by kernel_rfl) a57
def a39:AC:=
 (.seq (.region [rq 0 4 (.move (ki 0))] 1 [0,1])
 (.seq (.region [RM 0 5 1,
 RM 1 6 0,
 rq 2 7 (.len false (.tm 6)),
 rq 3 8 (.bin .sub (.tm 5) (.tm 7)),
 RM 4 1 8] 5 [1])
 (.seq (.seq (.region [RM 0 9 1,
 rq 1 10 (.bin .lss (.tm 9) (ki 0))] 2 [1,10])
 (.cond (.tm 10)
 (.seq (.region [rq 0 4 (.move (.kv (.int .i64 (-1))))] 1 [4])
 .ret)
 .skip))
 (.seq (.region [RM 0 11 1,
 RM 1 4 11] 2 [4])
 .ret))))
def bdG:List Cert:=[⟨[],[0,1]⟩,⟨[],[1]⟩,⟨[],[1,10]⟩,⟨[],[4]⟩,⟨[],[4]⟩]
def a5N:List aW:=[.tm 4]
theorem bdH:aO Tryz.prog Tryz.f68 bdG=some (a39,a5N):=by kernel_rfl
theorem bdY:aN Tryz.prog g7 Tryz.f68 a39 a5N:=
 aN.mk Tryz.func68 (by kernel_rfl) bdH
def a1X:AC:=
 (.seq (.region [rq 0 4 (.move (ki 0))] 1 [0,1])
 (.seq (.region [RM 0 6 1,
 RM 1 7 0,
 rq 2 8 (.len false (.tm 7)),
 rq 3 9 (.bin .sub (.tm 6) (.tm 8)),
 RM 4 1 9] 5 [0,1])
 (.seq (.seq (.region [RM 0 10 1,
 rq 1 11 (.bin .lss (.tm 10) (ki 0))] 2 [0,1,11])
 (.cond (.tm 11)
 (.seq (.region [rq 0 4 (.move (.kv (.int .i64 (-1))))] 1 [4])
 .ret)
 .skip))
 (.seq (.seq (.region [rq 0 5 (.move (ki 0))] 1 [0,1,5])
 (.block 0
 (.loop
 (.seq (.seq (.region [RM 0 12 5,
 RM 1 13 0,
 rq 2 14 (.len false (.tm 13)),
 rq 3 15 (.bin .lss (.tm 12) (.tm 14))] 4 [0,1,5,15])
 (.cond (.tm 15)
 .skip
 (.exit 0)))
 (.seq (.block 1
 (.seq (.region [RM 0 18 0,
 RM 1 19 5,
 rq 2 20 (.idx 1 (.tm 18) (.tm 19)),
 RL 3 21 20,
 RM 4 22 1,
 rq 5 23 (.call a0U [(.tm 21),(.tm 22)]),
 RM 6 1 23] 7 [0,1,5])
 (.seq (.region [RM 0 24 1,
 rq 1 25 (.bin .lss (.tm 24) (ki 0))] 2 [0,1,5,25])
 (.cond (.tm 25)
 (.seq (.region [rq 0 4 (.move (.kv (.int .i64 (-1))))] 1 [4])
 .ret)
 .skip))))
 (.region [RM 0 16 5,
 rq 1 17 (.bin .add (.tm 16) (ki 1)),
 RM 2 5 17] 3 [0,1,5]))))))
 (.seq (.region [RM 0 26 1,
 RM 1 4 26] 2 [4])
 .ret)))))
def a6E:List Cert:=[⟨[],[0,1]⟩,⟨[],[0,1]⟩,⟨[],[0,1,11]⟩,⟨[],[4]⟩,⟨[],[0,1,5]⟩,⟨[],[0,1,5,15]⟩,⟨[],[0,1,5]⟩,⟨[],[0,1,5,25]⟩,⟨[],[4]⟩,⟨[],[0,1,5]⟩,⟨[],[4]⟩]
def a31:List aW:=[.tm 4]
theorem a7R:aO Tryz.prog Tryz.f69 a6E=some (a1X,a31):=by kernel_rfl
theorem a73:aN Tryz.prog a0C Tryz.f69 a1X a31:=
 aN.mk Tryz.func69 (by kernel_rfl) a7R
def a1Q:AC:=
 (.seq (.region [rq 0 2 (.box true (.tm 0)),
 rq 1 4 (.move (ki 0))] 2 [1,2])
 (.seq (.region [RF 0 5 0 2,
 rq 1 6 (.load 1 true (.tm 5)),
 RM 2 7 1,
 rq 3 8 (.call a09 [(.tm 6),(.tm 7)]),
 RM 4 1 8] 5 [1,2])
 (.seq (.seq (.region [RM 0 9 1,
 rq 1 10 (.bin .lss (.tm 9) (ki 0))] 2 [1,2,10])
 (.cond (.tm 10)
 (.seq (.region [rq 0 4 (.move (.kv (.int .i64 (-1))))] 1 [4])
 .ret)
 .skip))
 (.seq (.region [RF 0 11 1 2,
 RL 1 12 11,
 RM 2 13 1,
 rq 3 14 (.call g7 [(.tm 12),(.tm 13)]),
 RM 4 1 14] 5 [1])
 (.seq (.seq (.region [RM 0 15 1,
 rq 1 16 (.bin .lss (.tm 15) (ki 0))] 2 [1,16])
 (.cond (.tm 16)
 (.seq (.region [rq 0 4 (.move (.kv (.int .i64 (-1))))] 1 [4])
 .ret)
 .skip))
 (.seq (.region [RM 0 17 1,
 RM 1 4 17] 2 [4])
 .ret))))))
def a7K:List Cert:=[⟨[],[1,2]⟩,⟨[],[1,2]⟩,⟨[],[1,2,10]⟩,⟨[],[4]⟩,⟨[],[1]⟩,⟨[],[1,16]⟩,⟨[],[4]⟩,⟨[],[4]⟩]
def a3Q:List aW:=[.tm 4]
theorem a7C:aO Tryz.prog Tryz.f70 a7K=some (a1Q,a3Q):=by kernel_rfl
theorem a6W:aN Tryz.prog a0M Tryz.f70 a1Q a3Q:=
 aN.mk Tryz.func70 (by kernel_rfl) a7C
def a2K:AC:=
 (.seq (.region [rq 0 4 (.move (ki 0))] 1 [0,1])
 (.seq (.region [RM 0 6 1,
 RM 1 7 0,
 rq 2 8 (.len false (.tm 7)),
 rq 3 9 (.bin .sub (.tm 6) (.tm 8)),
 RM 4 1 9] 5 [0,1])
 (.seq (.seq (.region [RM 0 10 1,
 rq 1 11 (.bin .lss (.tm 10) (ki 0))] 2 [0,1,11])
 (.cond (.tm 11)
 (.seq (.region [rq 0 4 (.move (.kv (.int .i64 (-1))))] 1 [4])
 .ret)
 .skip))
 (.seq (.seq (.region [rq 0 5 (.move (ki 0))] 1 [0,1,5])
 (.block 0
 (.loop
 (.seq (.seq (.region [RM 0 12 5,
 RM 1 13 0,
 rq 2 14 (.len false (.tm 13)),
 rq 3 15 (.bin .lss (.tm 12) (.tm 14))] 4 [0,1,5,15])
 (.cond (.tm 15)
 .skip
 (.exit 0)))
 (.seq (.block 1
 (.seq (.region [RM 0 18 0,
 RM 1 19 5,
 rq 2 20 (.idx 5 (.tm 18) (.tm 19)),
 rq 3 21 (.load 5 true (.tm 20)),
 RM 4 22 1,
 rq 5 23 (.call a1A [(.tm 21),(.tm 22)]),
 RM 6 1 23] 7 [0,1,5])
 (.seq (.region [RM 0 24 1,
 rq 1 25 (.bin .lss (.tm 24) (ki 0))] 2 [0,1,5,25])
 (.cond (.tm 25)
 (.seq (.region [rq 0 4 (.move (.kv (.int .i64 (-1))))] 1 [4])
 .ret)
 .skip))))
 (.region [RM 0 16 5,
 rq 1 17 (.bin .add (.tm 16) (ki 1)),
 RM 2 5 17] 3 [0,1,5]))))))
 (.seq (.region [RM 0 26 1,
 RM 1 4 26] 2 [4])
 .ret)))))
def a8G:List Cert:=[⟨[],[0,1]⟩,⟨[],[0,1]⟩,⟨[],[0,1,11]⟩,⟨[],[4]⟩,⟨[],[0,1,5]⟩,⟨[],[0,1,5,15]⟩,⟨[],[0,1,5]⟩,⟨[],[0,1,5,25]⟩,⟨[],[4]⟩,⟨[],[0,1,5]⟩,⟨[],[4]⟩]
def a4L:List aW:=[.tm 4]
theorem a8W:aO Tryz.prog Tryz.f71 a8G=some (a2K,a4L):=by kernel_rfl
theorem a83:aN Tryz.prog aZS Tryz.f71 a2K a4L:=
 aN.mk Tryz.func71 (by kernel_rfl) a8W
def a02:AC:=
 (.seq (.region [rq 0 2 (.move (.kv (.slice none 0 0)))] 1 [0])
 (.seq (.region [RM 0 5 0,
 rq 1 6 (.len false (.tm 5)),
 rq 2 7 (.kY 4 [VZ,VZ,VZ,(.v (.bool false))] (.tm 6) (.tm 6)),
 RM 3 3 7] 4 [0,3])
 (.seq (.seq (.region [rq 0 4 (.move (ki 0))] 1 [0,3,4])
 (.block 0
 (.loop
 (.seq (.seq (.region [RM 0 8 4,
 RM 1 9 0,
 rq 2 10 (.len false (.tm 9)),
 rq 3 11 (.bin .lss (.tm 8) (.tm 10))] 4 [0,3,4,11])
 (.cond (.tm 11)
 .skip
 (.exit 0)))
 (.seq (.block 1
 (.region [RM 0 14 3,
 RM 1 15 4,
 RM 2 16 0,
 RM 3 17 4,
 rq 4 18 (.idx 4 (.tm 16) (.tm 17)),
 rq 5 19 (.load 4 true (.tm 18)),
 rq 6 20 (.call a0B [(.tm 19)]),
 rq 7 21 (.idx 4 (.tm 14) (.tm 15)),
 rn 8 (.store 4 true (.tm 21) (.tm 20))] 9 [0,3,4]))
 (.region [RM 0 12 4,
 rq 1 13 (.bin .add (.tm 12) (ki 1)),
 RM 2 4 13] 3 [0,3,4]))))))
 (.seq (.region [RM 0 22 3,
 RM 1 2 22] 2 [2])
 .ret))))
def a55:List Cert:=[⟨[],[0]⟩,⟨[],[0,3]⟩,⟨[],[0,3,4]⟩,⟨[],[0,3,4,11]⟩,⟨[],[0,3,4]⟩,⟨[],[0,3,4]⟩,⟨[],[2]⟩]
def a3J:List aW:=[.tm 2]
theorem a50:aO Tryz.prog Tryz.f75 a55=some (a02,a3J):=by kernel_rfl
theorem a56:aN Tryz.prog aZ4 Tryz.f75 a02 a3J:=
 aN.mk Tryz.func75 (by kernel_rfl) a50
def a3V:AC:=
 (.seq (.region [rq 0 2 (.move (.kv (.slice none 0 0)))] 1 [0])
 (.seq (.region [RM 0 5 0,
 rq 1 6 (.len false (.tm 5)),
 rq 2 7 (.kY 1 [VZ] (.tm 6) (.tm 6)),
 RM 3 3 7] 4 [0,3])
 (.seq (.seq (.region [rq 0 4 (.move (ki 0))] 1 [0,3,4])
 (.block 0
 (.loop
 (.seq (.seq (.region [RM 0 8 4,
 RM 1 9 0,
 rq 2 10 (.len false (.tm 9)),
 rq 3 11 (.bin .lss (.tm 8) (.tm 10))] 4 [0,3,4,11])
 (.cond (.tm 11)
 .skip
 (.exit 0)))
 (.seq (.block 1
 (.region [RM 0 14 3,
 RM 1 15 4,
 RM 2 16 0,
 RM 3 17 4,
 rq 4 18 (.idx 1 (.tm 16) (.tm 17)),
 RL 5 19 18,
 rq 6 20 (.idx 1 (.tm 14) (.tm 15)),
 rn 7 (.store 1 false (.tm 20) (.tm 19))] 8 [0,3,4]))
 (.region [RM 0 12 4,
 rq 1 13 (.bin .add (.tm 12) (ki 1)),
 RM 2 4 13] 3 [0,3,4]))))))
 (.seq (.region [RM 0 21 3,
 RM 1 2 21] 2 [2])
 .ret))))
def bdQ:List Cert:=[⟨[],[0]⟩,⟨[],[0,3]⟩,⟨[],[0,3,4]⟩,⟨[],[0,3,4,11]⟩,⟨[],[0,3,4]⟩,⟨[],[0,3,4]⟩,⟨[],[2]⟩]
def a5S:List aW:=[.tm 2]
theorem bdX:aO Tryz.prog Tryz.f76 bdQ=some (a3V,a5S):=by kernel_rfl
theorem bdO:aN Tryz.prog p8 Tryz.f76 a3V a5S:=
 aN.mk Tryz.func76 (by kernel_rfl) bdX
def a1T:AC:=
 (.seq (.region [rq 0 2 (.move (.kv (.slice none 0 0)))] 1 [0])
 (.seq (.region [RM 0 5 0,
 rq 1 6 (.len false (.tm 5)),
 rq 2 7 (.kY 1 [OZ] (.tm 6) (.tm 6)),
 RM 3 3 7] 4 [0,3])
 (.seq (.seq (.region [rq 0 4 (.move (ki 0))] 1 [0,3,4])
 (.block 0
 (.loop
 (.seq (.seq (.region [RM 0 8 4,
 RM 1 9 0,
 rq 2 10 (.len false (.tm 9)),
 rq 3 11 (.bin .lss (.tm 8) (.tm 10))] 4 [0,3,4,11])
 (.cond (.tm 11)
 .skip
 (.exit 0)))
 (.seq (.block 1
 (.region [RM 0 14 3,
 RM 1 15 4,
 RM 2 16 0,
 RM 3 17 4,
 rq 4 18 (.idx 1 (.tm 16) (.tm 17)),
 RL 5 19 18,
 rq 6 20 (.call a0S [(.tm 19)]),
 rq 7 21 (.idx 1 (.tm 14) (.tm 15)),
 rn 8 (.store 1 false (.tm 21) (.tm 20))] 9 [0,3,4]))
 (.region [RM 0 12 4,
 rq 1 13 (.bin .add (.tm 12) (ki 1)),
 RM 2 4 13] 3 [0,3,4]))))))
 (.seq (.region [RM 0 22 3,
 RM 1 2 22] 2 [2])
 .ret))))
def a74:List Cert:=[⟨[],[0]⟩,⟨[],[0,3]⟩,⟨[],[0,3,4]⟩,⟨[],[0,3,4,11]⟩,⟨[],[0,3,4]⟩,⟨[],[0,3,4]⟩,⟨[],[2]⟩]
def a3U:List aW:=[.tm 2]
theorem a6U:aO Tryz.prog Tryz.f77 a74=some (a1T,a3U):=by kernel_rfl
theorem a7Q:aN Tryz.prog a0G Tryz.f77 a1T a3U:=
 aN.mk Tryz.func77 (by kernel_rfl) a6U
def a13:AC:=
 (.seq (.region [rq 0 1 (.box true (.tm 0)),
 rq 1 2 (.alloc [OZ,OZ])] 2 [1,2])
 (.seq (.region [rq 0 3 (.alloc [OZ,OZ])] 1 [1,2,3])
 (.seq (.region [RF 0 4 0 1,
 rq 1 5 (.load 1 true (.tm 4)),
 rq 2 6 (.call a1G [(.tm 5)]),
 RF 3 7 0 3,
 rn 4 (.store 1 true (.tm 7) (.tm 6))] 5 [1,2,3])
 (.seq (.region [RF 0 8 1 1,
 RL 1 9 8,
 rq 2 10 (.call p8 [(.tm 9)]),
 RF 3 11 1 3,
 rn 4 (.store 1 false (.tm 11) (.tm 10))] 5 [2,3])
 (.seq (.region [rq 0 12 (.load 2 true (.tm 3)),
 rn 1 (.store 2 true (.tm 2) (.tm 12))] 2 [2])
 .ret)))))
def a75:List Cert:=[⟨[],[1,2]⟩,⟨[],[1,2,3]⟩,⟨[],[1,2,3]⟩,⟨[],[2,3]⟩,⟨[],[2]⟩]
def a3T:List aW:=[.cell 2 2 true]
theorem a6S:aO Tryz.prog Tryz.f78 a75=some (a13,a3T):=by kernel_rfl
theorem a7L:aN Tryz.prog a0K Tryz.f78 a13 a3T:=
 aN.mk Tryz.func78 (by kernel_rfl) a6S
def a2J:AC:=
 (.seq (.region [rq 0 2 (.move (.kv (.slice none 0 0)))] 1 [0])
 (.seq (.region [RM 0 5 0,
 rq 1 6 (.len false (.tm 5)),
 rq 2 7 (.kY 5 [VZ,VZ,VZ,VZ,OZ] (.tm 6) (.tm 6)),
 RM 3 3 7] 4 [0,3])
 (.seq (.seq (.region [rq 0 4 (.move (ki 0))] 1 [0,3,4])
 (.block 0
 (.loop
 (.seq (.seq (.region [RM 0 8 4,
 RM 1 9 0,
 rq 2 10 (.len false (.tm 9)),
 rq 3 11 (.bin .lss (.tm 8) (.tm 10))] 4 [0,3,4,11])
 (.cond (.tm 11)
 .skip
 (.exit 0)))
 (.seq (.block 1
 (.region [RM 0 14 3,
 RM 1 15 4,
 RM 2 16 0,
 RM 3 17 4,
 rq 4 18 (.idx 5 (.tm 16) (.tm 17)),
 rq 5 19 (.load 5 true (.tm 18)),
 rq 6 20 (.call a1H [(.tm 19)]),
 rq 7 21 (.idx 5 (.tm 14) (.tm 15)),
 rn 8 (.store 5 true (.tm 21) (.tm 20))] 9 [0,3,4]))
 (.region [RM 0 12 4,
 rq 1 13 (.bin .add (.tm 12) (ki 1)),
 RM 2 4 13] 3 [0,3,4]))))))
 (.seq (.region [RM 0 22 3,
 RM 1 2 22] 2 [2])
 .ret))))
def a9O:List Cert:=[⟨[],[0]⟩,⟨[],[0,3]⟩,⟨[],[0,3,4]⟩,⟨[],[0,3,4,11]⟩,⟨[],[0,3,4]⟩,⟨[],[0,3,4]⟩,⟨[],[2]⟩]
def a4K:List aW:=[.tm 2]
theorem a8J:aO Tryz.prog Tryz.f79 a9O=some (a2J,a4K):=by kernel_rfl
theorem a8V:aN Tryz.prog aZR Tryz.f79 a2J a4K:=
 aN.mk Tryz.func79 (by kernel_rfl) a8J
def a1O:AC:=
 (.seq (.region [rq 0 2 (.box true (.tm 0)),
 rq 1 3 (.box true (.tm 1)),
 rq 2 4 (.move (.kv (.bool false)))] 3 [2,3])
 (.seq (.seq (.region [RF 0 5 0 2,
 rq 1 6 (.load 1 true (.tm 5)),
 RF 2 7 0 3,
 rq 3 8 (.load 1 true (.tm 7)),
 rq 4 9 (.call a07 [(.tm 6),(.tm 8)]),
 rq 5 10 (.un .not (.tm 9))] 6 [2,3,10])
 (.cond (.tm 10)
 (.seq (.region [rq 0 4 (.move (.kv (.bool false)))] 1 [4])
 .ret)
 .skip))
 (.seq (.seq (.region [RF 0 11 1 2,
 RL 1 12 11,
 RF 2 13 1 3,
 RL 3 14 13,
 rq 4 15 (.call o6 [(.tm 12),(.tm 14)]),
 rq 5 16 (.un .not (.tm 15))] 6 [16])
 (.cond (.tm 16)
 (.seq (.region [rq 0 4 (.move (.kv (.bool false)))] 1 [4])
 .ret)
 .skip))
 (.seq (.region [rq 0 4 (.move (.kv (.bool true)))] 1 [4])
 .ret))))
def a7U:List Cert:=[⟨[],[2,3]⟩,⟨[],[2,3,10]⟩,⟨[],[4]⟩,⟨[],[16]⟩,⟨[],[4]⟩,⟨[],[4]⟩]
def a38:List aW:=[.tm 4]
theorem a71:aO Tryz.prog Tryz.f83 a7U=some (a1O,a38):=by kernel_rfl
theorem a6F:aN Tryz.prog a0N Tryz.f83 a1O a38:=
 aN.mk Tryz.func83 (by kernel_rfl) a71
def a33:AC:=
 (.seq (.region [rq 0 4 (.move (.kv (.bool false)))] 1 [0,1])
 (.seq (.seq (.region [RM 0 6 0,
 rq 1 7 (.len false (.tm 6)),
 RM 2 8 1,
 rq 3 9 (.len false (.tm 8)),
 rq 4 10 (.bin .neq (.tm 7) (.tm 9))] 5 [0,1,10])
 (.cond (.tm 10)
 (.seq (.region [rq 0 4 (.move (.kv (.bool false)))] 1 [4])
 .ret)
 .skip))
 (.seq (.seq (.region [rq 0 5 (.move (ki 0))] 1 [0,1,5])
 (.block 0
 (.loop
 (.seq (.seq (.region [RM 0 11 5,
 RM 1 12 0,
 rq 2 13 (.len false (.tm 12)),
 rq 3 14 (.bin .lss (.tm 11) (.tm 13))] 4 [0,1,5,14])
 (.cond (.tm 14)
 .skip
 (.exit 0)))
 (.seq (.block 1
 (.seq (.region [RM 0 17 0,
 RM 1 18 5,
 rq 2 19 (.idx 1 (.tm 17) (.tm 18)),
 RL 3 20 19,
 RM 4 21 1,
 RM 5 22 5,
 rq 6 23 (.idx 1 (.tm 21) (.tm 22)),
 RL 7 24 23,
 rq 8 25 (.bin .neq (.tm 20) (.tm 24))] 9 [0,1,5,25])
 (.cond (.tm 25)
 (.seq (.region [rq 0 4 (.move (.kv (.bool false)))] 1 [4])
 .ret)
 .skip)))
 (.region [RM 0 15 5,
 rq 1 16 (.bin .add (.tm 15) (ki 1)),
 RM 2 5 16] 3 [0,1,5]))))))
 (.seq (.region [rq 0 4 (.move (.kv (.bool true)))] 1 [4])
 .ret))))
def bdZ:List Cert:=[⟨[],[0,1]⟩,⟨[],[0,1,10]⟩,⟨[],[4]⟩,⟨[],[0,1,5]⟩,⟨[],[0,1,5,14]⟩,⟨[cz 0,cz 1,cz 2,cz 3,cz 4,cz 5,cz 6,cz 7,cz 8],[0,1,5,25]⟩,⟨[],[4]⟩,⟨[],[0,1,5]⟩,⟨[],[4]⟩]
def a5Q:List aW:=[.tm 4]
theorem bdL:aO Tryz.prog Tryz.f84 bdZ=some (a33,a5Q):=by kernel_rfl
theorem bdU:aN Tryz.prog o6 Tryz.f84 a33 a5Q:=
 aN.mk Tryz.func84 (by kernel_rfl) bdL
def a2B:AC:=
 (.seq (.region [rq 0 4 (.move (.kv (.bool false)))] 1 [0,1])
 (.seq (.seq (.region [RM 0 6 0,
 rq 1 7 (.len false (.tm 6)),
 RM 2 8 1,
 rq 3 9 (.len false (.tm 8)),
 rq 4 10 (.bin .neq (.tm 7) (.tm 9))] 5 [0,1,10])
 (.cond (.tm 10)
 (.seq (.region [rq 0 4 (.move (.kv (.bool false)))] 1 [4])
 .ret)
 .skip))
 (.seq (.seq (.region [rq 0 5 (.move (ki 0))] 1 [0,1,5])
 (.block 0
 (.loop
 (.seq (.seq (.region [RM 0 11 5,
 RM 1 12 0,
 rq 2 13 (.len false (.tm 12)),
 rq 3 14 (.bin .lss (.tm 11) (.tm 13))] 4 [0,1,5,14])
 (.cond (.tm 14)
 .skip
 (.exit 0)))
 (.seq (.block 1
 (.seq (.region [RM 0 17 0,
 RM 1 18 5,
 rq 2 19 (.idx 5 (.tm 17) (.tm 18)),
 rq 3 20 (.load 5 true (.tm 19)),
 RM 4 21 1,
 RM 5 22 5,
 rq 6 23 (.idx 5 (.tm 21) (.tm 22)),
 rq 7 24 (.load 5 true (.tm 23)),
 rq 8 25 (.call a1I [(.tm 20),(.tm 24)]),
 rq 9 26 (.un .not (.tm 25))] 10 [0,1,5,26])
 (.cond (.tm 26)
 (.seq (.region [rq 0 4 (.move (.kv (.bool false)))] 1 [4])
 .ret)
 .skip)))
 (.region [RM 0 15 5,
 rq 1 16 (.bin .add (.tm 15) (ki 1)),
 RM 2 5 16] 3 [0,1,5]))))))
 (.seq (.region [rq 0 4 (.move (.kv (.bool true)))] 1 [4])
 .ret))))
def a8Y:List Cert:=[⟨[],[0,1]⟩,⟨[],[0,1,10]⟩,⟨[],[4]⟩,⟨[],[0,1,5]⟩,⟨[],[0,1,5,14]⟩,⟨[cz 0,cz 1,cz 2,cz 3,cz 4,cz 5,cz 6,cz 7,cz 8,cz 9],[0,1,5,26]⟩,⟨[],[4]⟩,⟨[],[0,1,5]⟩,⟨[],[4]⟩]
def a4D:List aW:=[.tm 4]
theorem a78:aO Tryz.prog Tryz.f85 a8Y=some (a2B,a4D):=by kernel_rfl
theorem a9J:aN Tryz.prog aZX Tryz.f85 a2B a4D:=
 aN.mk Tryz.func85 (by kernel_rfl) a78
def a01:AC:=
 (.seq (.region [rq 0 4 (.move (.kv (.bool false)))] 1 [0,1])
 (.seq (.seq (.region [RM 0 6 0,
 rq 1 7 (.len false (.tm 6)),
 RM 2 8 1,
 rq 3 9 (.len false (.tm 8)),
 rq 4 10 (.bin .neq (.tm 7) (.tm 9))] 5 [0,1,10])
 (.cond (.tm 10)
 (.seq (.region [rq 0 4 (.move (.kv (.bool false)))] 1 [4])
 .ret)
 .skip))
 (.seq (.seq (.region [rq 0 5 (.move (ki 0))] 1 [0,1,5])
 (.block 0
 (.loop
 (.seq (.seq (.region [RM 0 11 5,
 RM 1 12 0,
 rq 2 13 (.len false (.tm 12)),
 rq 3 14 (.bin .lss (.tm 11) (.tm 13))] 4 [0,1,5,14])
 (.cond (.tm 14)
 .skip
 (.exit 0)))
 (.seq (.block 1
 (.seq (.region [RM 0 17 0,
 RM 1 18 5,
 rq 2 19 (.idx 4 (.tm 17) (.tm 18)),
 rq 3 20 (.load 4 true (.tm 19)),
 RM 4 21 1,
 RM 5 22 5,
 rq 6 23 (.idx 4 (.tm 21) (.tm 22)),
 rq 7 24 (.load 4 true (.tm 23)),
 rq 8 25 (.call a0A [(.tm 20),(.tm 24)]),
 rq 9 26 (.un .not (.tm 25))] 10 [0,1,5,26])
 (.cond (.tm 26)
 (.seq (.region [rq 0 4 (.move (.kv (.bool false)))] 1 [4])
 .ret)
 .skip)))
 (.region [RM 0 15 5,
 rq 1 16 (.bin .add (.tm 15) (ki 1)),
 RM 2 5 16] 3 [0,1,5]))))))
 (.seq (.region [rq 0 4 (.move (.kv (.bool true)))] 1 [4])
 .ret))))
def a5Z:List Cert:=[⟨[],[0,1]⟩,⟨[],[0,1,10]⟩,⟨[],[4]⟩,⟨[],[0,1,5]⟩,⟨[],[0,1,5,14]⟩,⟨[cz 0,cz 1,cz 2,cz 3,cz 4,cz 5,cz 6,cz 7,cz 8,cz 9],[0,1,5,26]⟩,⟨[],[4]⟩,⟨[],[0,1,5]⟩,⟨[],[4]⟩]
def a3K:List aW:=[.tm 4]
theorem a5Y:aO Tryz.prog Tryz.f86 a5Z=some (a01,a3K):=by kernel_rfl
theorem a5V:aN Tryz.prog aZ8 Tryz.f86 a01 a3K:=
 aN.mk Tryz.func86 (by kernel_rfl) a5Y
def a1L:AC:=
 (.seq (.region [rq 0 4 (.move (.kv (.bool false)))] 1 [0,1])
 (.seq (.seq (.region [RM 0 6 0,
 rq 1 7 (.len false (.tm 6)),
 RM 2 8 1,
 rq 3 9 (.len false (.tm 8)),
 rq 4 10 (.bin .neq (.tm 7) (.tm 9))] 5 [0,1,10])
 (.cond (.tm 10)
 (.seq (.region [rq 0 4 (.move (.kv (.bool false)))] 1 [4])
 .ret)
 .skip))
 (.seq (.seq (.region [rq 0 5 (.move (ki 0))] 1 [0,1,5])
 (.block 0
 (.loop
 (.seq (.seq (.region [RM 0 11 5,
 RM 1 12 0,
 rq 2 13 (.len false (.tm 12)),
 rq 3 14 (.bin .lss (.tm 11) (.tm 13))] 4 [0,1,5,14])
 (.cond (.tm 14)
 .skip
 (.exit 0)))
 (.seq (.block 1
 (.seq (.region [RM 0 17 0,
 RM 1 18 5,
 rq 2 19 (.idx 1 (.tm 17) (.tm 18)),
 RL 3 20 19,
 RM 4 21 1,
 RM 5 22 5,
 rq 6 23 (.idx 1 (.tm 21) (.tm 22)),
 RL 7 24 23,
 rq 8 25 (.call a0W [(.tm 20),(.tm 24)]),
 rq 9 26 (.un .not (.tm 25))] 10 [0,1,5,26])
 (.cond (.tm 26)
 (.seq (.region [rq 0 4 (.move (.kv (.bool false)))] 1 [4])
 .ret)
 .skip)))
 (.region [RM 0 15 5,
 rq 1 16 (.bin .add (.tm 15) (ki 1)),
 RM 2 5 16] 3 [0,1,5]))))))
 (.seq (.region [rq 0 4 (.move (.kv (.bool true)))] 1 [4])
 .ret))))
def a6X:List Cert:=[⟨[],[0,1]⟩,⟨[],[0,1,10]⟩,⟨[],[4]⟩,⟨[],[0,1,5]⟩,⟨[],[0,1,5,14]⟩,⟨[cz 0,cz 1,cz 2,cz 3,cz 4,cz 5,cz 6,cz 7,cz 8,cz 9],[0,1,5,26]⟩,⟨[],[4]⟩,⟨[],[0,1,5]⟩,⟨[],[4]⟩]
def a3O:List aW:=[.tm 4]
theorem a6K:aO Tryz.prog Tryz.f87 a6X=some (a1L,a3O):=by kernel_rfl
theorem a7W:aN Tryz.prog a0O Tryz.f87 a1L a3O:=
 aN.mk Tryz.func87 (by kernel_rfl) a6K
def a1Y:AC:=
 (.seq (.region [rq 0 4 (.move (ki 0))] 1 [0,1])
 (.seq (.region [RM 0 6 1,
 RM 1 7 0,
 rq 2 8 (.len false (.tm 7)),
 rq 3 9 (.bin .sub (.tm 6) (.tm 8)),
 RM 4 1 9] 5 [0,1])
 (.seq (.seq (.region [RM 0 10 1,
 rq 1 11 (.bin .lss (.tm 10) (ki 0))] 2 [0,1,11])
 (.cond (.tm 11)
 (.seq (.region [rq 0 4 (.move (.kv (.int .i64 (-1))))] 1 [4])
 .ret)
 .skip))
 (.seq (.seq (.region [rq 0 5 (.move (ki 0))] 1 [0,1,5])
 (.block 0
 (.loop
 (.seq (.seq (.region [RM 0 12 5,
 RM 1 13 0,
 rq 2 14 (.len false (.tm 13)),
 rq 3 15 (.bin .lss (.tm 12) (.tm 14))] 4 [0,1,5,15])
 (.cond (.tm 15)
 .skip
 (.exit 0)))
 (.seq (.block 1
 (.seq (.region [RM 0 18 0,
 RM 1 19 5,
 rq 2 20 (.idx 4 (.tm 18) (.tm 19)),
 rq 3 21 (.load 4 true (.tm 20)),
 RM 4 22 1,
 rq 5 23 (.call a0T [(.tm 21),(.tm 22)]),
 RM 6 1 23] 7 [0,1,5])
 (.seq (.region [RM 0 24 1,
 rq 1 25 (.bin .lss (.tm 24) (ki 0))] 2 [0,1,5,25])
 (.cond (.tm 25)
 (.seq (.region [rq 0 4 (.move (.kv (.int .i64 (-1))))] 1 [4])
 .ret)
 .skip))))
 (.region [RM 0 16 5,
 rq 1 17 (.bin .add (.tm 16) (ki 1)),
 RM 2 5 17] 3 [0,1,5]))))))
 (.seq (.region [RM 0 26 1,
 RM 1 4 26] 2 [4])
 .ret)))))
def a6R:List Cert:=[⟨[],[0,1]⟩,⟨[],[0,1]⟩,⟨[],[0,1,11]⟩,⟨[],[4]⟩,⟨[],[0,1,5]⟩,⟨[],[0,1,5,15]⟩,⟨[],[0,1,5]⟩,⟨[],[0,1,5,25]⟩,⟨[],[4]⟩,⟨[],[0,1,5]⟩,⟨[],[4]⟩]
def a3Y:List aW:=[.tm 4]
theorem a7M:aO Tryz.prog Tryz.f97 a6R=some (a1Y,a3Y):=by kernel_rfl
theorem a7A:aN Tryz.prog a0H Tryz.f97 a1Y a3Y:=
 aN.mk Tryz.func97 (by kernel_rfl) a7M
def a00:AC:=
 (.seq (.region [rq 0 4 (.move (ki 0))] 1 [0,1])
 (.seq (.region [RM 0 6 1,
 RM 1 7 0,
 rq 2 8 (.len false (.tm 7)),
 rq 3 9 (.bin .sub (.tm 6) (.tm 8)),
 RM 4 1 9] 5 [0,1])
 (.seq (.seq (.region [RM 0 10 1,
 rq 1 11 (.bin .lss (.tm 10) (ki 0))] 2 [0,1,11])
 (.cond (.tm 11)
 (.seq (.region [rq 0 4 (.move (.kv (.int .i64 (-1))))] 1 [4])
 .ret)
 .skip))
 (.seq (.seq (.region [rq 0 5 (.move (ki 0))] 1 [0,1,5])
 (.block 0
 (.loop
 (.seq (.seq (.region [RM 0 12 5,
 RM 1 13 0,
 rq 2 14 (.len false (.tm 13)),
 rq 3 15 (.bin .lss (.tm 12) (.tm 14))] 4 [0,1,5,15])
 (.cond (.tm 15)
 .skip
 (.exit 0)))
 (.seq (.block 1
 (.seq (.region [RM 0 18 0,
 RM 1 19 5,
 rq 2 20 (.idx 3 (.tm 18) (.tm 19)),
 rq 3 21 (.load 3 true (.tm 20)),
 RM 4 22 1,
 rq 5 23 (.call a0P [(.tm 21),(.tm 22)]),
 RM 6 1 23] 7 [0,1,5])
 (.seq (.region [RM 0 24 1,
 rq 1 25 (.bin .lss (.tm 24) (ki 0))] 2 [0,1,5,25])
 (.cond (.tm 25)
 (.seq (.region [rq 0 4 (.move (.kv (.int .i64 (-1))))] 1 [4])
 .ret)
 .skip))))
 (.region [RM 0 16 5,
 rq 1 17 (.bin .add (.tm 16) (ki 1)),
 RM 2 5 17] 3 [0,1,5]))))))
 (.seq (.region [RM 0 26 1,
 RM 1 4 26] 2 [4])
 .ret)))))
def a5X:List Cert:=[⟨[],[0,1]⟩,⟨[],[0,1]⟩,⟨[],[0,1,11]⟩,⟨[],[4]⟩,⟨[],[0,1,5]⟩,⟨[],[0,1,5,15]⟩,⟨[],[0,1,5]⟩,⟨[],[0,1,5,25]⟩,⟨[],[4]⟩,⟨[],[0,1,5]⟩,⟨[],[4]⟩]
def a3M:List aW:=[.tm 4]
theorem a5U:aO Tryz.prog Tryz.f98 a5X=some (a00,a3M):=by kernel_rfl
theorem a6B:aN Tryz.prog aZ6 Tryz.f98 a00 a3M:=
 aN.mk Tryz.func98 (by kernel_rfl) a5U
def a1U:AC:=
 (.seq (.region [rq 0 2 (.move (.kv (.slice none 0 0)))] 1 [0])
 (.seq (.region [RM 0 5 0,
 rq 1 6 (.len false (.tm 5)),
 rq 2 7 (.kY 4 [VZ,OZ,OZ,VZ] (.tm 6) (.tm 6)),
 RM 3 3 7] 4 [0,3])
 (.seq (.seq (.region [rq 0 4 (.move (ki 0))] 1 [0,3,4])
 (.block 0
 (.loop
 (.seq (.seq (.region [RM 0 8 4,
 RM 1 9 0,
 rq 2 10 (.len false (.tm 9)),
 rq 3 11 (.bin .lss (.tm 8) (.tm 10))] 4 [0,3,4,11])
 (.cond (.tm 11)
 .skip
 (.exit 0)))
 (.seq (.block 1
 (.region [RM 0 14 3,
 RM 1 15 4,
 RM 2 16 0,
 RM 3 17 4,
 rq 4 18 (.idx 4 (.tm 16) (.tm 17)),
 rq 5 19 (.load 4 true (.tm 18)),
 rq 6 20 (.call a0X [(.tm 19)]),
 rq 7 21 (.idx 4 (.tm 14) (.tm 15)),
 rn 8 (.store 4 true (.tm 21) (.tm 20))] 9 [0,3,4]))
 (.region [RM 0 12 4,
 rq 1 13 (.bin .add (.tm 12) (ki 1)),
 RM 2 4 13] 3 [0,3,4]))))))
 (.seq (.region [RM 0 22 3,
 RM 1 2 22] 2 [2])
 .ret))))
def a6I:List Cert:=[⟨[],[0]⟩,⟨[],[0,3]⟩,⟨[],[0,3,4]⟩,⟨[],[0,3,4,11]⟩,⟨[],[0,3,4]⟩,⟨[],[0,3,4]⟩,⟨[],[2]⟩]
def a37:List aW:=[.tm 2]
theorem a69:aO Tryz.prog Tryz.f104 a6I=some (a1U,a37):=by kernel_rfl
theorem a7V:aN Tryz.prog a0J Tryz.f104 a1U a37:=
 aN.mk Tryz.func104 (by kernel_rfl) a69
def a0Z:AC:=
 (.seq (.region [rq 0 2 (.move (.kv (.slice none 0 0)))] 1 [0])
 (.seq (.region [RM 0 5 0,
 rq 1 6 (.len false (.tm 5)),
 rq 2 7 (.kY 3 [OZ,OZ,VZ] (.tm 6) (.tm 6)),
 RM 3 3 7] 4 [0,3])
 (.seq (.seq (.region [rq 0 4 (.move (ki 0))] 1 [0,3,4])
 (.block 0
 (.loop
 (.seq (.seq (.region [RM 0 8 4,
 RM 1 9 0,
 rq 2 10 (.len false (.tm 9)),
 rq 3 11 (.bin .lss (.tm 8) (.tm 10))] 4 [0,3,4,11])
 (.cond (.tm 11)
 .skip
 (.exit 0)))
 (.seq (.block 1
 (.region [RM 0 14 3,
 RM 1 15 4,
 RM 2 16 0,
 RM 3 17 4,
 rq 4 18 (.idx 3 (.tm 16) (.tm 17)),
 rq 5 19 (.load 3 true (.tm 18)),
 rq 6 20 (.call a0F [(.tm 19)]),
 rq 7 21 (.idx 3 (.tm 14) (.tm 15)),
 rn 8 (.store 3 true (.tm 21) (.tm 20))] 9 [0,3,4]))
 (.region [RM 0 12 4,
 rq 1 13 (.bin .add (.tm 12) (ki 1)),
 RM 2 4 13] 3 [0,3,4]))))))
 (.seq (.region [RM 0 22 3,
 RM 1 2 22] 2 [2])
 .ret))))
def a59:List Cert:=[⟨[],[0]⟩,⟨[],[0,3]⟩,⟨[],[0,3,4]⟩,⟨[],[0,3,4,11]⟩,⟨[],[0,3,4]⟩,⟨[],[0,3,4]⟩,⟨[],[2]⟩]
def a3L:List aW:=[.tm 2]
theorem a52:aO Tryz.prog Tryz.f105 a59=some (a0Z,a3L):=by kernel_rfl
theorem a5W:aN Tryz.prog aZ2 Tryz.f105 a0Z a3L:=
 aN.mk Tryz.func105 (by kernel_rfl) a52
def a10:AC:=
 (.seq (.region [rq 0 4 (.move (.kv (.bool false)))] 1 [0,1])
 (.seq (.seq (.region [RM 0 6 0,
 rq 1 7 (.len false (.tm 6)),
 RM 2 8 1,
 rq 3 9 (.len false (.tm 8)),
 rq 4 10 (.bin .neq (.tm 7) (.tm 9))] 5 [0,1,10])
 (.cond (.tm 10)
 (.seq (.region [rq 0 4 (.move (.kv (.bool false)))] 1 [4])
 .ret)
 .skip))
 (.seq (.seq (.region [rq 0 5 (.move (ki 0))] 1 [0,1,5])
 (.block 0
 (.loop
 (.seq (.seq (.region [RM 0 11 5,
 RM 1 12 0,
 rq 2 13 (.len false (.tm 12)),
 rq 3 14 (.bin .lss (.tm 11) (.tm 13))] 4 [0,1,5,14])
 (.cond (.tm 14)
 .skip
 (.exit 0)))
 (.seq (.block 1
 (.seq (.region [RM 0 17 0,
 RM 1 18 5,
 rq 2 19 (.idx 4 (.tm 17) (.tm 18)),
 rq 3 20 (.load 4 true (.tm 19)),
 RM 4 21 1,
 RM 5 22 5,
 rq 6 23 (.idx 4 (.tm 21) (.tm 22)),
 rq 7 24 (.load 4 true (.tm 23)),
 rq 8 25 (.call a0V [(.tm 20),(.tm 24)]),
 rq 9 26 (.un .not (.tm 25))] 10 [0,1,5,26])
 (.cond (.tm 26)
 (.seq (.region [rq 0 4 (.move (.kv (.bool false)))] 1 [4])
 .ret)
 .skip)))
 (.region [RM 0 15 5,
 rq 1 16 (.bin .add (.tm 15) (ki 1)),
 RM 2 5 16] 3 [0,1,5]))))))
 (.seq (.region [rq 0 4 (.move (.kv (.bool true)))] 1 [4])
 .ret))))
def a6G:List Cert:=[⟨[],[0,1]⟩,⟨[],[0,1,10]⟩,⟨[],[4]⟩,⟨[],[0,1,5]⟩,⟨[],[0,1,5,14]⟩,⟨[cz 0,cz 1,cz 2,cz 3,cz 4,cz 5,cz 6,cz 7,cz 8,cz 9],[0,1,5,26]⟩,⟨[],[4]⟩,⟨[],[0,1,5]⟩,⟨[],[4]⟩]
def a35:List aW:=[.tm 4]
theorem a62:aO Tryz.prog Tryz.f111 a6G=some (a10,a35):=by kernel_rfl
theorem a70:aN Tryz.prog a0L Tryz.f111 a10 a35:=
 aN.mk Tryz.func111 (by kernel_rfl) a62
def a03:AC:=
 (.seq (.region [rq 0 4 (.move (.kv (.bool false)))] 1 [0,1])
 (.seq (.seq (.region [RM 0 6 0,
 rq 1 7 (.len false (.tm 6)),
 RM 2 8 1,
 rq 3 9 (.len false (.tm 8)),
 rq 4 10 (.bin .neq (.tm 7) (.tm 9))] 5 [0,1,10])
 (.cond (.tm 10)
 (.seq (.region [rq 0 4 (.move (.kv (.bool false)))] 1 [4])
 .ret)
 .skip))
 (.seq (.seq (.region [rq 0 5 (.move (ki 0))] 1 [0,1,5])
 (.block 0
 (.loop
 (.seq (.seq (.region [RM 0 11 5,
 RM 1 12 0,
 rq 2 13 (.len false (.tm 12)),
 rq 3 14 (.bin .lss (.tm 11) (.tm 13))] 4 [0,1,5,14])
 (.cond (.tm 14)
 .skip
 (.exit 0)))
 (.seq (.block 1
 (.seq (.region [RM 0 17 0,
 RM 1 18 5,
 rq 2 19 (.idx 3 (.tm 17) (.tm 18)),
 rq 3 20 (.load 3 true (.tm 19)),
 RM 4 21 1,
 RM 5 22 5,
 rq 6 23 (.idx 3 (.tm 21) (.tm 22)),
 rq 7 24 (.load 3 true (.tm 23)),
 rq 8 25 (.call a0I [(.tm 20),(.tm 24)]),
 rq 9 26 (.un .not (.tm 25))] 10 [0,1,5,26])
 (.cond (.tm 26)
 (.seq (.region [rq 0 4 (.move (.kv (.bool false)))] 1 [4])
 .ret)
 .skip)))
 (.region [RM 0 15 5,
 rq 1 16 (.bin .add (.tm 15) (ki 1)),
 RM 2 5 16] 3 [0,1,5]))))))
 (.seq (.region [rq 0 4 (.move (.kv (.bool true)))] 1 [4])
 .ret))))
def a54:List Cert:=[⟨[],[0,1]⟩,⟨[],[0,1,10]⟩,⟨[],[4]⟩,⟨[],[0,1,5]⟩,⟨[],[0,1,5,14]⟩,⟨[cz 0,cz 1,cz 2,cz 3,cz 4,cz 5,cz 6,cz 7,cz 8,cz 9],[0,1,5,26]⟩,⟨[],[4]⟩,⟨[],[0,1,5]⟩,⟨[],[4]⟩]
def a3G:List aW:=[.tm 4]
theorem a51:aO Tryz.prog Tryz.f112 a54=some (a03,a3G):=by kernel_rfl
theorem a6A:aN Tryz.prog aZ3 Tryz.f112 a03 a3G:=
 aN.mk Tryz.func112 (by kernel_rfl) a51
def a2D:AC:=
 (.seq (.region [rq 0 4 (.move (ki 0))] 1 [0,1])
 (.seq (.region [RM 0 6 1,
 RM 1 7 0,
 rq 2 8 (.len false (.tm 7)),
 rq 3 9 (.bin .sub (.tm 6) (.tm 8)),
 RM 4 1 9] 5 [0,1])
 (.seq (.seq (.region [RM 0 10 1,
 rq 1 11 (.bin .lss (.tm 10) (ki 0))] 2 [0,1,11])
 (.cond (.tm 11)
 (.seq (.region [rq 0 4 (.move (.kv (.int .i64 (-1))))] 1 [4])
 .ret)
 .skip))
 (.seq (.seq (.region [rq 0 5 (.move (ki 0))] 1 [0,1,5])
 (.block 0
 (.loop
 (.seq (.seq (.region [RM 0 12 5,
 RM 1 13 0,
 rq 2 14 (.len false (.tm 13)),
 rq 3 15 (.bin .lss (.tm 12) (.tm 14))] 4 [0,1,5,15])
 (.cond (.tm 15)
 .skip
 (.exit 0)))
 (.seq (.block 1
 (.seq (.region [RM 0 18 0,
 RM 1 19 5,
 rq 2 20 (.idx 7 (.tm 18) (.tm 19)),
 rq 3 21 (.load 7 true (.tm 20)),
 RM 4 22 1,
 rq 5 23 (.call a06 [(.tm 21),(.tm 22)]),
 RM 6 1 23] 7 [0,1,5])
 (.seq (.region [RM 0 24 1,
 rq 1 25 (.bin .lss (.tm 24) (ki 0))] 2 [0,1,5,25])
 (.cond (.tm 25)
 (.seq (.region [rq 0 4 (.move (.kv (.int .i64 (-1))))] 1 [4])
 .ret)
 .skip))))
 (.region [RM 0 16 5,
 rq 1 17 (.bin .add (.tm 16) (ki 1)),
 RM 2 5 17] 3 [0,1,5]))))))
 (.seq (.region [RM 0 26 1,
 RM 1 4 26] 2 [4])
 .ret)))))
def a8K:List Cert:=[⟨[],[0,1]⟩,⟨[],[0,1]⟩,⟨[],[0,1,11]⟩,⟨[],[4]⟩,⟨[],[0,1,5]⟩,⟨[],[0,1,5,15]⟩,⟨[],[0,1,5]⟩,⟨[],[0,1,5,25]⟩,⟨[],[4]⟩,⟨[],[0,1,5]⟩,⟨[],[4]⟩]
def a4F:List aW:=[.tm 4]
theorem a9H:aO Tryz.prog Tryz.f146 a8K=some (a2D,a4F):=by kernel_rfl
theorem a8Z:aN Tryz.prog a0U Tryz.f146 a2D a4F:=
 aN.mk Tryz.func146 (by kernel_rfl) a9H
def a2Y:AC:=
 (.seq (.region [rq 0 2 (.box true (.tm 0)),
 rq 1 4 (.move (ki 0))] 2 [1,2])
 (.seq (.region [RF 0 5 0 2,
 RL 1 6 5,
 RM 2 7 1,
 rq 3 8 (.call g7 [(.tm 6),(.tm 7)]),
 RM 4 1 8] 5 [1])
 (.seq (.seq (.region [RM 0 9 1,
 rq 1 10 (.bin .lss (.tm 9) (ki 0))] 2 [1,10])
 (.cond (.tm 10)
 (.seq (.region [rq 0 4 (.move (.kv (.int .i64 (-1))))] 1 [4])
 .ret)
 .skip))
 (.seq (.region [RM 0 11 1,
 RM 1 4 11] 2 [4])
 .ret))))
def baD:List Cert:=[⟨[],[1,2]⟩,⟨[],[1]⟩,⟨[],[1,10]⟩,⟨[],[4]⟩,⟨[],[4]⟩]
def a47:List aW:=[.tm 4]
theorem ba5:aO Tryz.prog Tryz.f147 baD=some (a2Y,a47):=by kernel_rfl
theorem baS:aN Tryz.prog a09 Tryz.f147 a2Y a47:=
 aN.mk Tryz.func147 (by kernel_rfl) ba5
def a2S:AC:=
 (.seq (.region [rq 0 2 (.box true (.tm 0)),
 rq 1 4 (.move (ki 0))] 2 [1,2])
 (.seq (.region [RF 0 5 2 2,
 rq 1 6 (.load 3 true (.tm 5)),
 RM 2 7 1,
 rq 3 8 (.call a1F [(.tm 6),(.tm 7)]),
 RM 4 1 8] 5 [1])
 (.seq (.seq (.region [RM 0 9 1,
 rq 1 10 (.bin .lss (.tm 9) (ki 0))] 2 [1,10])
 (.cond (.tm 10)
 (.seq (.region [rq 0 4 (.move (.kv (.int .i64 (-1))))] 1 [4])
 .ret)
 .skip))
 (.seq (.region [RM 0 11 1,
 RM 1 4 11] 2 [4])
 .ret))))
def ba1:List Cert:=[⟨[],[1,2]⟩,⟨[],[1]⟩,⟨[],[1,10]⟩,⟨[],[4]⟩,⟨[],[4]⟩]
def a4W:List aW:=[.tm 4]
theorem bbZ:aO Tryz.prog Tryz.f148 ba1=some (a2S,a4W):=by kernel_rfl
theorem baJ:aN Tryz.prog a1A Tryz.f148 a2S a4W:=
 aN.mk Tryz.func148 (by kernel_rfl) bbZ
def a12:AC:=
 (.seq (.region [rq 0 1 (.box true (.tm 0)),
 rq 1 2 (.alloc [VZ,VZ,VZ,(.v (.bool false))])] 2 [1,2])
 (.seq (.region [rq 0 3 (.alloc [VZ,VZ,VZ,(.v (.bool false))])] 1 [1,2,3])
 (.seq (.region [RF 0 4 0 1,
 RL 1 5 4,
 RF 2 6 0 3,
 rn 3 (.store 1 false (.tm 6) (.tm 5))] 4 [1,2,3])
 (.seq (.region [RF 0 7 1 1,
 RL 1 8 7,
 RF 2 9 1 3,
 rn 3 (.store 1 false (.tm 9) (.tm 8))] 4 [1,2,3])
 (.seq (.region [RF 0 10 2 1,
 RL 1 11 10,
 RF 2 12 2 3,
 rn 3 (.store 1 false (.tm 12) (.tm 11))] 4 [1,2,3])
 (.seq (.region [RF 0 13 3 1,
 RL 1 14 13,
 RF 2 15 3 3,
 rn 3 (.store 1 false (.tm 15) (.tm 14))] 4 [2,3])
 (.seq (.region [rq 0 16 (.load 4 true (.tm 3)),
 rn 1 (.store 4 true (.tm 2) (.tm 16))] 2 [2])
 .ret)))))))
def a6L:List Cert:=[⟨[],[1,2]⟩,⟨[],[1,2,3]⟩,⟨[],[1,2,3]⟩,⟨[],[1,2,3]⟩,⟨[],[1,2,3]⟩,⟨[],[2,3]⟩,⟨[],[2]⟩]
def a3R:List aW:=[.cell 2 4 true]
theorem a68:aO Tryz.prog Tryz.f159 a6L=some (a12,a3R):=by kernel_rfl
theorem a6J:aN Tryz.prog a0B Tryz.f159 a12 a3R:=
 aN.mk Tryz.func159 (by kernel_rfl) a68
def a17:AC:=
 (.seq (.region [rq 0 2 (.move (.kv (.slice none 0 0)))] 1 [0])
 (.seq (.region [RM 0 5 0,
 rq 1 6 (.len false (.tm 5)),
 rq 2 7 (.kY 7 [VZ,VZ,VZ,VZ,(.v (.bool false)),OZ,OZ] (.tm 6) (.tm 6)),
 RM 3 3 7] 4 [0,3])
 (.seq (.seq (.region [rq 0 4 (.move (ki 0))] 1 [0,3,4])
 (.block 0
 (.loop
 (.seq (.seq (.region [RM 0 8 4,
 RM 1 9 0,
 rq 2 10 (.len false (.tm 9)),
 rq 3 11 (.bin .lss (.tm 8) (.tm 10))] 4 [0,3,4,11])
 (.cond (.tm 11)
 .skip
 (.exit 0)))
 (.seq (.block 1
 (.region [RM 0 14 3,
 RM 1 15 4,
 RM 2 16 0,
 RM 3 17 4,
 rq 4 18 (.idx 7 (.tm 16) (.tm 17)),
 rq 5 19 (.load 7 true (.tm 18)),
 rq 6 20 (.call a1D [(.tm 19)]),
 rq 7 21 (.idx 7 (.tm 14) (.tm 15)),
 rn 8 (.store 7 true (.tm 21) (.tm 20))] 9 [0,3,4]))
 (.region [RM 0 12 4,
 rq 1 13 (.bin .add (.tm 12) (ki 1)),
 RM 2 4 13] 3 [0,3,4]))))))
 (.seq (.region [RM 0 22 3,
 RM 1 2 22] 2 [2])
 .ret))))
def a79:List Cert:=[⟨[],[0]⟩,⟨[],[0,3]⟩,⟨[],[0,3,4]⟩,⟨[],[0,3,4,11]⟩,⟨[],[0,3,4]⟩,⟨[],[0,3,4]⟩,⟨[],[2]⟩]
def a4M:List aW:=[.tm 2]
theorem a9S:aO Tryz.prog Tryz.f160 a79=some (a17,a4M):=by kernel_rfl
theorem a9F:aN Tryz.prog a0S Tryz.f160 a17 a4M:=
 aN.mk Tryz.func160 (by kernel_rfl) a9S
def a22:AC:=
 (.seq (.region [rq 0 1 (.box true (.tm 0)),
 rq 1 2 (.alloc [OZ])] 2 [1,2])
 (.seq (.region [rq 0 3 (.alloc [OZ])] 1 [1,2,3])
 (.seq (.region [RF 0 4 0 1,
 RL 1 5 4,
 rq 2 6 (.call p8 [(.tm 5)]),
 RF 3 7 0 3,
 rn 4 (.store 1 false (.tm 7) (.tm 6))] 5 [2,3])
 (.seq (.region [rq 0 8 (.load 1 true (.tm 3)),
 rn 1 (.store 1 true (.tm 2) (.tm 8))] 2 [2])
 .ret))))
def bb7:List Cert:=[⟨[],[1,2]⟩,⟨[],[1,2,3]⟩,⟨[],[2,3]⟩,⟨[],[2]⟩]
def a5B:List aW:=[.cell 2 1 true]
theorem ba7:aO Tryz.prog Tryz.f161 bb7=some (a22,a5B):=by kernel_rfl
theorem bbF:aN Tryz.prog a1G Tryz.f161 a22 a5B:=
 aN.mk Tryz.func161 (by kernel_rfl) ba7
def a2Z:AC:=
 (.seq (.region [rq 0 1 (.box true (.tm 0)),
 rq 1 2 (.alloc [VZ,VZ,VZ,VZ,OZ])] 2 [1,2])
 (.seq (.region [rq 0 3 (.alloc [VZ,VZ,VZ,VZ,OZ])] 1 [1,2,3])
 (.seq (.region [RF 0 4 0 1,
 RL 1 5 4,
 RF 2 6 0 3,
 rn 3 (.store 1 false (.tm 6) (.tm 5))] 4 [1,2,3])
 (.seq (.region [RF 0 7 1 1,
 RL 1 8 7,
 RF 2 9 1 3,
 rn 3 (.store 1 false (.tm 9) (.tm 8))] 4 [1,2,3])
 (.seq (.region [RF 0 10 2 1,
 rq 1 11 (.load 3 true (.tm 10)),
 rq 2 12 (.call a05 [(.tm 11)]),
 RF 3 13 2 3,
 rn 4 (.store 3 true (.tm 13) (.tm 12))] 5 [2,3])
 (.seq (.region [rq 0 14 (.load 5 true (.tm 3)),
 rn 1 (.store 5 true (.tm 2) (.tm 14))] 2 [2])
 .ret))))))
def bb9:List Cert:=[⟨[],[1,2]⟩,⟨[],[1,2,3]⟩,⟨[],[1,2,3]⟩,⟨[],[1,2,3]⟩,⟨[],[2,3]⟩,⟨[],[2]⟩]
def a40:List aW:=[.cell 2 5 true]
theorem bbH:aO Tryz.prog Tryz.f162 bb9=some (a2Z,a40):=by kernel_rfl
theorem bbN:aN Tryz.prog a1H Tryz.f162 a2Z a40:=
 aN.mk Tryz.func162 (by kernel_rfl) bbH
def a2R:AC:=
 (.seq (.region [rq 0 2 (.box true (.tm 0)),
 rq 1 3 (.box true (.tm 1)),
 rq 2 4 (.move (.kv (.bool false)))] 3 [2,3])
 (.seq (.seq (.region [RF 0 5 0 2,
 RL 1 6 5,
 RF 2 7 0 3,
 RL 3 8 7,
 rq 4 9 (.call o6 [(.tm 6),(.tm 8)]),
 rq 5 10 (.un .not (.tm 9))] 6 [10])
 (.cond (.tm 10)
 (.seq (.region [rq 0 4 (.move (.kv (.bool false)))] 1 [4])
 .ret)
 .skip))
 (.seq (.region [rq 0 4 (.move (.kv (.bool true)))] 1 [4])
 .ret)))
def baZ:List Cert:=[⟨[],[2,3]⟩,⟨[],[10]⟩,⟨[],[4]⟩,⟨[],[4]⟩]
def a49:List aW:=[.tm 4]
theorem bbB:aO Tryz.prog Tryz.f172 baZ=some (a2R,a49):=by kernel_rfl
theorem bbV:aN Tryz.prog a07 Tryz.f172 a2R a49:=
 aN.mk Tryz.func172 (by kernel_rfl) bbB
def a28:AC:=
 (.seq (.region [rq 0 2 (.box true (.tm 0)),
 rq 1 3 (.box true (.tm 1)),
 rq 2 4 (.move (.kv (.bool false)))] 3 [2,3])
 (.seq (.seq (.region [RF 0 5 0 2,
 RL 1 6 5,
 RF 2 7 0 3,
 RL 3 8 7,
 rq 4 9 (.bin .neq (.tm 6) (.tm 8))] 5 [2,3,9])
 (.cond (.tm 9)
 (.seq (.region [rq 0 4 (.move (.kv (.bool false)))] 1 [4])
 .ret)
 .skip))
 (.seq (.seq (.region [RF 0 10 1 2,
 RL 1 11 10,
 RF 2 12 1 3,
 RL 3 13 12,
 rq 4 14 (.bin .neq (.tm 11) (.tm 13))] 5 [2,3,14])
 (.cond (.tm 14)
 (.seq (.region [rq 0 4 (.move (.kv (.bool false)))] 1 [4])
 .ret)
 .skip))
 (.seq (.seq (.region [RF 0 15 2 2,
 rq 1 16 (.load 3 true (.tm 15)),
 RF 2 17 2 3,
 rq 3 18 (.load 3 true (.tm 17)),
 rq 4 19 (.call a1E [(.tm 16),(.tm 18)]),
 rq 5 20 (.un .not (.tm 19))] 6 [20])
 (.cond (.tm 20)
 (.seq (.region [rq 0 4 (.move (.kv (.bool false)))] 1 [4])
 .ret)
 .skip))
 (.seq (.region [rq 0 4 (.move (.kv (.bool true)))] 1 [4])
 .ret)))))
def baQ:List Cert:=[⟨[],[2,3]⟩,⟨[],[2,3,9]⟩,⟨[],[4]⟩,⟨[],[2,3,14]⟩,⟨[],[4]⟩,⟨[],[20]⟩,⟨[],[4]⟩,⟨[],[4]⟩]
def a4O:List aW:=[.tm 4]
theorem bb4:aO Tryz.prog Tryz.f173 baQ=some (a28,a4O):=by kernel_rfl
theorem bbX:aN Tryz.prog a1I Tryz.f173 a28 a4O:=
 aN.mk Tryz.func173 (by kernel_rfl) bb4
def a1S:AC:=
 (.seq (.region [rq 0 2 (.box true (.tm 0)),
 rq 1 3 (.box true (.tm 1)),
 rq 2 4 (.move (.kv (.bool false)))] 3 [2,3])
 (.seq (.seq (.region [RF 0 5 0 2,
 RL 1 6 5,
 RF 2 7 0 3,
 RL 3 8 7,
 rq 4 9 (.bin .neq (.tm 6) (.tm 8))] 5 [2,3,9])
 (.cond (.tm 9)
 (.seq (.region [rq 0 4 (.move (.kv (.bool false)))] 1 [4])
 .ret)
 .skip))
 (.seq (.seq (.region [RF 0 10 1 2,
 RL 1 11 10,
 RF 2 12 1 3,
 RL 3 13 12,
 rq 4 14 (.bin .neq (.tm 11) (.tm 13))] 5 [2,3,14])
 (.cond (.tm 14)
 (.seq (.region [rq 0 4 (.move (.kv (.bool false)))] 1 [4])
 .ret)
 .skip))
 (.seq (.seq (.region [RF 0 15 2 2,
 RL 1 16 15,
 RF 2 17 2 3,
 RL 3 18 17,
 rq 4 19 (.bin .neq (.tm 16) (.tm 18))] 5 [2,3,19])
 (.cond (.tm 19)
 (.seq (.region [rq 0 4 (.move (.kv (.bool false)))] 1 [4])
 .ret)
 .skip))
 (.seq (.seq (.region [RF 0 20 3 2,
 RL 1 21 20,
 RF 2 22 3 3,
 RL 3 23 22,
 rq 4 24 (.beq true (.tm 21) (.tm 23))] 5 [24])
 (.cond (.tm 24)
 (.seq (.region [rq 0 4 (.move (.kv (.bool false)))] 1 [4])
 .ret)
 .skip))
 (.seq (.region [rq 0 4 (.move (.kv (.bool true)))] 1 [4])
 .ret))))))
def a6P:List Cert:=[⟨[],[2,3]⟩,⟨[],[2,3,9]⟩,⟨[],[4]⟩,⟨[],[2,3,14]⟩,⟨[],[4]⟩,⟨[],[2,3,19]⟩,⟨[],[4]⟩,⟨[],[24]⟩,⟨[],[4]⟩,⟨[],[4]⟩]
def a3P:List aW:=[.tm 4]
theorem a7E:aO Tryz.prog Tryz.f174 a6P=some (a1S,a3P):=by kernel_rfl
theorem a6H:aN Tryz.prog a0A Tryz.f174 a1S a3P:=
 aN.mk Tryz.func174 (by kernel_rfl) a7E
def a2L:AC:=
 (.seq (.region [rq 0 4 (.move (.kv (.bool false)))] 1 [0,1])
 (.seq (.seq (.region [RM 0 6 0,
 rq 1 7 (.len false (.tm 6)),
 RM 2 8 1,
 rq 3 9 (.len false (.tm 8)),
 rq 4 10 (.bin .neq (.tm 7) (.tm 9))] 5 [0,1,10])
 (.cond (.tm 10)
 (.seq (.region [rq 0 4 (.move (.kv (.bool false)))] 1 [4])
 .ret)
 .skip))
 (.seq (.seq (.region [rq 0 5 (.move (ki 0))] 1 [0,1,5])
 (.block 0
 (.loop
 (.seq (.seq (.region [RM 0 11 5,
 RM 1 12 0,
 rq 2 13 (.len false (.tm 12)),
 rq 3 14 (.bin .lss (.tm 11) (.tm 13))] 4 [0,1,5,14])
 (.cond (.tm 14)
 .skip
 (.exit 0)))
 (.seq (.block 1
 (.seq (.region [RM 0 17 0,
 RM 1 18 5,
 rq 2 19 (.idx 7 (.tm 17) (.tm 18)),
 rq 3 20 (.load 7 true (.tm 19)),
 RM 4 21 1,
 RM 5 22 5,
 rq 6 23 (.idx 7 (.tm 21) (.tm 22)),
 rq 7 24 (.load 7 true (.tm 23)),
 rq 8 25 (.call a1K [(.tm 20),(.tm 24)]),
 rq 9 26 (.un .not (.tm 25))] 10 [0,1,5,26])
 (.cond (.tm 26)
 (.seq (.region [rq 0 4 (.move (.kv (.bool false)))] 1 [4])
 .ret)
 .skip)))
 (.region [RM 0 15 5,
 rq 1 16 (.bin .add (.tm 15) (ki 1)),
 RM 2 5 16] 3 [0,1,5]))))))
 (.seq (.region [rq 0 4 (.move (.kv (.bool true)))] 1 [4])
 .ret))))
def a8C:List Cert:=[⟨[],[0,1]⟩,⟨[],[0,1,10]⟩,⟨[],[4]⟩,⟨[],[0,1,5]⟩,⟨[],[0,1,5,14]⟩,⟨[cz 0,cz 1,cz 2,cz 3,cz 4,cz 5,cz 6,cz 7,cz 8,cz 9],[0,1,5,26]⟩,⟨[],[4]⟩,⟨[],[0,1,5]⟩,⟨[],[4]⟩]
def a4A:List aW:=[.tm 4]
theorem a95:aO Tryz.prog Tryz.f175 a8C=some (a2L,a4A):=by kernel_rfl
theorem a84:aN Tryz.prog a0W Tryz.f175 a2L a4A:=
 aN.mk Tryz.func175 (by kernel_rfl) a95
def a2I:AC:=
 (.seq (.region [rq 0 2 (.box true (.tm 0)),
 rq 1 4 (.move (ki 0))] 2 [1,2])
 (.seq (.region [RF 0 5 1 2,
 RL 1 6 5,
 RM 2 7 1,
 rq 3 8 (.call g7 [(.tm 6),(.tm 7)]),
 RM 4 1 8] 5 [1,2])
 (.seq (.seq (.region [RM 0 9 1,
 rq 1 10 (.bin .lss (.tm 9) (ki 0))] 2 [1,2,10])
 (.cond (.tm 10)
 (.seq (.region [rq 0 4 (.move (.kv (.int .i64 (-1))))] 1 [4])
 .ret)
 .skip))
 (.seq (.region [RF 0 11 2 2,
 RL 1 12 11,
 RM 2 13 1,
 rq 3 14 (.call aZZ [(.tm 12),(.tm 13)]),
 RM 4 1 14] 5 [1])
 (.seq (.seq (.region [RM 0 15 1,
 rq 1 16 (.bin .lss (.tm 15) (ki 0))] 2 [1,16])
 (.cond (.tm 16)
 (.seq (.region [rq 0 4 (.move (.kv (.int .i64 (-1))))] 1 [4])
 .ret)
 .skip))
 (.seq (.region [RM 0 17 1,
 RM 1 4 17] 2 [4])
 .ret))))))
def a8S:List Cert:=[⟨[],[1,2]⟩,⟨[],[1,2]⟩,⟨[],[1,2,10]⟩,⟨[],[4]⟩,⟨[],[1]⟩,⟨[],[1,16]⟩,⟨[],[4]⟩,⟨[],[4]⟩]
def a4C:List aW:=[.tm 4]
theorem a9I:aO Tryz.prog Tryz.f179 a8S=some (a2I,a4C):=by kernel_rfl
theorem a90:aN Tryz.prog a0T Tryz.f179 a2I a4C:=
 aN.mk Tryz.func179 (by kernel_rfl) a9I
def a1V:AC:=
 (.seq (.region [rq 0 2 (.box true (.tm 0)),
 rq 1 4 (.move (ki 0))] 2 [1,2])
 (.seq (.region [RF 0 5 0 2,
 RL 1 6 5,
 RM 2 7 1,
 rq 3 8 (.call aZZ [(.tm 6),(.tm 7)]),
 RM 4 1 8] 5 [1,2])
 (.seq (.seq (.region [RM 0 9 1,
 rq 1 10 (.bin .lss (.tm 9) (ki 0))] 2 [1,2,10])
 (.cond (.tm 10)
 (.seq (.region [rq 0 4 (.move (.kv (.int .i64 (-1))))] 1 [4])
 .ret)
 .skip))
 (.seq (.region [RF 0 11 1 2,
 RL 1 12 11,
 RM 2 13 1,
 rq 3 14 (.call aZS [(.tm 12),(.tm 13)]),
 RM 4 1 14] 5 [1])
 (.seq (.seq (.region [RM 0 15 1,
 rq 1 16 (.bin .lss (.tm 15) (ki 0))] 2 [1,16])
 (.cond (.tm 16)
 (.seq (.region [rq 0 4 (.move (.kv (.int .i64 (-1))))] 1 [4])
 .ret)
 .skip))
 (.seq (.region [RM 0 17 1,
 RM 1 4 17] 2 [4])
 .ret))))))
def a7O:List Cert:=[⟨[],[1,2]⟩,⟨[],[1,2]⟩,⟨[],[1,2,10]⟩,⟨[],[4]⟩,⟨[],[1]⟩,⟨[],[1,16]⟩,⟨[],[4]⟩,⟨[],[4]⟩]
def a30:List aW:=[.tm 4]
theorem a67:aO Tryz.prog Tryz.f180 a7O=some (a1V,a30):=by kernel_rfl
theorem a7J:aN Tryz.prog a0P Tryz.f180 a1V a30:=
 aN.mk Tryz.func180 (by kernel_rfl) a67
def a2A:AC:=
 (.seq (.region [rq 0 1 (.box true (.tm 0)),
 rq 1 2 (.alloc [VZ,OZ,OZ,VZ])] 2 [1,2])
 (.seq (.region [rq 0 3 (.alloc [VZ,OZ,OZ,VZ])] 1 [1,2,3])
 (.seq (.region [RF 0 4 0 1,
 RL 1 5 4,
 RF 2 6 0 3,
 rn 3 (.store 1 false (.tm 6) (.tm 5))] 4 [1,2,3])
 (.seq (.region [RF 0 7 1 1,
 RL 1 8 7,
 rq 2 9 (.call p8 [(.tm 8)]),
 RF 3 10 1 3,
 rn 4 (.store 1 false (.tm 10) (.tm 9))] 5 [1,2,3])
 (.seq (.region [RF 0 11 2 1,
 RL 1 12 11,
 rq 2 13 (.call aZY [(.tm 12)]),
 RF 3 14 2 3,
 rn 4 (.store 1 false (.tm 14) (.tm 13))] 5 [1,2,3])
 (.seq (.region [RF 0 15 3 1,
 RL 1 16 15,
 RF 2 17 3 3,
 rn 3 (.store 1 false (.tm 17) (.tm 16))] 4 [2,3])
 (.seq (.region [rq 0 18 (.load 4 true (.tm 3)),
 rn 1 (.store 4 true (.tm 2) (.tm 18))] 2 [2])
 .ret)))))))
def a9T:List Cert:=[⟨[],[1,2]⟩,⟨[],[1,2,3]⟩,⟨[],[1,2,3]⟩,⟨[],[1,2,3]⟩,⟨[],[1,2,3]⟩,⟨[],[2,3]⟩,⟨[],[2]⟩]
def a4B:List aW:=[.cell 2 4 true]
theorem a9R:aO Tryz.prog Tryz.f188 a9T=some (a2A,a4B):=by kernel_rfl
theorem a8E:aN Tryz.prog a0X Tryz.f188 a2A a4B:=
 aN.mk Tryz.func188 (by kernel_rfl) a9R
def a1R:AC:=
 (.seq (.region [rq 0 1 (.box true (.tm 0)),
 rq 1 2 (.alloc [OZ,OZ,VZ])] 2 [1,2])
 (.seq (.region [rq 0 3 (.alloc [OZ,OZ,VZ])] 1 [1,2,3])
 (.seq (.region [RF 0 4 0 1,
 RL 1 5 4,
 rq 2 6 (.call aZY [(.tm 5)]),
 RF 3 7 0 3,
 rn 4 (.store 1 false (.tm 7) (.tm 6))] 5 [1,2,3])
 (.seq (.region [RF 0 8 1 1,
 RL 1 9 8,
 rq 2 10 (.call aZR [(.tm 9)]),
 RF 3 11 1 3,
 rn 4 (.store 1 false (.tm 11) (.tm 10))] 5 [1,2,3])
 (.seq (.region [RF 0 12 2 1,
 RL 1 13 12,
 RF 2 14 2 3,
 rn 3 (.store 1 false (.tm 14) (.tm 13))] 4 [2,3])
 (.seq (.region [rq 0 15 (.load 3 true (.tm 3)),
 rn 1 (.store 3 true (.tm 2) (.tm 15))] 2 [2])
 .ret))))))
def a7Y:List Cert:=[⟨[],[1,2]⟩,⟨[],[1,2,3]⟩,⟨[],[1,2,3]⟩,⟨[],[1,2,3]⟩,⟨[],[2,3]⟩,⟨[],[2]⟩]
def a36:List aW:=[.cell 2 3 true]
theorem a63:aO Tryz.prog Tryz.f189 a7Y=some (a1R,a36):=by kernel_rfl
theorem a76:aN Tryz.prog a0F Tryz.f189 a1R a36:=
 aN.mk Tryz.func189 (by kernel_rfl) a63
def a2G:AC:=
 (.seq (.region [rq 0 2 (.box true (.tm 0)),
 rq 1 3 (.box true (.tm 1)),
 rq 2 4 (.move (.kv (.bool false)))] 3 [2,3])
 (.seq (.seq (.region [RF 0 5 0 2,
 RL 1 6 5,
 RF 2 7 0 3,
 RL 3 8 7,
 rq 4 9 (.bin .neq (.tm 6) (.tm 8))] 5 [2,3,9])
 (.cond (.tm 9)
 (.seq (.region [rq 0 4 (.move (.kv (.bool false)))] 1 [4])
 .ret)
 .skip))
 (.seq (.seq (.region [RF 0 10 1 2,
 RL 1 11 10,
 RF 2 12 1 3,
 RL 3 13 12,
 rq 4 14 (.call o6 [(.tm 11),(.tm 13)]),
 rq 5 15 (.un .not (.tm 14))] 6 [2,3,15])
 (.cond (.tm 15)
 (.seq (.region [rq 0 4 (.move (.kv (.bool false)))] 1 [4])
 .ret)
 .skip))
 (.seq (.seq (.region [RF 0 16 2 2,
 RL 1 17 16,
 RF 2 18 2 3,
 RL 3 19 18,
 rq 4 20 (.call aZQ [(.tm 17),(.tm 19)]),
 rq 5 21 (.un .not (.tm 20))] 6 [2,3,21])
 (.cond (.tm 21)
 (.seq (.region [rq 0 4 (.move (.kv (.bool false)))] 1 [4])
 .ret)
 .skip))
 (.seq (.seq (.region [RF 0 22 3 2,
 RL 1 23 22,
 RF 2 24 3 3,
 RL 3 25 24,
 rq 4 26 (.bin .neq (.tm 23) (.tm 25))] 5 [26])
 (.cond (.tm 26)
 (.seq (.region [rq 0 4 (.move (.kv (.bool false)))] 1 [4])
 .ret)
 .skip))
 (.seq (.region [rq 0 4 (.move (.kv (.bool true)))] 1 [4])
 .ret))))))
def a9Y:List Cert:=[⟨[],[2,3]⟩,⟨[],[2,3,9]⟩,⟨[],[4]⟩,⟨[],[2,3,15]⟩,⟨[],[4]⟩,⟨[],[2,3,21]⟩,⟨[],[4]⟩,⟨[],[26]⟩,⟨[],[4]⟩,⟨[],[4]⟩]
def a4E:List aW:=[.tm 4]
theorem a9C:aO Tryz.prog Tryz.f205 a9Y=some (a2G,a4E):=by kernel_rfl
theorem a98:aN Tryz.prog a0V Tryz.f205 a2G a4E:=
 aN.mk Tryz.func205 (by kernel_rfl) a9C
def a11:AC:=
 (.seq (.region [rq 0 2 (.box true (.tm 0)),
 rq 1 3 (.box true (.tm 1)),
 rq 2 4 (.move (.kv (.bool false)))] 3 [2,3])
 (.seq (.seq (.region [RF 0 5 0 2,
 RL 1 6 5,
 RF 2 7 0 3,
 RL 3 8 7,
 rq 4 9 (.call aZQ [(.tm 6),(.tm 8)]),
 rq 5 10 (.un .not (.tm 9))] 6 [2,3,10])
 (.cond (.tm 10)
 (.seq (.region [rq 0 4 (.move (.kv (.bool false)))] 1 [4])
 .ret)
 .skip))
 (.seq (.seq (.region [RF 0 11 1 2,
 RL 1 12 11,
 RF 2 13 1 3,
 RL 3 14 13,
 rq 4 15 (.call aZX [(.tm 12),(.tm 14)]),
 rq 5 16 (.un .not (.tm 15))] 6 [2,3,16])
 (.cond (.tm 16)
 (.seq (.region [rq 0 4 (.move (.kv (.bool false)))] 1 [4])
 .ret)
 .skip))
 (.seq (.seq (.region [RF 0 17 2 2,
 RL 1 18 17,
 RF 2 19 2 3,
 RL 3 20 19,
 rq 4 21 (.bin .neq (.tm 18) (.tm 20))] 5 [21])
 (.cond (.tm 21)
 (.seq (.region [rq 0 4 (.move (.kv (.bool false)))] 1 [4])
 .ret)
 .skip))
 (.seq (.region [rq 0 4 (.move (.kv (.bool true)))] 1 [4])
 .ret)))))
def a6M:List Cert:=[⟨[],[2,3]⟩,⟨[],[2,3,10]⟩,⟨[],[4]⟩,⟨[],[2,3,16]⟩,⟨[],[4]⟩,⟨[],[21]⟩,⟨[],[4]⟩,⟨[],[4]⟩]
def a34:List aW:=[.tm 4]
theorem a7T:aO Tryz.prog Tryz.f206 a6M=some (a11,a34):=by kernel_rfl
theorem a7N:aN Tryz.prog a0I Tryz.f206 a11 a34:=
 aN.mk Tryz.func206 (by kernel_rfl) a7T
def a26:AC:=
 (.seq (.region [rq 0 2 (.box true (.tm 0)),
 rq 1 4 (.move (ki 0))] 2 [1,2])
 (.seq (.region [RF 0 5 5 2,
 RL 1 6 5,
 RM 2 7 1,
 rq 3 8 (.call g7 [(.tm 6),(.tm 7)]),
 RM 4 1 8] 5 [1,2])
 (.seq (.seq (.region [RM 0 9 1,
 rq 1 10 (.bin .lss (.tm 9) (ki 0))] 2 [1,2,10])
 (.cond (.tm 10)
 (.seq (.region [rq 0 4 (.move (.kv (.int .i64 (-1))))] 1 [4])
 .ret)
 .skip))
 (.seq (.region [RF 0 11 6 2,
 RL 1 12 11,
 RM 2 13 1,
 rq 3 14 (.call g7 [(.tm 12),(.tm 13)]),
 RM 4 1 14] 5 [1])
 (.seq (.seq (.region [RM 0 15 1,
 rq 1 16 (.bin .lss (.tm 15) (ki 0))] 2 [1,16])
 (.cond (.tm 16)
 (.seq (.region [rq 0 4 (.move (.kv (.int .i64 (-1))))] 1 [4])
 .ret)
 .skip))
 (.seq (.region [RM 0 17 1,
 RM 1 4 17] 2 [4])
 .ret))))))
def ba6:List Cert:=[⟨[],[1,2]⟩,⟨[],[1,2]⟩,⟨[],[1,2,10]⟩,⟨[],[4]⟩,⟨[],[1]⟩,⟨[],[1,16]⟩,⟨[],[4]⟩,⟨[],[4]⟩]
def a4T:List aW:=[.tm 4]
theorem bb8:aO Tryz.prog Tryz.f234 ba6=some (a26,a4T):=by kernel_rfl
theorem baR:aN Tryz.prog a06 Tryz.f234 a26 a4T:=
 aN.mk Tryz.func234 (by kernel_rfl) bb8
def a2U:AC:=
 (.seq (.region [rq 0 2 (.box true (.tm 0)),
 rq 1 4 (.move (ki 0))] 2 [1,2])
 (.seq (.region [RF 0 5 2 2,
 RL 1 6 5,
 RM 2 7 1,
 rq 3 8 (.call g7 [(.tm 6),(.tm 7)]),
 RM 4 1 8] 5 [1])
 (.seq (.seq (.region [RM 0 9 1,
 rq 1 10 (.bin .lss (.tm 9) (ki 0))] 2 [1,10])
 (.cond (.tm 10)
 (.seq (.region [rq 0 4 (.move (.kv (.int .i64 (-1))))] 1 [4])
 .ret)
 .skip))
 (.seq (.region [RM 0 11 1,
 RM 1 4 11] 2 [4])
 .ret))))
def bbU:List Cert:=[⟨[],[1,2]⟩,⟨[],[1]⟩,⟨[],[1,10]⟩,⟨[],[4]⟩,⟨[],[4]⟩]
def a4P:List aW:=[.tm 4]
theorem baY:aO Tryz.prog Tryz.f235 bbU=some (a2U,a4P):=by kernel_rfl
theorem baH:aN Tryz.prog a1F Tryz.f235 a2U a4P:=
 aN.mk Tryz.func235 (by kernel_rfl) baY
def a2T:AC:=
 (.seq (.region [rq 0 1 (.box true (.tm 0)),
 rq 1 2 (.alloc [VZ,VZ,VZ,VZ,(.v (.bool false)),OZ,OZ])] 2 [1,2])
 (.seq (.region [rq 0 3 (.alloc [VZ,VZ,VZ,VZ,(.v (.bool false)),OZ,OZ])] 1 [1,2,3])
 (.seq (.region [RF 0 4 0 1,
 RL 1 5 4,
 RF 2 6 0 3,
 rn 3 (.store 1 false (.tm 6) (.tm 5))] 4 [1,2,3])
 (.seq (.region [RF 0 7 1 1,
 RL 1 8 7,
 RF 2 9 1 3,
 rn 3 (.store 1 false (.tm 9) (.tm 8))] 4 [1,2,3])
 (.seq (.region [RF 0 10 2 1,
 RL 1 11 10,
 RF 2 12 2 3,
 rn 3 (.store 1 false (.tm 12) (.tm 11))] 4 [1,2,3])
 (.seq (.region [RF 0 13 3 1,
 RL 1 14 13,
 RF 2 15 3 3,
 rn 3 (.store 1 false (.tm 15) (.tm 14))] 4 [1,2,3])
 (.seq (.region [RF 0 16 4 1,
 RL 1 17 16,
 RF 2 18 4 3,
 rn 3 (.store 1 false (.tm 18) (.tm 17))] 4 [1,2,3])
 (.seq (.region [RF 0 19 5 1,
 RL 1 20 19,
 rq 2 21 (.call p8 [(.tm 20)]),
 RF 3 22 5 3,
 rn 4 (.store 1 false (.tm 22) (.tm 21))] 5 [1,2,3])
 (.seq (.region [RF 0 23 6 1,
 RL 1 24 23,
 rq 2 25 (.call p8 [(.tm 24)]),
 RF 3 26 6 3,
 rn 4 (.store 1 false (.tm 26) (.tm 25))] 5 [2,3])
 (.seq (.region [rq 0 27 (.load 7 true (.tm 3)),
 rn 1 (.store 7 true (.tm 2) (.tm 27))] 2 [2])
 .ret))))))))))
def baF:List Cert:=[⟨[],[1,2]⟩,⟨[],[1,2,3]⟩,⟨[],[1,2,3]⟩,⟨[],[1,2,3]⟩,⟨[],[1,2,3]⟩,⟨[],[1,2,3]⟩,⟨[],[1,2,3]⟩,⟨[],[1,2,3]⟩,⟨[],[2,3]⟩,⟨[],[2]⟩]
def a4V:List aW:=[.cell 2 7 true]
theorem bbL:aO Tryz.prog Tryz.f245 baF=some (a2T,a4V):=by kernel_rfl
theorem baW:aN Tryz.prog a1D Tryz.f245 a2T a4V:=
 aN.mk Tryz.func245 (by kernel_rfl) bbL
def a25:AC:=
 (.seq (.region [rq 0 1 (.box true (.tm 0)),
 rq 1 2 (.alloc [VZ,VZ,OZ])] 2 [1,2])
 (.seq (.region [rq 0 3 (.alloc [VZ,VZ,OZ])] 1 [1,2,3])
 (.seq (.region [RF 0 4 0 1,
 RL 1 5 4,
 RF 2 6 0 3,
 rn 3 (.store 1 false (.tm 6) (.tm 5))] 4 [1,2,3])
 (.seq (.region [RF 0 7 1 1,
 RL 1 8 7,
 RF 2 9 1 3,
 rn 3 (.store 1 false (.tm 9) (.tm 8))] 4 [1,2,3])
 (.seq (.region [RF 0 10 2 1,
 RL 1 11 10,
 rq 2 12 (.call p8 [(.tm 11)]),
 RF 3 13 2 3,
 rn 4 (.store 1 false (.tm 13) (.tm 12))] 5 [2,3])
 (.seq (.region [rq 0 14 (.load 3 true (.tm 3)),
 rn 1 (.store 3 true (.tm 2) (.tm 14))] 2 [2])
 .ret))))))
def baC:List Cert:=[⟨[],[1,2]⟩,⟨[],[1,2,3]⟩,⟨[],[1,2,3]⟩,⟨[],[1,2,3]⟩,⟨[],[2,3]⟩,⟨[],[2]⟩]
def a4Z:List aW:=[.cell 2 3 true]
theorem bbM:aO Tryz.prog Tryz.f246 baC=some (a25,a4Z):=by kernel_rfl
theorem bbA:aN Tryz.prog a05 Tryz.f246 a25 a4Z:=
 aN.mk Tryz.func246 (by kernel_rfl) bbM
def a2X:AC:=
 (.seq (.region [rq 0 2 (.box true (.tm 0)),
 rq 1 3 (.box true (.tm 1)),
 rq 2 4 (.move (.kv (.bool false)))] 3 [2,3])
 (.seq (.seq (.region [RF 0 5 0 2,
 RL 1 6 5,
 RF 2 7 0 3,
 RL 3 8 7,
 rq 4 9 (.bin .neq (.tm 6) (.tm 8))] 5 [2,3,9])
 (.cond (.tm 9)
 (.seq (.region [rq 0 4 (.move (.kv (.bool false)))] 1 [4])
 .ret)
 .skip))
 (.seq (.seq (.region [RF 0 10 1 2,
 RL 1 11 10,
 RF 2 12 1 3,
 RL 3 13 12,
 rq 4 14 (.bin .neq (.tm 11) (.tm 13))] 5 [2,3,14])
 (.cond (.tm 14)
 (.seq (.region [rq 0 4 (.move (.kv (.bool false)))] 1 [4])
 .ret)
 .skip))
 (.seq (.seq (.region [RF 0 15 2 2,
 RL 1 16 15,
 RF 2 17 2 3,
 RL 3 18 17,
 rq 4 19 (.call o6 [(.tm 16),(.tm 18)]),
 rq 5 20 (.un .not (.tm 19))] 6 [20])
 (.cond (.tm 20)
 (.seq (.region [rq 0 4 (.move (.kv (.bool false)))] 1 [4])
 .ret)
 .skip))
 (.seq (.region [rq 0 4 (.move (.kv (.bool true)))] 1 [4])
 .ret)))))
def baM:List Cert:=[⟨[],[2,3]⟩,⟨[],[2,3,9]⟩,⟨[],[4]⟩,⟨[],[2,3,14]⟩,⟨[],[4]⟩,⟨[],[20]⟩,⟨[],[4]⟩,⟨[],[4]⟩]
def a4S:List aW:=[.tm 4]
theorem bbE:aO Tryz.prog Tryz.f259 baM=some (a2X,a4S):=by kernel_rfl
theorem baI:aN Tryz.prog a1E Tryz.f259 a2X a4S:=
 aN.mk Tryz.func259 (by kernel_rfl) bbE
def a27:AC:=
 (.seq (.region [rq 0 2 (.box true (.tm 0)),
 rq 1 3 (.box true (.tm 1)),
 rq 2 4 (.move (.kv (.bool false)))] 3 [2,3])
 (.seq (.seq (.region [RF 0 5 0 2,
 RL 1 6 5,
 RF 2 7 0 3,
 RL 3 8 7,
 rq 4 9 (.bin .neq (.tm 6) (.tm 8))] 5 [2,3,9])
 (.cond (.tm 9)
 (.seq (.region [rq 0 4 (.move (.kv (.bool false)))] 1 [4])
 .ret)
 .skip))
 (.seq (.seq (.region [RF 0 10 1 2,
 RL 1 11 10,
 RF 2 12 1 3,
 RL 3 13 12,
 rq 4 14 (.bin .neq (.tm 11) (.tm 13))] 5 [2,3,14])
 (.cond (.tm 14)
 (.seq (.region [rq 0 4 (.move (.kv (.bool false)))] 1 [4])
 .ret)
 .skip))
 (.seq (.seq (.region [RF 0 15 2 2,
 RL 1 16 15,
 RF 2 17 2 3,
 RL 3 18 17,
 rq 4 19 (.bin .neq (.tm 16) (.tm 18))] 5 [2,3,19])
 (.cond (.tm 19)
 (.seq (.region [rq 0 4 (.move (.kv (.bool false)))] 1 [4])
 .ret)
 .skip))
 (.seq (.seq (.region [RF 0 20 3 2,
 RL 1 21 20,
 RF 2 22 3 3,
 RL 3 23 22,
 rq 4 24 (.bin .neq (.tm 21) (.tm 23))] 5 [2,3,24])
 (.cond (.tm 24)
 (.seq (.region [rq 0 4 (.move (.kv (.bool false)))] 1 [4])
 .ret)
 .skip))
 (.seq (.seq (.region [RF 0 25 4 2,
 RL 1 26 25,
 RF 2 27 4 3,
 RL 3 28 27,
 rq 4 29 (.beq true (.tm 26) (.tm 28))] 5 [2,3,29])
 (.cond (.tm 29)
 (.seq (.region [rq 0 4 (.move (.kv (.bool false)))] 1 [4])
 .ret)
 .skip))
 (.seq (.seq (.region [RF 0 30 5 2,
 RL 1 31 30,
 RF 2 32 5 3,
 RL 3 33 32,
 rq 4 34 (.call o6 [(.tm 31),(.tm 33)]),
 rq 5 35 (.un .not (.tm 34))] 6 [2,3,35])
 (.cond (.tm 35)
 (.seq (.region [rq 0 4 (.move (.kv (.bool false)))] 1 [4])
 .ret)
 .skip))
 (.seq (.seq (.region [RF 0 36 6 2,
 RL 1 37 36,
 RF 2 38 6 3,
 RL 3 39 38,
 rq 4 40 (.call o6 [(.tm 37),(.tm 39)]),
 rq 5 41 (.un .not (.tm 40))] 6 [41])
 (.cond (.tm 41)
 (.seq (.region [rq 0 4 (.move (.kv (.bool false)))] 1 [4])
 .ret)
 .skip))
 (.seq (.region [rq 0 4 (.move (.kv (.bool true)))] 1 [4])
 .ret)))))))))
def baU:List Cert:=[⟨[],[2,3]⟩,⟨[],[2,3,9]⟩,⟨[],[4]⟩,⟨[],[2,3,14]⟩,⟨[],[4]⟩,⟨[],[2,3,19]⟩,⟨[],[4]⟩,⟨[],[2,3,24]⟩,⟨[],[4]⟩,⟨[],[2,3,29]⟩,⟨[],[4]⟩,⟨[],[2,3,35]⟩,⟨[],[4]⟩,⟨[],[41]⟩,⟨[],[4]⟩,⟨[],[4]⟩]
def a5A:List aW:=[.tm 4]
theorem bbD:aO Tryz.prog Tryz.f260 baU=some (a27,a5A):=by kernel_rfl
theorem baO:aN Tryz.prog a1K Tryz.f260 a27 a5A:=
 aN.mk Tryz.func260 (by kernel_rfl) bbD
def a2N:AC:=
 (.seq (.region [rq 0 4 (.move (ki 0))] 1 [0,1])
 (.seq (.region [RM 0 5 1,
 RM 1 6 0,
 rq 2 7 (.len false (.tm 6)),
 rq 3 8 (.bin .sub (.tm 5) (.tm 7)),
 RM 4 1 8] 5 [1])
 (.seq (.seq (.region [RM 0 9 1,
 rq 1 10 (.bin .lss (.tm 9) (ki 0))] 2 [1,10])
 (.cond (.tm 10)
 (.seq (.region [rq 0 4 (.move (.kv (.int .i64 (-1))))] 1 [4])
 .ret)
 .skip))
 (.seq (.region [RM 0 11 1,
 RM 1 4 11] 2 [4])
 .ret))))
def a88:List Cert:=[⟨[],[0,1]⟩,⟨[],[1]⟩,⟨[],[1,10]⟩,⟨[],[4]⟩,⟨[],[4]⟩]
def a4I:List aW:=[.tm 4]
theorem a9M:aO Tryz.prog Tryz.f261 a88=some (a2N,a4I):=by kernel_rfl
theorem a8T:aN Tryz.prog aZZ Tryz.f261 a2N a4I:=
 aN.mk Tryz.func261 (by kernel_rfl) a9M
def a2E:AC:=
 (.seq (.region [rq 0 2 (.move (.kv (.slice none 0 0)))] 1 [0])
 (.seq (.region [RM 0 5 0,
 rq 1 6 (.len false (.tm 5)),
 rq 2 7 (.kY 3 [VZ,VZ,VZ] (.tm 6) (.tm 6)),
 RM 3 3 7] 4 [0,3])
 (.seq (.seq (.region [rq 0 4 (.move (ki 0))] 1 [0,3,4])
 (.block 0
 (.loop
 (.seq (.seq (.region [RM 0 8 4,
 RM 1 9 0,
 rq 2 10 (.len false (.tm 9)),
 rq 3 11 (.bin .lss (.tm 8) (.tm 10))] 4 [0,3,4,11])
 (.cond (.tm 11)
 .skip
 (.exit 0)))
 (.seq (.block 1
 (.region [RM 0 14 3,
 RM 1 15 4,
 RM 2 16 0,
 RM 3 17 4,
 rq 4 18 (.idx 3 (.tm 16) (.tm 17)),
 rq 5 19 (.load 3 true (.tm 18)),
 rq 6 20 (.call a08 [(.tm 19)]),
 rq 7 21 (.idx 3 (.tm 14) (.tm 15)),
 rn 8 (.store 3 true (.tm 21) (.tm 20))] 9 [0,3,4]))
 (.region [RM 0 12 4,
 rq 1 13 (.bin .add (.tm 12) (ki 1)),
 RM 2 4 13] 3 [0,3,4]))))))
 (.seq (.region [RM 0 22 3,
 RM 1 2 22] 2 [2])
 .ret))))
def a8B:List Cert:=[⟨[],[0]⟩,⟨[],[0,3]⟩,⟨[],[0,3,4]⟩,⟨[],[0,3,4,11]⟩,⟨[],[0,3,4]⟩,⟨[],[0,3,4]⟩,⟨[],[2]⟩]
def a4J:List aW:=[.tm 2]
theorem a96:aO Tryz.prog Tryz.f263 a8B=some (a2E,a4J):=by kernel_rfl
theorem a8D:aN Tryz.prog aZY Tryz.f263 a2E a4J:=
 aN.mk Tryz.func263 (by kernel_rfl) a96
def a2M:AC:=
 (.seq (.region [rq 0 4 (.move (.kv (.bool false)))] 1 [0,1])
 (.seq (.seq (.region [RM 0 6 0,
 rq 1 7 (.len false (.tm 6)),
 RM 2 8 1,
 rq 3 9 (.len false (.tm 8)),
 rq 4 10 (.bin .neq (.tm 7) (.tm 9))] 5 [0,1,10])
 (.cond (.tm 10)
 (.seq (.region [rq 0 4 (.move (.kv (.bool false)))] 1 [4])
 .ret)
 .skip))
 (.seq (.seq (.region [rq 0 5 (.move (ki 0))] 1 [0,1,5])
 (.block 0
 (.loop
 (.seq (.seq (.region [RM 0 11 5,
 RM 1 12 0,
 rq 2 13 (.len false (.tm 12)),
 rq 3 14 (.bin .lss (.tm 11) (.tm 13))] 4 [0,1,5,14])
 (.cond (.tm 14)
 .skip
 (.exit 0)))
 (.seq (.block 1
 (.seq (.region [RM 0 17 0,
 RM 1 18 5,
 rq 2 19 (.idx 3 (.tm 17) (.tm 18)),
 rq 3 20 (.load 3 true (.tm 19)),
 RM 4 21 1,
 RM 5 22 5,
 rq 6 23 (.idx 3 (.tm 21) (.tm 22)),
 rq 7 24 (.load 3 true (.tm 23)),
 rq 8 25 (.call a1C [(.tm 20),(.tm 24)]),
 rq 9 26 (.un .not (.tm 25))] 10 [0,1,5,26])
 (.cond (.tm 26)
 (.seq (.region [rq 0 4 (.move (.kv (.bool false)))] 1 [4])
 .ret)
 .skip)))
 (.region [RM 0 15 5,
 rq 1 16 (.bin .add (.tm 15) (ki 1)),
 RM 2 5 16] 3 [0,1,5]))))))
 (.seq (.region [rq 0 4 (.move (.kv (.bool true)))] 1 [4])
 .ret))))
def a9B:List Cert:=[⟨[],[0,1]⟩,⟨[],[0,1,10]⟩,⟨[],[4]⟩,⟨[],[0,1,5]⟩,⟨[],[0,1,5,14]⟩,⟨[cz 0,cz 1,cz 2,cz 3,cz 4,cz 5,cz 6,cz 7,cz 8,cz 9],[0,1,5,26]⟩,⟨[],[4]⟩,⟨[],[0,1,5]⟩,⟨[],[4]⟩]
def a4G:List aW:=[.tm 4]
theorem a91:aO Tryz.prog Tryz.f269 a9B=some (a2M,a4G):=by kernel_rfl
theorem a89:aN Tryz.prog aZQ Tryz.f269 a2M a4G:=
 aN.mk Tryz.func269 (by kernel_rfl) a91
def a21:AC:=
 (.seq (.region [rq 0 1 (.box true (.tm 0)),
 rq 1 2 (.alloc [VZ,VZ,VZ])] 2 [1,2])
 (.seq (.region [rq 0 3 (.alloc [VZ,VZ,VZ])] 1 [1,2,3])
 (.seq (.region [RF 0 4 0 1,
 RL 1 5 4,
 RF 2 6 0 3,
 rn 3 (.store 1 false (.tm 6) (.tm 5))] 4 [1,2,3])
 (.seq (.region [RF 0 7 1 1,
 RL 1 8 7,
 RF 2 9 1 3,
 rn 3 (.store 1 false (.tm 9) (.tm 8))] 4 [1,2,3])
 (.seq (.region [RF 0 10 2 1,
 RL 1 11 10,
 RF 2 12 2 3,
 rn 3 (.store 1 false (.tm 12) (.tm 11))] 4 [2,3])
 (.seq (.region [rq 0 13 (.load 3 true (.tm 3)),
 rn 1 (.store 3 true (.tm 2) (.tm 13))] 2 [2])
 .ret))))))
def bbJ:List Cert:=[⟨[],[1,2]⟩,⟨[],[1,2,3]⟩,⟨[],[1,2,3]⟩,⟨[],[1,2,3]⟩,⟨[],[2,3]⟩,⟨[],[2]⟩]
def a5C:List aW:=[.cell 2 3 true]
theorem bb5:aO Tryz.prog Tryz.f304 bbJ=some (a21,a5C):=by kernel_rfl
theorem baL:aN Tryz.prog a08 Tryz.f304 a21 a5C:=
 aN.mk Tryz.func304 (by kernel_rfl) bb5
def a2Q:AC:=
 (.seq (.region [rq 0 2 (.box true (.tm 0)),
 rq 1 3 (.box true (.tm 1)),
 rq 2 4 (.move (.kv (.bool false)))] 3 [2,3])
 (.seq (.seq (.region [RF 0 5 0 2,
 RL 1 6 5,
 RF 2 7 0 3,
 RL 3 8 7,
 rq 4 9 (.bin .neq (.tm 6) (.tm 8))] 5 [2,3,9])
 (.cond (.tm 9)
 (.seq (.region [rq 0 4 (.move (.kv (.bool false)))] 1 [4])
 .ret)
 .skip))
 (.seq (.seq (.region [RF 0 10 1 2,
 RL 1 11 10,
 RF 2 12 1 3,
 RL 3 13 12,
 rq 4 14 (.bin .neq (.tm 11) (.tm 13))] 5 [2,3,14])
 (.cond (.tm 14)
 (.seq (.region [rq 0 4 (.move (.kv (.bool false)))] 1 [4])
 .ret)
 .skip))
 (.seq (.seq (.region [RF 0 15 2 2,
 RL 1 16 15,
 RF 2 17 2 3,
 RL 3 18 17,
 rq 4 19 (.bin .neq (.tm 16) (.tm 18))] 5 [19])
 (.cond (.tm 19)
 (.seq (.region [rq 0 4 (.move (.kv (.bool false)))] 1 [4])
 .ret)
 .skip))
 (.seq (.region [rq 0 4 (.move (.kv (.bool true)))] 1 [4])
 .ret)))))
def bbO:List Cert:=[⟨[],[2,3]⟩,⟨[],[2,3,9]⟩,⟨[],[4]⟩,⟨[],[2,3,14]⟩,⟨[],[4]⟩,⟨[],[19]⟩,⟨[],[4]⟩,⟨[],[4]⟩]
def a46:List aW:=[.tm 4]
theorem bb3:aO Tryz.prog Tryz.f305 bbO=some (a2Q,a46):=by kernel_rfl
theorem baE:aN Tryz.prog a1C Tryz.f305 a2Q a46:=
 aN.mk Tryz.func305 (by kernel_rfl) bb3
end Go.Proofs.YtmccpdapaccnoaaGreat
