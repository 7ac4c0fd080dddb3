/- The code of the functions with types resolved, checked against the program. Printed by a program (gen.py). -/
import Derived.Test.YtiimjokpcbapeaaGreatAcN
namespace Go.Proofs.YtiimjokpcbapeaaGreat
open Go Go.AM
set_option maxRecDepth 100000

/- loop.example/crossyard/laws.FnTlmEnd -/
def ac_laws_FnTlmEnd : AC :=
 (.seq (.region [rq 0 2 (.move (.kv (.bool false)))] 1 [0])
 (.seq (.seq (.region [rq 0 14 (.move (.tm 0)),
 rq 1 15 (.len false (.tm 14)),
 rq 2 16 (.bin .gtr (.tm 15) (ki 1048576))] 3 [0, 16])
 (.cond (.tm 16)
 (.seq (.region [rq 0 2 (.move (.kv (.bool true)))] 1 [2])
 .ret)
 .skip))
 (.seq (.region [rq 0 18 (.move (.tm 0)),
 rq 1 19 (.call n_spec_DrawTlmPlay [(.tm 18)]),
 rq 2 17 (.move (.tm 19)),
 rq 3 20 (.ext (.tm 17) 0),
 rq 4 21 (.ext (.tm 17) 1),
 rq 5 3 (.alloc [(.osl 0 0 0 0 0), (.osl 0 0 0 0 0), (.osl 0 0 0 0 0)]),
 rn 6 (.store 3 true (.tm 3) (.tm 20)),
 rq 7 4 (.move (.tm 21))] 8 [3, 4])
 (.seq (.region [⟨0, (some 23), .load 3 true (.tm 3), none, [7], [], true⟩,
 rq 2 25 (.move (.tm 4)),
 rq 7 5 (.alloc [(.osl 0 0 0 0 0), (.osl 0 0 0 0 0), (.osl 0 0 0 0 0), (.osl 0 0 0 0 0), (.osl 0 0 0 0 0), (.osl 0 0 0 0 0)]),
 ⟨1, (some 24), .call n_impl_TlmNew [], none, [7], [0], false⟩,
 ⟨3, (some 26), .call n_impl_TlmRun [(.tm 23), (.tm 24), (.tm 25)], none, [7], [], false⟩,
 rq 4 22 (.move (.tm 26)),
 rq 5 27 (.ext (.tm 22) 0),
 rq 6 28 (.ext (.tm 22) 1),
 rn 8 (.store 6 true (.tm 5) (.tm 27)),
 rq 9 6 (.move (.tm 28))] 10 [3, 4, 5, 6])
 (.seq (.seq (.region [rq 0 29 (.move (.tm 6)),
 rq 1 30 (.move (.tm 4)),
 rq 2 31 (.len false (.tm 30)),
 rq 3 32 (.bin .neq (.tm 29) (.tm 31))] 4 [3, 5, 32])
 (.cond (.tm 32)
 (.seq (.region [rq 0 2 (.move (.kv (.bool false)))] 1 [2])
 .ret)
 .skip))
 (.seq (.seq (.region [rq 0 7 (.move (ki 0))] 1 [3, 5, 7])
 (.block 0
 (.loop
 (.seq (.seq (.region [rq 0 33 (.move (.tm 7)),
 rq 1 34 (.bin .lss (.tm 33) (ki 72)),
 rq 2 35 (.move (.tm 34)),
 ⟨3, (some 36), .fld 3 (.tm 5), (some (35, true)), [], [], false⟩,
 ⟨4, (some 37), .load 1 false (.tm 36), (some (35, true)), [], [], false⟩,
 ⟨5, (some 38), .len false (.tm 37), (some (35, true)), [], [], false⟩,
 ⟨6, (some 39), .fld 4 (.tm 5), (some (35, true)), [], [], false⟩,
 ⟨7, (some 40), .load 1 false (.tm 39), (some (35, true)), [], [], false⟩,
 ⟨8, (some 41), .len false (.tm 40), (some (35, true)), [], [], false⟩,
 ⟨9, (some 42), .bin .add (.tm 38) (.tm 41), (some (35, true)), [], [], false⟩,
 ⟨10, (some 43), .bin .gtr (.tm 42) (ki 0), (some (35, true)), [], [], false⟩,
 rq 11 44 (.pick (.tm 35) (.tm 43) (.kv (.bool false)))] 12 [3, 5, 7, 44])
 (.cond (.tm 44)
 .skip
 (.exit 0)))
 (.seq (.block 1
 (.seq (.region [rq 0 8 (.move (.kv (.bool false)))] 1 [3, 5, 7, 8])
 (.seq (.region [rq 0 47 (.bslice 5 0 [(.v (.int .i64 0)), (.v (.int .i64 0)), (.v (.int .i64 0)), (.v (.int .i64 0)), (.osl 0 0 0 0 0)] []),
 rq 1 48 (.fld 3 (.tm 5)),
 ⟨2, (some 49), .load 1 false (.tm 48), none, [0], [], false⟩,
 rq 4 51 (.fld 4 (.tm 5)),
 ⟨5, (some 52), .load 1 false (.tm 51), none, [0], [], true⟩,
 ⟨3, (some 50), .append 5 (.tm 47) (.tm 49), none, [], [5], false⟩,
 rq 6 53 (.append 5 (.tm 50) (.tm 52)),
 rq 7 9 (.move (.tm 53))] 8 [3, 5, 7, 8, 9])
 (.seq (.seq (.region [rq 0 10 (.move (ki 0))] 1 [3, 5, 7, 8, 9, 10])
 (.block 2
 (.loop
 (.seq (.seq (.region [rq 0 54 (.move (.tm 10)),
 rq 1 55 (.move (.tm 9)),
 rq 2 56 (.len false (.tm 55)),
 rq 3 57 (.bin .lss (.tm 54) (.tm 56)),
 rq 4 58 (.move (.tm 57)),
 ⟨5, (some 59), .move (.tm 8), (some (58, true)), [], [], false⟩,
 ⟨6, (some 60), .un .not (.tm 59), (some (58, true)), [], [], false⟩,
 rq 7 61 (.pick (.tm 58) (.tm 60) (.kv (.bool false)))] 8 [3, 5, 7, 8, 9, 10, 61])
 (.cond (.tm 61)
 .skip
 (.exit 2)))
 (.seq (.block 3
 (.seq (.region [rq 0 11 (.move (ki 2))] 1 [3, 5, 7, 8, 9, 10, 11])
 (.block 4
 (.loop
 (.seq (.seq (.region [rq 0 64 (.move (.tm 11)),
 rq 1 65 (.bin .leq (.tm 64) (ki 3)),
 rq 2 66 (.move (.tm 65)),
 ⟨3, (some 67), .move (.tm 8), (some (66, true)), [], [], false⟩,
 ⟨4, (some 68), .un .not (.tm 67), (some (66, true)), [], [], false⟩,
 rq 5 69 (.pick (.tm 66) (.tm 68) (.kv (.bool false)))] 6 [3, 5, 7, 8, 9, 10, 11, 69])
 (.cond (.tm 69)
 .skip
 (.exit 4)))
 (.seq (.block 5
 (.seq (.region [⟨0, (some 73), .load 3 true (.tm 3), none, [18], [], false⟩,
 ⟨1, (some 74), .load 6 true (.tm 5), none, [18], [], false⟩,
 rq 2 75 (.move (.tm 11)),
 rq 3 76 (.move (.tm 9)),
 rq 4 77 (.move (.tm 10)),
 rq 5 78 (.idx 5 (.tm 76) (.tm 77)),
 rq 6 79 (.fld 0 (.tm 78)),
 ⟨7, (some 80), .load 1 false (.tm 79), none, [18], [], false⟩,
 rq 8 81 (.move (.tm 9)),
 rq 9 82 (.move (.tm 10)),
 rq 10 83 (.idx 5 (.tm 81) (.tm 82)),
 rq 11 84 (.fld 1 (.tm 83)),
 ⟨12, (some 85), .load 1 false (.tm 84), none, [18], [], false⟩,
 rq 13 86 (.build [(.v (.int .i64 0)), (.v (.int .i64 0)), (.v (.int .i64 0))] [(0, 1, (.tm 75)), (1, 1, (.tm 80)), (2, 1, (.tm 85))]),
 rq 18 12 (.alloc [(.osl 0 0 0 0 0), (.osl 0 0 0 0 0), (.osl 0 0 0 0 0), (.osl 0 0 0 0 0), (.osl 0 0 0 0 0), (.osl 0 0 0 0 0)]),
 ⟨14, (some 87), .call n_impl_TlmStep [(.tm 73), (.tm 74), (.tm 86)], none, [18], [], false⟩,
 rq 15 72 (.move (.tm 87)),
 rq 16 88 (.ext (.tm 72) 0),
 rq 17 89 (.ext (.tm 72) 1),
 rn 19 (.store 6 true (.tm 12) (.tm 88)),
 rq 20 13 (.move (.tm 89))] 21 [3, 5, 7, 8, 9, 10, 11, 12, 13])
 (.seq (.region [rq 0 90 (.move (.tm 13))] 1 [3, 5, 7, 8, 9, 10, 11, 12, 90])
 (.cond (.tm 90)
 (.seq (.region [rq 0 91 (.load 6 true (.tm 12)),
 rn 1 (.store 6 true (.tm 5) (.tm 91))] 2 [3, 5, 7, 9, 10, 11])
 (.region [rq 0 8 (.move (.kv (.bool true)))] 1 [3, 5, 7, 8, 9, 10, 11]))
 .skip))))
 (.region [rq 0 70 (.move (.tm 11)),
 rq 1 71 (.bin .add (.tm 70) (ki 1)),
 rq 2 11 (.move (.tm 71))] 3 [3, 5, 7, 8, 9, 10, 11])))))))
 (.region [rq 0 62 (.move (.tm 10)),
 rq 1 63 (.bin .add (.tm 62) (ki 1)),
 rq 2 10 (.move (.tm 63))] 3 [3, 5, 7, 8, 9, 10]))))))
 (.seq (.region [rq 0 92 (.move (.tm 8)),
 rq 1 93 (.un .not (.tm 92))] 2 [3, 5, 7, 93])
 (.cond (.tm 93)
 (.seq (.region [rq 0 2 (.move (.kv (.bool false)))] 1 [2])
 .ret)
 .skip))))))
 (.region [rq 0 45 (.move (.tm 7)),
 rq 1 46 (.bin .add (.tm 45) (ki 1)),
 rq 2 7 (.move (.tm 46))] 3 [3, 5, 7]))))))
 (.seq (.region [rq 0 94 (.fld 3 (.tm 5)),
 rq 1 95 (.load 1 false (.tm 94)),
 rq 2 96 (.len false (.tm 95)),
 rq 3 97 (.fld 4 (.tm 5)),
 rq 4 98 (.load 1 false (.tm 97)),
 rq 5 99 (.len false (.tm 98)),
 rq 6 100 (.bin .add (.tm 96) (.tm 99)),
 rq 7 101 (.bin .eql (.tm 100) (ki 0)),
 rq 8 102 (.move (.tm 101)),
 ⟨9, (some 103), .call n_laws_crOk [], (some (102, true)), [], [], false⟩,
 rq 10 104 (.pick (.tm 102) (.tm 103) (.kv (.bool false))),
 rq 11 2 (.move (.tm 104))] 12 [2])
 .ret)))))))
def ct_laws_FnTlmEnd : List Cert := [⟨[], [0]⟩, ⟨[], [0, 16]⟩, ⟨[], [2]⟩, ⟨[], [3, 4]⟩, ⟨[(0, [7], [], true), cz 2, cz 7, (1, [7], [0], false), (3, [7], [], false), cz 4, cz 5, cz 6, cz 8, cz 9], [3, 4, 5, 6]⟩, ⟨[], [3, 5, 32]⟩, ⟨[], [2]⟩, ⟨[], [3, 5, 7]⟩, ⟨[], [3, 5, 7, 44]⟩, ⟨[], [3, 5, 7, 8]⟩, ⟨[cz 0, cz 1, (2, [0], [], false), cz 4, (5, [0], [], true), (3, [], [5], false), cz 6, cz 7], [3, 5, 7, 8, 9]⟩, ⟨[], [3, 5, 7, 8, 9, 10]⟩, ⟨[], [3, 5, 7, 8, 9, 10, 61]⟩, ⟨[], [3, 5, 7, 8, 9, 10, 11]⟩, ⟨[], [3, 5, 7, 8, 9, 10, 11, 69]⟩, ⟨[(0, [18], [], false), (1, [18], [], false), cz 2, cz 3, cz 4, cz 5, cz 6, (7, [18], [], false), cz 8, cz 9, cz 10, cz 11, (12, [18], [], false), cz 13, cz 18, (14, [18], [], false), cz 15, cz 16, cz 17, cz 19, cz 20], [3, 5, 7, 8, 9, 10, 11, 12, 13]⟩, ⟨[], [3, 5, 7, 8, 9, 10, 11, 12, 90]⟩, ⟨[], [3, 5, 7, 9, 10, 11]⟩, ⟨[], [3, 5, 7, 8, 9, 10, 11]⟩, ⟨[], [3, 5, 7, 8, 9, 10, 11]⟩, ⟨[], [3, 5, 7, 8, 9, 10]⟩, ⟨[], [3, 5, 7, 93]⟩, ⟨[], [2]⟩, ⟨[], [3, 5, 7]⟩, ⟨[], [2]⟩]
def rs_laws_FnTlmEnd : List ResV := [.tm 2]
theorem ok_laws_FnTlmEnd : compF Tryz.prog Tryz.f5 ct_laws_FnTlmEnd = some (ac_laws_FnTlmEnd, rs_laws_FnTlmEnd) := by kernel_rfl
theorem en_laws_FnTlmEnd : EnTy Tryz.prog n_laws_FnTlmEnd Tryz.f5 ac_laws_FnTlmEnd rs_laws_FnTlmEnd :=
  EnTy.mk Tryz.func5 (by kernel_rfl) ok_laws_FnTlmEnd

end Go.Proofs.YtiimjokpcbapeaaGreat
