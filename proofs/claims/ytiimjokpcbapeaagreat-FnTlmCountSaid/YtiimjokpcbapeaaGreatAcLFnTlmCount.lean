/- The code of the functions with types resolved, checked against the program. Printed by a program (gen.py). -/
import Derived.Test.YtiimjokpcbapeaaGreatAcN
namespace Go.Proofs.YtiimjokpcbapeaaGreat
open Go Go.AM
set_option maxRecDepth 100000

/- loop.example/crossyard/laws.FnTlmCount -/
def ac_laws_FnTlmCount : AC :=
 (.seq (.region [rq 0 2 (.move (.kv (.bool false)))] 1 [0])
 (.seq (.seq (.region [rq 0 11 (.move (.tm 0)),
 rq 1 12 (.len false (.tm 11)),
 rq 2 13 (.bin .gtr (.tm 12) (ki 1048576))] 3 [0, 13])
 (.cond (.tm 13)
 (.seq (.region [rq 0 2 (.move (.kv (.bool true)))] 1 [2])
 .ret)
 .skip))
 (.seq (.region [rq 0 15 (.move (.tm 0)),
 rq 1 16 (.call n_spec_DrawTlmPlay [(.tm 15)]),
 rq 2 14 (.move (.tm 16)),
 rq 3 17 (.ext (.tm 14) 0),
 rq 4 18 (.ext (.tm 14) 1),
 rq 5 3 (.alloc [(.osl 0 0 0 0 0), (.osl 0 0 0 0 0), (.osl 0 0 0 0 0)]),
 rn 6 (.store 3 true (.tm 3) (.tm 17)),
 rq 7 4 (.move (.tm 18))] 8 [3, 4])
 (.seq (.region [⟨0, (some 20), .load 3 true (.tm 3), none, [7], [], true⟩,
 rq 2 22 (.move (.tm 4)),
 rq 7 5 (.alloc [(.osl 0 0 0 0 0), (.osl 0 0 0 0 0), (.osl 0 0 0 0 0), (.osl 0 0 0 0 0), (.osl 0 0 0 0 0), (.osl 0 0 0 0 0)]),
 ⟨1, (some 21), .call n_impl_TlmNew [], none, [7], [0], false⟩,
 ⟨3, (some 23), .call n_impl_TlmRun [(.tm 20), (.tm 21), (.tm 22)], none, [7], [], false⟩,
 rq 4 19 (.move (.tm 23)),
 rq 5 24 (.ext (.tm 19) 0),
 rq 6 25 (.ext (.tm 19) 1),
 rn 8 (.store 6 true (.tm 5) (.tm 24)),
 rq 9 6 (.move (.tm 25))] 10 [4, 5, 6])
 (.seq (.seq (.region [rq 0 26 (.move (.tm 6)),
 rq 1 27 (.move (.tm 4)),
 rq 2 28 (.len false (.tm 27)),
 rq 3 29 (.bin .neq (.tm 26) (.tm 28))] 4 [4, 5, 29])
 (.cond (.tm 29)
 (.seq (.region [rq 0 2 (.move (.kv (.bool false)))] 1 [2])
 .ret)
 .skip))
 (.seq (.region [rq 0 30 (.mkslice 1 [(.v (.int .i64 0))] (ki 4) (ki 4)),
 rq 1 7 (.move (.tm 30))] 2 [4, 5, 7])
 (.seq (.seq (.region [rq 0 8 (.move (ki 0))] 1 [4, 5, 7, 8])
 (.block 0
 (.loop
 (.seq (.seq (.region [rq 0 31 (.move (.tm 8)),
 rq 1 32 (.move (.tm 4)),
 rq 2 33 (.len false (.tm 32)),
 rq 3 34 (.bin .lss (.tm 31) (.tm 33))] 4 [4, 5, 7, 8, 34])
 (.cond (.tm 34)
 .skip
 (.exit 0)))
 (.seq (.block 1
 (.region [rq 0 37 (.move (.tm 7)),
 rq 1 38 (.move (.tm 4)),
 rq 2 39 (.move (.tm 8)),
 rq 3 40 (.idx 3 (.tm 38) (.tm 39)),
 rq 4 41 (.fld 0 (.tm 40)),
 rq 5 42 (.load 1 false (.tm 41)),
 rq 6 43 (.move (.tm 7)),
 rq 7 44 (.move (.tm 4)),
 rq 8 45 (.move (.tm 8)),
 rq 9 46 (.idx 3 (.tm 44) (.tm 45)),
 rq 10 47 (.fld 0 (.tm 46)),
 rq 11 48 (.load 1 false (.tm 47)),
 rq 12 49 (.idx 1 (.tm 43) (.tm 48)),
 rq 13 50 (.load 1 false (.tm 49)),
 rq 14 51 (.bin .add (.tm 50) (ki 1)),
 rq 15 52 (.idx 1 (.tm 37) (.tm 42)),
 rn 16 (.store 1 false (.tm 52) (.tm 51))] 17 [4, 5, 7, 8]))
 (.region [rq 0 35 (.move (.tm 8)),
 rq 1 36 (.bin .add (.tm 35) (ki 1)),
 rq 2 8 (.move (.tm 36))] 3 [4, 5, 7, 8]))))))
 (.seq (.region [rq 0 9 (.move (ki 0))] 1 [5, 7, 9])
 (.seq (.seq (.region [rq 0 10 (.move (ki 0))] 1 [5, 7, 9, 10])
 (.block 2
 (.loop
 (.seq (.seq (.region [rq 0 53 (.move (.tm 10)),
 rq 1 54 (.fld 2 (.tm 5)),
 rq 2 55 (.load 1 false (.tm 54)),
 rq 3 56 (.len false (.tm 55)),
 rq 4 57 (.bin .lss (.tm 53) (.tm 56))] 5 [5, 7, 9, 10, 57])
 (.cond (.tm 57)
 .skip
 (.exit 2)))
 (.seq (.block 3
 (.region [rq 0 60 (.move (.tm 9)),
 rq 1 61 (.fld 2 (.tm 5)),
 rq 2 62 (.load 1 false (.tm 61)),
 rq 3 63 (.move (.tm 10)),
 rq 4 64 (.idx 1 (.tm 62) (.tm 63)),
 rq 5 65 (.load 1 false (.tm 64)),
 rq 6 66 (.bin .add (.tm 60) (.tm 65)),
 rq 7 9 (.move (.tm 66))] 8 [5, 7, 9, 10]))
 (.region [rq 0 58 (.move (.tm 10)),
 rq 1 59 (.bin .add (.tm 58) (ki 1)),
 rq 2 10 (.move (.tm 59))] 3 [5, 7, 9, 10]))))))
 (.seq (.region [rq 0 67 (.move (.tm 7)),
 rq 1 68 (.idx 1 (.tm 67) (ki 1)),
 rq 2 69 (.load 1 false (.tm 68)),
 rq 3 70 (.move (.tm 9)),
 rq 4 71 (.bin .eql (.tm 69) (.tm 70)),
 rq 5 72 (.move (.tm 71)),
 ⟨6, (some 73), .move (.tm 7), (some (72, true)), [], [], false⟩,
 ⟨7, (some 74), .idx 1 (.tm 73) (ki 2), (some (72, true)), [], [], false⟩,
 ⟨8, (some 75), .load 1 false (.tm 74), (some (72, true)), [], [], false⟩,
 ⟨9, (some 76), .fld 4 (.tm 5), (some (72, true)), [], [], false⟩,
 ⟨10, (some 77), .load 1 false (.tm 76), (some (72, true)), [], [], false⟩,
 ⟨11, (some 78), .len false (.tm 77), (some (72, true)), [], [], false⟩,
 ⟨12, (some 79), .fld 5 (.tm 5), (some (72, true)), [], [], false⟩,
 ⟨13, (some 80), .load 1 false (.tm 79), (some (72, true)), [], [], false⟩,
 ⟨14, (some 81), .len false (.tm 80), (some (72, true)), [], [], false⟩,
 ⟨15, (some 82), .bin .add (.tm 78) (.tm 81), (some (72, true)), [], [], false⟩,
 ⟨16, (some 83), .bin .eql (.tm 75) (.tm 82), (some (72, true)), [], [], false⟩,
 rq 17 84 (.pick (.tm 72) (.tm 83) (.kv (.bool false))),
 rq 18 85 (.move (.tm 84)),
 ⟨19, (some 86), .move (.tm 7), (some (85, true)), [], [], false⟩,
 ⟨20, (some 87), .idx 1 (.tm 86) (ki 3), (some (85, true)), [], [], false⟩,
 ⟨21, (some 88), .load 1 false (.tm 87), (some (85, true)), [], [], false⟩,
 ⟨22, (some 89), .fld 5 (.tm 5), (some (85, true)), [], [], false⟩,
 ⟨23, (some 90), .load 1 false (.tm 89), (some (85, true)), [], [], false⟩,
 ⟨24, (some 91), .len false (.tm 90), (some (85, true)), [], [], false⟩,
 ⟨25, (some 92), .bin .eql (.tm 88) (.tm 91), (some (85, true)), [], [], false⟩,
 rq 26 93 (.pick (.tm 85) (.tm 92) (.kv (.bool false))),
 rq 27 94 (.move (.tm 93)),
 ⟨28, (some 95), .call n_laws_crOk [], (some (94, true)), [], [], false⟩,
 rq 29 96 (.pick (.tm 94) (.tm 95) (.kv (.bool false))),
 rq 30 2 (.move (.tm 96))] 31 [2])
 .ret))))))))))
def ct_laws_FnTlmCount : List Cert := [⟨[], [0]⟩, ⟨[], [0, 13]⟩, ⟨[], [2]⟩, ⟨[], [3, 4]⟩, ⟨[(0, [7], [], true), cz 2, cz 7, (1, [7], [0], false), (3, [7], [], false), cz 4, cz 5, cz 6, cz 8, cz 9], [4, 5, 6]⟩, ⟨[], [4, 5, 29]⟩, ⟨[], [2]⟩, ⟨[], [4, 5, 7]⟩, ⟨[], [4, 5, 7, 8]⟩, ⟨[], [4, 5, 7, 8, 34]⟩, ⟨[cz 0, cz 1, cz 2, cz 3, cz 4, cz 5, cz 6, cz 7, cz 8, cz 9, cz 10, cz 11, cz 12, cz 13, cz 14, cz 15, cz 16], [4, 5, 7, 8]⟩, ⟨[], [4, 5, 7, 8]⟩, ⟨[], [5, 7, 9]⟩, ⟨[], [5, 7, 9, 10]⟩, ⟨[], [5, 7, 9, 10, 57]⟩, ⟨[], [5, 7, 9, 10]⟩, ⟨[], [5, 7, 9, 10]⟩, ⟨[cz 0, cz 1, cz 2, cz 3, cz 4, cz 5, cz 6, cz 7, cz 8, cz 9, cz 10, cz 11, cz 12, cz 13, cz 14, cz 15, cz 16, cz 17, cz 18, cz 19, cz 20, cz 21, cz 22, cz 23, cz 24, cz 25, cz 26, cz 27, cz 28, cz 29, cz 30], [2]⟩]
def rs_laws_FnTlmCount : List ResV := [.tm 2]
theorem ok_laws_FnTlmCount : compF Tryz.prog Tryz.f3 ct_laws_FnTlmCount = some (ac_laws_FnTlmCount, rs_laws_FnTlmCount) := by kernel_rfl
theorem en_laws_FnTlmCount : EnTy Tryz.prog n_laws_FnTlmCount Tryz.f3 ac_laws_FnTlmCount rs_laws_FnTlmCount :=
  EnTy.mk Tryz.func3 (by kernel_rfl) ok_laws_FnTlmCount

end Go.Proofs.YtiimjokpcbapeaaGreat
