/- The code of the functions with types resolved, checked against the program. Printed by a program (gen.py). -/
import Derived.Test.YtiimjokpcbapeaaGreatAcN
namespace Go.Proofs.YtiimjokpcbapeaaGreat
open Go Go.AM
set_option maxRecDepth 100000

/- loop.example/crossyard/laws.FnTlmMay -/
def ac_laws_FnTlmMay : AC :=
 (.seq (.region [rq 0 2 (.move (.kv (.bool false)))] 1 [0])
 (.seq (.seq (.region [rq 0 19 (.move (.tm 0)),
 rq 1 20 (.len false (.tm 19)),
 rq 2 21 (.bin .gtr (.tm 20) (ki 1048576))] 3 [0, 21])
 (.cond (.tm 21)
 (.seq (.region [rq 0 2 (.move (.kv (.bool true)))] 1 [2])
 .ret)
 .skip))
 (.seq (.region [rq 0 23 (.move (.tm 0)),
 rq 1 24 (.call n_spec_DrawTlmPlay [(.tm 23)]),
 rq 2 22 (.move (.tm 24)),
 rq 3 25 (.ext (.tm 22) 0),
 rq 4 26 (.ext (.tm 22) 1),
 rq 5 3 (.alloc [(.osl 0 0 0 0 0), (.osl 0 0 0 0 0), (.osl 0 0 0 0 0)]),
 rn 6 (.store 3 true (.tm 3) (.tm 25)),
 rq 7 4 (.move (.tm 26))] 8 [0, 3, 4])
 (.seq (.region [⟨0, (some 28), .load 3 true (.tm 3), none, [7], [], true⟩,
 rq 2 30 (.move (.tm 4)),
 rq 7 5 (.alloc [(.osl 0 0 0 0 0), (.osl 0 0 0 0 0), (.osl 0 0 0 0 0), (.osl 0 0 0 0 0), (.osl 0 0 0 0 0), (.osl 0 0 0 0 0)]),
 ⟨1, (some 29), .call n_impl_TlmNew [], none, [7], [0], false⟩,
 ⟨3, (some 31), .call n_impl_TlmRun [(.tm 28), (.tm 29), (.tm 30)], none, [7], [], false⟩,
 rq 4 27 (.move (.tm 31)),
 rq 5 32 (.ext (.tm 27) 0),
 rq 6 33 (.ext (.tm 27) 1),
 rn 8 (.store 6 true (.tm 5) (.tm 32)),
 rq 9 6 (.move (.tm 33))] 10 [0, 3, 4, 5, 6])
 (.seq (.seq (.region [rq 0 34 (.move (.tm 6)),
 rq 1 35 (.move (.tm 4)),
 rq 2 36 (.len false (.tm 35)),
 rq 3 37 (.bin .neq (.tm 34) (.tm 36))] 4 [0, 3, 5, 37])
 (.cond (.tm 37)
 (.seq (.region [rq 0 2 (.move (.kv (.bool false)))] 1 [2])
 .ret)
 .skip))
 (.seq (.region [rq 0 38 (.move (.tm 0)),
 rq 1 39 (.len false (.tm 38)),
 rq 2 40 (.bin .rem (.tm 39) (ki 3)),
 rq 3 7 (.move (.tm 40))] 4 [3, 5, 7])
 (.seq (.seq (.region [rq 0 8 (.move (ki 1))] 1 [3, 5, 7, 8])
 (.block 0
 (.loop
 (.seq (.seq (.region [rq 0 41 (.move (.tm 8)),
 rq 1 42 (.bin .lss (.tm 41) (ki 3))] 2 [3, 5, 7, 8, 42])
 (.cond (.tm 42)
 .skip
 (.exit 0)))
 (.seq (.block 1
 (.seq (.region [rq 0 45 (.move (.tm 7)),
 rq 1 46 (.move (.tm 8)),
 rq 2 47 (.bin .add (.tm 45) (.tm 46)),
 rq 3 48 (.bin .rem (.tm 47) (ki 3)),
 rq 4 9 (.move (.tm 48))] 5 [3, 5, 7, 8, 9])
 (.seq (.region [⟨0, (some 50), .load 3 true (.tm 3), none, [13], [], false⟩,
 ⟨1, (some 51), .load 6 true (.tm 5), none, [13], [], false⟩,
 rq 2 52 (.move (.tm 9)),
 rq 3 53 (.fld 2 (.tm 5)),
 ⟨4, (some 54), .load 1 false (.tm 53), none, [13], [], false⟩,
 rq 5 55 (.move (.tm 9)),
 rq 6 56 (.idx 1 (.tm 54) (.tm 55)),
 ⟨7, (some 57), .load 1 false (.tm 56), none, [13], [], false⟩,
 rq 8 58 (.build [(.v (.int .i64 0)), (.v (.int .i64 0)), (.v (.int .i64 0))] [(0, 1, (ki 1)), (1, 1, (.tm 52)), (2, 1, (.tm 57))]),
 rq 13 10 (.alloc [(.osl 0 0 0 0 0), (.osl 0 0 0 0 0), (.osl 0 0 0 0 0), (.osl 0 0 0 0 0), (.osl 0 0 0 0 0), (.osl 0 0 0 0 0)]),
 ⟨9, (some 59), .call n_impl_TlmStep [(.tm 50), (.tm 51), (.tm 58)], none, [13], [], false⟩,
 rq 10 49 (.move (.tm 59)),
 rq 11 60 (.ext (.tm 49) 0),
 rq 12 61 (.ext (.tm 49) 1),
 rn 14 (.store 6 true (.tm 10) (.tm 60)),
 rq 15 11 (.move (.tm 61))] 16 [3, 5, 7, 8, 10, 11])
 (.seq (.seq (.region [rq 0 62 (.move (.tm 11)),
 rq 1 63 (.un .not (.tm 62))] 2 [3, 5, 7, 8, 10, 63])
 (.cond (.tm 63)
 (.exit 1)
 .skip))
 (.seq (.region [rq 0 12 (.move (ki 1))] 1 [3, 5, 7, 8, 10, 12])
 (.block 2
 (.loop
 (.seq (.seq (.region [rq 0 64 (.move (.tm 12)),
 rq 1 65 (.bin .leq (.tm 64) (ki 3))] 2 [3, 5, 7, 8, 10, 12, 65])
 (.cond (.tm 65)
 .skip
 (.exit 2)))
 (.seq (.block 3
 (.seq (.region [rq 0 13 (.move (ki 0))] 1 [3, 5, 7, 8, 10, 12, 13])
 (.block 4
 (.loop
 (.seq (.seq (.region [rq 0 68 (.move (.tm 13)),
 rq 1 69 (.fld 2 (.tm 3)),
 rq 2 70 (.load 1 false (.tm 69)),
 rq 3 71 (.move (.tm 7)),
 rq 4 72 (.idx 1 (.tm 70) (.tm 71)),
 rq 5 73 (.load 1 false (.tm 72)),
 rq 6 74 (.len false (.tm 73)),
 rq 7 75 (.bin .lss (.tm 68) (.tm 74))] 8 [3, 5, 7, 8, 10, 12, 13, 75])
 (.cond (.tm 75)
 .skip
 (.exit 4)))
 (.seq (.block 5
 (.seq (.region [rq 0 78 (.move (.tm 12)),
 rq 1 79 (.move (.tm 7)),
 rq 2 80 (.move (.tm 13)),
 rq 3 81 (.build [(.v (.int .i64 0)), (.v (.int .i64 0)), (.v (.int .i64 0))] [(0, 1, (.tm 78)), (1, 1, (.tm 79)), (2, 1, (.tm 80))]),
 rq 4 14 (.alloc [(.v (.int .i64 0)), (.v (.int .i64 0)), (.v (.int .i64 0))]),
 rn 5 (.store 3 true (.tm 14) (.tm 81))] 6 [3, 5, 7, 8, 10, 12, 13, 14])
 (.seq (.region [rq 0 83 (.load 3 true (.tm 3)),
 rq 1 84 (.load 6 true (.tm 5)),
 rq 2 85 (.load 3 true (.tm 14)),
 rq 3 86 (.call n_impl_TlmStep [(.tm 83), (.tm 84), (.tm 85)]),
 rq 4 82 (.move (.tm 86)),
 rq 5 87 (.ext (.tm 82) 0),
 rq 6 88 (.ext (.tm 82) 1),
 rq 7 15 (.alloc [(.osl 0 0 0 0 0), (.osl 0 0 0 0 0), (.osl 0 0 0 0 0), (.osl 0 0 0 0 0), (.osl 0 0 0 0 0), (.osl 0 0 0 0 0)]),
 rn 8 (.store 6 true (.tm 15) (.tm 87)),
 rq 9 16 (.move (.tm 88))] 10 [3, 5, 7, 8, 10, 12, 13, 14, 16])
 (.seq (.region [rq 0 90 (.load 3 true (.tm 3)),
 rq 1 91 (.load 6 true (.tm 10)),
 rq 2 92 (.load 3 true (.tm 14)),
 rq 3 93 (.call n_impl_TlmStep [(.tm 90), (.tm 91), (.tm 92)]),
 rq 4 89 (.move (.tm 93)),
 rq 5 94 (.ext (.tm 89) 0),
 rq 6 95 (.ext (.tm 89) 1),
 rq 7 17 (.alloc [(.osl 0 0 0 0 0), (.osl 0 0 0 0 0), (.osl 0 0 0 0 0), (.osl 0 0 0 0 0), (.osl 0 0 0 0 0), (.osl 0 0 0 0 0)]),
 rn 8 (.store 6 true (.tm 17) (.tm 94)),
 rq 9 18 (.move (.tm 95))] 10 [3, 5, 7, 8, 10, 12, 13, 16, 18])
 (.seq (.region [rq 0 96 (.move (.tm 16)),
 rq 1 97 (.move (.tm 18)),
 rq 2 98 (.beq true (.tm 96) (.tm 97))] 3 [3, 5, 7, 8, 10, 12, 13, 98])
 (.cond (.tm 98)
 (.seq (.region [rq 0 2 (.move (.kv (.bool false)))] 1 [2])
 .ret)
 .skip))))))
 (.region [rq 0 76 (.move (.tm 13)),
 rq 1 77 (.bin .add (.tm 76) (ki 1)),
 rq 2 13 (.move (.tm 77))] 3 [3, 5, 7, 8, 10, 12, 13])))))))
 (.region [rq 0 66 (.move (.tm 12)),
 rq 1 67 (.bin .add (.tm 66) (ki 1)),
 rq 2 12 (.move (.tm 67))] 3 [3, 5, 7, 8, 10, 12]))))))))))
 (.region [rq 0 43 (.move (.tm 8)),
 rq 1 44 (.bin .add (.tm 43) (ki 1)),
 rq 2 8 (.move (.tm 44))] 3 [3, 5, 7, 8]))))))
 (.seq (.region [rq 0 99 (.call n_laws_crOk []),
 rq 1 2 (.move (.tm 99))] 2 [2])
 .ret))))))))
def ct_laws_FnTlmMay : List Cert := [⟨[], [0]⟩, ⟨[], [0, 21]⟩, ⟨[], [2]⟩, ⟨[], [0, 3, 4]⟩, ⟨[(0, [7], [], true), cz 2, cz 7, (1, [7], [0], false), (3, [7], [], false), cz 4, cz 5, cz 6, cz 8, cz 9], [0, 3, 4, 5, 6]⟩, ⟨[], [0, 3, 5, 37]⟩, ⟨[], [2]⟩, ⟨[], [3, 5, 7]⟩, ⟨[], [3, 5, 7, 8]⟩, ⟨[], [3, 5, 7, 8, 42]⟩, ⟨[], [3, 5, 7, 8, 9]⟩, ⟨[(0, [13], [], false), (1, [13], [], false), cz 2, cz 3, (4, [13], [], false), cz 5, cz 6, (7, [13], [], false), cz 8, cz 13, (9, [13], [], false), cz 10, cz 11, cz 12, cz 14, cz 15], [3, 5, 7, 8, 10, 11]⟩, ⟨[], [3, 5, 7, 8, 10, 63]⟩, ⟨[], [3, 5, 7, 8, 10, 12]⟩, ⟨[], [3, 5, 7, 8, 10, 12, 65]⟩, ⟨[], [3, 5, 7, 8, 10, 12, 13]⟩, ⟨[], [3, 5, 7, 8, 10, 12, 13, 75]⟩, ⟨[], [3, 5, 7, 8, 10, 12, 13, 14]⟩, ⟨[], [3, 5, 7, 8, 10, 12, 13, 14, 16]⟩, ⟨[], [3, 5, 7, 8, 10, 12, 13, 16, 18]⟩, ⟨[], [3, 5, 7, 8, 10, 12, 13, 98]⟩, ⟨[], [2]⟩, ⟨[], [3, 5, 7, 8, 10, 12, 13]⟩, ⟨[], [3, 5, 7, 8, 10, 12]⟩, ⟨[], [3, 5, 7, 8]⟩, ⟨[], [2]⟩]
def rs_laws_FnTlmMay : List ResV := [.tm 2]
theorem ok_laws_FnTlmMay : compF Tryz.prog Tryz.f6 ct_laws_FnTlmMay = some (ac_laws_FnTlmMay, rs_laws_FnTlmMay) := by kernel_rfl
theorem en_laws_FnTlmMay : EnTy Tryz.prog n_laws_FnTlmMay Tryz.f6 ac_laws_FnTlmMay rs_laws_FnTlmMay :=
  EnTy.mk Tryz.func6 (by kernel_rfl) ok_laws_FnTlmMay

end Go.Proofs.YtiimjokpcbapeaaGreat
