/- The code of the functions with types resolved, checked against the program. Printed by a program (gen.py). -/
import Derived.Test.YtiimjokpcbapeaaGreatAcN
namespace Go.Proofs.YtiimjokpcbapeaaGreat
open Go Go.AM
set_option maxRecDepth 100000

/- loop.example/crossyard/laws.FnTrcSwap -/
def ac_laws_FnTrcSwap : AC :=
 (.seq (.region [rq 0 2 (.move (.kv (.bool false)))] 1 [0])
 (.seq (.seq (.region [rq 0 15 (.move (.tm 0)),
 rq 1 16 (.len false (.tm 15)),
 rq 2 17 (.bin .gtr (.tm 16) (ki 1048576))] 3 [0, 17])
 (.cond (.tm 17)
 (.seq (.region [rq 0 2 (.move (.kv (.bool true)))] 1 [2])
 .ret)
 .skip))
 (.seq (.region [rq 0 19 (.move (.tm 0)),
 rq 1 20 (.call n_spec_DrawTlmPlay [(.tm 19)]),
 rq 2 18 (.move (.tm 20)),
 rq 3 21 (.ext (.tm 18) 0),
 rq 4 22 (.ext (.tm 18) 1),
 rq 5 3 (.alloc [(.osl 0 0 0 0 0), (.osl 0 0 0 0 0), (.osl 0 0 0 0 0)]),
 rn 6 (.store 3 true (.tm 3) (.tm 21)),
 rq 7 4 (.move (.tm 22))] 8 [3, 4])
 (.seq (.region [rq 0 23 (.call n_impl_TlmNew []),
 rq 1 5 (.alloc [(.osl 0 0 0 0 0), (.osl 0 0 0 0 0), (.osl 0 0 0 0 0), (.osl 0 0 0 0 0), (.osl 0 0 0 0 0), (.osl 0 0 0 0 0)]),
 rn 2 (.store 6 true (.tm 5) (.tm 23))] 3 [3, 4, 5])
 (.seq (.seq (.region [rq 0 6 (.move (ki 0))] 1 [3, 4, 5, 6])
 (.block 0
 (.loop
 (.seq (.seq (.region [rq 0 24 (.move (.tm 6)),
 rq 1 25 (.bin .add (.tm 24) (ki 1)),
 rq 2 26 (.move (.tm 4)),
 rq 3 27 (.len false (.tm 26)),
 rq 4 28 (.bin .lss (.tm 25) (.tm 27))] 5 [3, 4, 5, 6, 28])
 (.cond (.tm 28)
 .skip
 (.exit 0)))
 (.seq (.block 1
 (.seq (.region [⟨0, (some 32), .load 3 true (.tm 3), none, [10], [], false⟩,
 ⟨1, (some 33), .load 6 true (.tm 5), none, [10], [], false⟩,
 rq 2 34 (.move (.tm 4)),
 rq 3 35 (.move (.tm 6)),
 rq 4 36 (.idx 3 (.tm 34) (.tm 35)),
 ⟨5, (some 37), .load 3 true (.tm 36), none, [10], [], false⟩,
 rq 10 7 (.alloc [(.osl 0 0 0 0 0), (.osl 0 0 0 0 0), (.osl 0 0 0 0 0), (.osl 0 0 0 0 0), (.osl 0 0 0 0 0), (.osl 0 0 0 0 0)]),
 ⟨6, (some 38), .call n_impl_TlmStep [(.tm 32), (.tm 33), (.tm 37)], none, [10], [], false⟩,
 rq 7 31 (.move (.tm 38)),
 rq 8 39 (.ext (.tm 31) 0),
 rq 9 40 (.ext (.tm 31) 1),
 rn 11 (.store 6 true (.tm 7) (.tm 39)),
 rq 12 8 (.move (.tm 40))] 13 [3, 4, 5, 6, 7, 8])
 (.seq (.region [⟨0, (some 42), .load 3 true (.tm 3), none, [11], [], false⟩,
 ⟨1, (some 43), .load 6 true (.tm 7), none, [11], [], false⟩,
 rq 2 44 (.move (.tm 4)),
 rq 3 45 (.move (.tm 6)),
 rq 4 46 (.bin .add (.tm 45) (ki 1)),
 rq 5 47 (.idx 3 (.tm 44) (.tm 46)),
 ⟨6, (some 48), .load 3 true (.tm 47), none, [11], [], false⟩,
 rq 11 9 (.alloc [(.osl 0 0 0 0 0), (.osl 0 0 0 0 0), (.osl 0 0 0 0 0), (.osl 0 0 0 0 0), (.osl 0 0 0 0 0), (.osl 0 0 0 0 0)]),
 ⟨7, (some 49), .call n_impl_TlmStep [(.tm 42), (.tm 43), (.tm 48)], none, [11], [], false⟩,
 rq 8 41 (.move (.tm 49)),
 rq 9 50 (.ext (.tm 41) 0),
 rq 10 51 (.ext (.tm 41) 1),
 rn 12 (.store 6 true (.tm 9) (.tm 50)),
 rq 13 10 (.move (.tm 51))] 14 [3, 4, 5, 6, 7, 8, 9, 10])
 (.seq (.seq (.region [rq 0 52 (.move (.tm 8)),
 rq 1 53 (.un .not (.tm 52)),
 rq 2 54 (.move (.tm 53)),
 ⟨3, (some 55), .move (.tm 10), (some (54, false)), [], [], false⟩,
 ⟨4, (some 56), .un .not (.tm 55), (some (54, false)), [], [], false⟩,
 rq 5 57 (.pick (.tm 54) (.kv (.bool true)) (.tm 56))] 6 [3, 4, 5, 6, 7, 9, 57])
 (.cond (.tm 57)
 (.seq (.region [rq 0 2 (.move (.kv (.bool false)))] 1 [2])
 .ret)
 .skip))
 (.seq (.seq (.region [rq 0 58 (.load 3 true (.tm 3)),
 rq 1 59 (.move (.tm 4)),
 rq 2 60 (.move (.tm 6)),
 rq 3 61 (.idx 3 (.tm 59) (.tm 60)),
 rq 4 62 (.load 3 true (.tm 61)),
 rq 5 63 (.move (.tm 4)),
 rq 6 64 (.move (.tm 6)),
 rq 7 65 (.bin .add (.tm 64) (ki 1)),
 rq 8 66 (.idx 3 (.tm 63) (.tm 65)),
 rq 9 67 (.load 3 true (.tm 66)),
 rq 10 68 (.call n_impl_TrcApart [(.tm 58), (.tm 62), (.tm 67)])] 11 [3, 4, 5, 6, 7, 9, 68])
 (.cond (.tm 68)
 (.seq (.region [⟨0, (some 70), .load 3 true (.tm 3), none, [11], [], false⟩,
 ⟨1, (some 71), .load 6 true (.tm 5), none, [11], [], false⟩,
 rq 2 72 (.move (.tm 4)),
 rq 3 73 (.move (.tm 6)),
 rq 4 74 (.bin .add (.tm 73) (ki 1)),
 rq 5 75 (.idx 3 (.tm 72) (.tm 74)),
 ⟨6, (some 76), .load 3 true (.tm 75), none, [11], [], false⟩,
 rq 11 11 (.alloc [(.osl 0 0 0 0 0), (.osl 0 0 0 0 0), (.osl 0 0 0 0 0), (.osl 0 0 0 0 0), (.osl 0 0 0 0 0), (.osl 0 0 0 0 0)]),
 ⟨7, (some 77), .call n_impl_TlmStep [(.tm 70), (.tm 71), (.tm 76)], none, [11], [], false⟩,
 rq 8 69 (.move (.tm 77)),
 rq 9 78 (.ext (.tm 69) 0),
 rq 10 79 (.ext (.tm 69) 1),
 rn 12 (.store 6 true (.tm 11) (.tm 78)),
 rq 13 12 (.move (.tm 79))] 14 [3, 4, 5, 6, 7, 9, 11, 12])
 (.seq (.region [⟨0, (some 81), .load 3 true (.tm 3), none, [10], [], false⟩,
 ⟨1, (some 82), .load 6 true (.tm 11), none, [10], [], false⟩,
 rq 2 83 (.move (.tm 4)),
 rq 3 84 (.move (.tm 6)),
 rq 4 85 (.idx 3 (.tm 83) (.tm 84)),
 ⟨5, (some 86), .load 3 true (.tm 85), none, [10], [], false⟩,
 rq 10 13 (.alloc [(.osl 0 0 0 0 0), (.osl 0 0 0 0 0), (.osl 0 0 0 0 0), (.osl 0 0 0 0 0), (.osl 0 0 0 0 0), (.osl 0 0 0 0 0)]),
 ⟨6, (some 87), .call n_impl_TlmStep [(.tm 81), (.tm 82), (.tm 86)], none, [10], [], false⟩,
 rq 7 80 (.move (.tm 87)),
 rq 8 88 (.ext (.tm 80) 0),
 rq 9 89 (.ext (.tm 80) 1),
 rn 11 (.store 6 true (.tm 13) (.tm 88)),
 rq 12 14 (.move (.tm 89))] 13 [3, 4, 5, 6, 7, 9, 12, 13, 14])
 (.seq (.region [rq 0 90 (.move (.tm 12)),
 rq 1 91 (.un .not (.tm 90)),
 rq 2 92 (.move (.tm 91)),
 ⟨3, (some 93), .move (.tm 14), (some (92, false)), [], [], false⟩,
 ⟨4, (some 94), .un .not (.tm 93), (some (92, false)), [], [], false⟩,
 rq 5 95 (.pick (.tm 92) (.kv (.bool true)) (.tm 94)),
 rq 6 96 (.move (.tm 95)),
 ⟨7, (some 97), .load 6 true (.tm 13), (some (96, false)), [], [], false⟩,
 ⟨8, (some 98), .load 6 true (.tm 9), (some (96, false)), [], [], false⟩,
 ⟨9, (some 99), .call n_laws_crTlm [(.tm 97), (.tm 98)], (some (96, false)), [], [], false⟩,
 ⟨10, (some 100), .un .not (.tm 99), (some (96, false)), [], [], false⟩,
 rq 11 101 (.pick (.tm 96) (.kv (.bool true)) (.tm 100))] 12 [3, 4, 5, 6, 7, 101])
 (.cond (.tm 101)
 (.seq (.region [rq 0 2 (.move (.kv (.bool false)))] 1 [2])
 .ret)
 .skip))))
 .skip))
 (.region [rq 0 102 (.load 6 true (.tm 7)),
 rn 1 (.store 6 true (.tm 5) (.tm 102))] 2 [3, 4, 5, 6]))))))
 (.region [rq 0 29 (.move (.tm 6)),
 rq 1 30 (.bin .add (.tm 29) (ki 1)),
 rq 2 6 (.move (.tm 30))] 3 [3, 4, 5, 6]))))))
 (.seq (.region [rq 0 103 (.call n_laws_crOk []),
 rq 1 2 (.move (.tm 103))] 2 [2])
 .ret))))))
def ct_laws_FnTrcSwap : List Cert := [⟨[], [0]⟩, ⟨[], [0, 17]⟩, ⟨[], [2]⟩, ⟨[], [3, 4]⟩, ⟨[], [3, 4, 5]⟩, ⟨[], [3, 4, 5, 6]⟩, ⟨[], [3, 4, 5, 6, 28]⟩, ⟨[(0, [10], [], false), (1, [10], [], false), cz 2, cz 3, cz 4, (5, [10], [], false), cz 10, (6, [10], [], false), cz 7, cz 8, cz 9, cz 11, cz 12], [3, 4, 5, 6, 7, 8]⟩, ⟨[(0, [11], [], false), (1, [11], [], false), cz 2, cz 3, cz 4, cz 5, (6, [11], [], false), cz 11, (7, [11], [], false), cz 8, cz 9, cz 10, cz 12, cz 13], [3, 4, 5, 6, 7, 8, 9, 10]⟩, ⟨[], [3, 4, 5, 6, 7, 9, 57]⟩, ⟨[], [2]⟩, ⟨[cz 0, cz 1, cz 2, cz 3, cz 4, cz 5, cz 6, cz 7, cz 8, cz 9, cz 10], [3, 4, 5, 6, 7, 9, 68]⟩, ⟨[(0, [11], [], false), (1, [11], [], false), cz 2, cz 3, cz 4, cz 5, (6, [11], [], false), cz 11, (7, [11], [], false), cz 8, cz 9, cz 10, cz 12, cz 13], [3, 4, 5, 6, 7, 9, 11, 12]⟩, ⟨[(0, [10], [], false), (1, [10], [], false), cz 2, cz 3, cz 4, (5, [10], [], false), cz 10, (6, [10], [], false), cz 7, cz 8, cz 9, cz 11, cz 12], [3, 4, 5, 6, 7, 9, 12, 13, 14]⟩, ⟨[], [3, 4, 5, 6, 7, 101]⟩, ⟨[], [2]⟩, ⟨[], [3, 4, 5, 6]⟩, ⟨[], [3, 4, 5, 6]⟩, ⟨[], [2]⟩]
def rs_laws_FnTrcSwap : List ResV := [.tm 2]
theorem ok_laws_FnTrcSwap : compF Tryz.prog Tryz.f11 ct_laws_FnTrcSwap = some (ac_laws_FnTrcSwap, rs_laws_FnTrcSwap) := by kernel_rfl
theorem en_laws_FnTrcSwap : EnTy Tryz.prog n_laws_FnTrcSwap Tryz.f11 ac_laws_FnTrcSwap rs_laws_FnTrcSwap :=
  EnTy.mk Tryz.func11 (by kernel_rfl) ok_laws_FnTrcSwap

end Go.Proofs.YtiimjokpcbapeaaGreat
