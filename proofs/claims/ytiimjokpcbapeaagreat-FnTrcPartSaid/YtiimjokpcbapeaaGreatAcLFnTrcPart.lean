/- The code of the functions with types resolved, checked against the program. Printed by a program (gen.py). -/
import Derived.Test.YtiimjokpcbapeaaGreatAcN
namespace Go.Proofs.YtiimjokpcbapeaaGreat
open Go Go.AM
set_option maxRecDepth 100000

/- loop.example/crossyard/laws.FnTrcPart -/
def ac_laws_FnTrcPart : AC :=
 (.seq (.region [rq 0 2 (.move (.kv (.bool false)))] 1 [0])
 (.seq (.seq (.region [rq 0 10 (.move (.tm 0)),
 rq 1 11 (.len false (.tm 10)),
 rq 2 12 (.bin .gtr (.tm 11) (ki 1048576))] 3 [0, 12])
 (.cond (.tm 12)
 (.seq (.region [rq 0 2 (.move (.kv (.bool true)))] 1 [2])
 .ret)
 .skip))
 (.seq (.region [rq 0 14 (.move (.tm 0)),
 rq 1 15 (.call n_spec_DrawTlmPlay [(.tm 14)]),
 rq 2 13 (.move (.tm 15)),
 rq 3 16 (.ext (.tm 13) 0),
 rq 4 17 (.ext (.tm 13) 1),
 rq 5 3 (.alloc [(.osl 0 0 0 0 0), (.osl 0 0 0 0 0), (.osl 0 0 0 0 0)]),
 rn 6 (.store 3 true (.tm 3) (.tm 16)),
 rq 7 4 (.move (.tm 17))] 8 [3, 4])
 (.seq (.seq (.region [rq 0 5 (.move (ki 0))] 1 [3, 4, 5])
 (.block 0
 (.loop
 (.seq (.seq (.region [rq 0 18 (.move (.tm 5)),
 rq 1 19 (.move (.tm 4)),
 rq 2 20 (.len false (.tm 19)),
 rq 3 21 (.bin .leq (.tm 18) (.tm 20))] 4 [3, 4, 5, 21])
 (.cond (.tm 21)
 .skip
 (.exit 0)))
 (.seq (.block 1
 (.seq (.region [rq 0 29 (.load 3 true (.tm 3)),
 rq 1 30 (.move (.tm 4)),
 rq 2 31 (.move (.tm 5)),
 rq 3 32 (.slc 3 (.tm 30) none (some (.tm 31)) none),
 rq 4 33 (.call n_impl_TrcCheck [(.tm 29), (.tm 32)]),
 rq 5 28 (.move (.tm 33)),
 rq 6 34 (.ext (.tm 28) 0),
 rq 7 35 (.ext (.tm 28) 1),
 rq 8 6 (.move (.tm 34)),
 rq 9 7 (.move (.tm 35))] 10 [3, 4, 5, 6, 7])
 (.seq (.region [⟨0, (some 37), .load 3 true (.tm 3), none, [9], [], true⟩,
 rq 2 39 (.move (.tm 4)),
 rq 3 40 (.move (.tm 5)),
 rq 4 41 (.slc 3 (.tm 39) none (some (.tm 40)) none),
 rq 9 8 (.alloc [(.osl 0 0 0 0 0), (.osl 0 0 0 0 0), (.osl 0 0 0 0 0), (.osl 0 0 0 0 0), (.osl 0 0 0 0 0), (.osl 0 0 0 0 0)]),
 ⟨1, (some 38), .call n_impl_TlmNew [], none, [9], [0], false⟩,
 ⟨5, (some 42), .call n_impl_TlmRun [(.tm 37), (.tm 38), (.tm 41)], none, [9], [], false⟩,
 rq 6 36 (.move (.tm 42)),
 rq 7 43 (.ext (.tm 36) 0),
 rq 8 44 (.ext (.tm 36) 1),
 rn 10 (.store 6 true (.tm 8) (.tm 43)),
 rq 11 9 (.move (.tm 44))] 12 [3, 4, 5, 6, 7, 9])
 (.seq (.region [rq 0 45 (.move (.tm 6)),
 rq 1 46 (.bin .neq (.tm 45) (.kv (.int .i64 (-1)))),
 rq 2 47 (.move (.tm 46)),
 ⟨3, (some 48), .move (.tm 7), (some (47, false)), [], [], false⟩,
 ⟨4, (some 49), .bin .neq (.tm 48) (ki 0), (some (47, false)), [], [], false⟩,
 rq 5 50 (.pick (.tm 47) (.kv (.bool true)) (.tm 49)),
 rq 6 51 (.move (.tm 50)),
 ⟨7, (some 52), .move (.tm 9), (some (51, false)), [], [], false⟩,
 ⟨8, (some 53), .move (.tm 5), (some (51, false)), [], [], false⟩,
 ⟨9, (some 54), .bin .neq (.tm 52) (.tm 53), (some (51, false)), [], [], false⟩,
 rq 10 55 (.pick (.tm 51) (.kv (.bool true)) (.tm 54))] 11 [3, 4, 5, 55])
 (.cond (.tm 55)
 (.seq (.region [rq 0 2 (.move (.kv (.bool false)))] 1 [2])
 .ret)
 .skip)))))
 (.region [rq 0 22 (.move (.tm 5)),
 rq 1 23 (.bin .add (.tm 22) (ki 1)),
 rq 2 24 (.move (.tm 4)),
 rq 3 25 (.len false (.tm 24)),
 rq 4 26 (.bin .quo (.tm 25) (ki 9)),
 rq 5 27 (.bin .add (.tm 23) (.tm 26)),
 rq 6 5 (.move (.tm 27))] 7 [3, 4, 5]))))))
 (.seq (.region [rq 0 56 (.call n_laws_crOk []),
 rq 1 2 (.move (.tm 56))] 2 [2])
 .ret)))))
def ct_laws_FnTrcPart : List Cert := [⟨[], [0]⟩, ⟨[], [0, 12]⟩, ⟨[], [2]⟩, ⟨[], [3, 4]⟩, ⟨[], [3, 4, 5]⟩, ⟨[], [3, 4, 5, 21]⟩, ⟨[cz 0, cz 1, cz 2, cz 3, cz 4, cz 5, cz 6, cz 7, cz 8, cz 9], [3, 4, 5, 6, 7]⟩, ⟨[(0, [9], [], true), cz 2, cz 3, cz 4, cz 9, (1, [9], [0], false), (5, [9], [], false), cz 6, cz 7, cz 8, cz 10, cz 11], [3, 4, 5, 6, 7, 9]⟩, ⟨[], [3, 4, 5, 55]⟩, ⟨[], [2]⟩, ⟨[], [3, 4, 5]⟩, ⟨[], [2]⟩]
def rs_laws_FnTrcPart : List ResV := [.tm 2]
theorem ok_laws_FnTrcPart : compF Tryz.prog Tryz.f8 ct_laws_FnTrcPart = some (ac_laws_FnTrcPart, rs_laws_FnTrcPart) := by kernel_rfl
theorem en_laws_FnTrcPart : EnTy Tryz.prog n_laws_FnTrcPart Tryz.f8 ac_laws_FnTrcPart rs_laws_FnTrcPart :=
  EnTy.mk Tryz.func8 (by kernel_rfl) ok_laws_FnTrcPart

end Go.Proofs.YtiimjokpcbapeaaGreat
