/- The code of the functions with types resolved, checked against the program. Printed by a program (gen.py). -/
import Derived.Test.YtiimjokpcbapeaaGreatAcN
namespace Go.Proofs.YtiimjokpcbapeaaGreat
open Go Go.AM
set_option maxRecDepth 100000

/- loop.example/crossyard/laws.FnTlmOnce -/
def ac_laws_FnTlmOnce : AC :=
 (.seq (.region [rq 0 2 (.move (.kv (.bool false)))] 1 [0])
 (.seq (.seq (.region [rq 0 7 (.move (.tm 0)),
 rq 1 8 (.len false (.tm 7)),
 rq 2 9 (.bin .gtr (.tm 8) (ki 1048576))] 3 [0, 9])
 (.cond (.tm 9)
 (.seq (.region [rq 0 2 (.move (.kv (.bool true)))] 1 [2])
 .ret)
 .skip))
 (.seq (.region [rq 0 11 (.move (.tm 0)),
 rq 1 12 (.call n_spec_DrawTlmPlay [(.tm 11)]),
 rq 2 10 (.move (.tm 12)),
 rq 3 13 (.ext (.tm 10) 0),
 rq 4 14 (.ext (.tm 10) 1),
 rq 5 3 (.alloc [(.osl 0 0 0 0 0), (.osl 0 0 0 0 0), (.osl 0 0 0 0 0)]),
 rn 6 (.store 3 true (.tm 3) (.tm 13)),
 rq 7 4 (.move (.tm 14))] 8 [3, 4])
 (.seq (.region [⟨0, (some 16), .load 3 true (.tm 3), none, [7], [], true⟩,
 rq 2 18 (.move (.tm 4)),
 rq 7 5 (.alloc [(.osl 0 0 0 0 0), (.osl 0 0 0 0 0), (.osl 0 0 0 0 0), (.osl 0 0 0 0 0), (.osl 0 0 0 0 0), (.osl 0 0 0 0 0)]),
 ⟨1, (some 17), .call n_impl_TlmNew [], none, [7], [0], false⟩,
 ⟨3, (some 19), .call n_impl_TlmRun [(.tm 16), (.tm 17), (.tm 18)], none, [7], [], false⟩,
 rq 4 15 (.move (.tm 19)),
 rq 5 20 (.ext (.tm 15) 0),
 rq 6 21 (.ext (.tm 15) 1),
 rn 8 (.store 6 true (.tm 5) (.tm 20)),
 rq 9 6 (.move (.tm 21))] 10 [4, 6])
 (.seq (.seq (.region [rq 0 22 (.move (.tm 6)),
 rq 1 23 (.move (.tm 4)),
 rq 2 24 (.len false (.tm 23)),
 rq 3 25 (.bin .neq (.tm 22) (.tm 24))] 4 [4, 25])
 (.cond (.tm 25)
 (.seq (.region [rq 0 2 (.move (.kv (.bool false)))] 1 [2])
 .ret)
 .skip))
 (.seq (.region [rq 0 26 (.move (.tm 4)),
 rq 1 27 (.call n_laws_crOnce [(.tm 26)]),
 rq 2 28 (.move (.tm 27)),
 ⟨3, (some 29), .call n_laws_crOk [], (some (28, true)), [], [], false⟩,
 rq 4 30 (.pick (.tm 28) (.tm 29) (.kv (.bool false))),
 rq 5 2 (.move (.tm 30))] 6 [2])
 .ret))))))
def ct_laws_FnTlmOnce : List Cert := [⟨[], [0]⟩, ⟨[], [0, 9]⟩, ⟨[], [2]⟩, ⟨[], [3, 4]⟩, ⟨[(0, [7], [], true), cz 2, cz 7, (1, [7], [0], false), (3, [7], [], false), cz 4, cz 5, cz 6, cz 8, cz 9], [4, 6]⟩, ⟨[], [4, 25]⟩, ⟨[], [2]⟩, ⟨[], [2]⟩]
def rs_laws_FnTlmOnce : List ResV := [.tm 2]
theorem ok_laws_FnTlmOnce : compF Tryz.prog Tryz.f9 ct_laws_FnTlmOnce = some (ac_laws_FnTlmOnce, rs_laws_FnTlmOnce) := by kernel_rfl
theorem en_laws_FnTlmOnce : EnTy Tryz.prog n_laws_FnTlmOnce Tryz.f9 ac_laws_FnTlmOnce rs_laws_FnTlmOnce :=
  EnTy.mk Tryz.func9 (by kernel_rfl) ok_laws_FnTlmOnce

end Go.Proofs.YtiimjokpcbapeaaGreat
