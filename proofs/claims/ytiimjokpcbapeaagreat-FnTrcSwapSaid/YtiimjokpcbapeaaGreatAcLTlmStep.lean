/- The code of the functions with types resolved, checked against the program. Printed by a program (gen.py). -/
import Derived.Test.YtiimjokpcbapeaaGreatAcN
namespace Go.Proofs.YtiimjokpcbapeaaGreat
open Go Go.AM
set_option maxRecDepth 100000

/- loop.example/crossyard/impl.TlmStep -/
def ac_impl_TlmStep : AC :=
 (.seq (.region [rq 0 3 (.box true (.tm 0)),
 rq 1 4 (.box true (.tm 1)),
 rq 2 5 (.box true (.tm 2)),
 rq 3 6 (.alloc [(.osl 0 0 0 0 0), (.osl 0 0 0 0 0), (.osl 0 0 0 0 0), (.osl 0 0 0 0 0), (.osl 0 0 0 0 0), (.osl 0 0 0 0 0)]),
 rq 4 7 (.move (.kv (.bool false)))] 5 [3, 4, 5, 6])
 (.seq (.seq (.region [rq 0 9 (.load 3 true (.tm 3)),
 rq 1 10 (.load 6 true (.tm 4)),
 rq 2 11 (.call n_impl_TlmOk [(.tm 9), (.tm 10)]),
 rq 3 12 (.un .not (.tm 11))] 4 [3, 4, 5, 6, 12])
 (.cond (.tm 12)
 (.seq (.region [rq 0 13 (.build [(.osl 0 0 0 0 0), (.osl 0 0 0 0 0), (.osl 0 0 0 0 0), (.osl 0 0 0 0 0), (.osl 0 0 0 0 0), (.osl 0 0 0 0 0)] []),
 rn 1 (.store 6 true (.tm 6) (.tm 13)),
 rq 2 7 (.move (.kv (.bool false)))] 3 [6, 7])
 .ret)
 .skip))
 (.seq (.region [rq 0 14 (.load 6 true (.tm 4)),
 rq 1 15 (.call n_impl_TlmState_copyOf [(.tm 14)]),
 rq 2 8 (.alloc [(.osl 0 0 0 0 0), (.osl 0 0 0 0 0), (.osl 0 0 0 0 0), (.osl 0 0 0 0 0), (.osl 0 0 0 0 0), (.osl 0 0 0 0 0)]),
 rn 3 (.store 6 true (.tm 8) (.tm 15))] 4 [3, 4, 5, 6, 8])
 (.seq (.seq (.region [rq 0 16 (.load 3 true (.tm 3)),
 rq 1 17 (.load 6 true (.tm 4)),
 rq 2 18 (.load 3 true (.tm 5)),
 rq 3 19 (.call n_impl_BusCfg_why [(.tm 16), (.tm 17), (.tm 18)]),
 rq 4 20 (.bin .neq (.tm 19) (ki 0))] 5 [3, 5, 6, 8, 20])
 (.cond (.tm 20)
 (.seq (.region [rq 0 21 (.load 6 true (.tm 8)),
 rn 1 (.store 6 true (.tm 6) (.tm 21)),
 rq 2 7 (.move (.kv (.bool false)))] 3 [6, 7])
 .ret)
 .skip))
 (.seq (.region [rq 0 22 (.load 3 true (.tm 3)),
 rq 1 23 (.load 3 true (.tm 5)),
 rq 2 24 (.call n_impl_BusCfg_happen [(.tm 22), (.tm 8), (.tm 23)])] 3 [6, 8])
 (.seq (.region [rq 0 25 (.load 6 true (.tm 8)),
 rq 1 26 (.call n_impl_TlmState_copyOf [(.tm 25)]),
 rn 2 (.store 6 true (.tm 6) (.tm 26)),
 rq 3 7 (.move (.kv (.bool true)))] 4 [6, 7])
 .ret))))))
def ct_impl_TlmStep : List Cert := [⟨[], [3, 4, 5, 6]⟩, ⟨[], [3, 4, 5, 6, 12]⟩, ⟨[], [6, 7]⟩, ⟨[], [3, 4, 5, 6, 8]⟩, ⟨[], [3, 5, 6, 8, 20]⟩, ⟨[], [6, 7]⟩, ⟨[], [6, 8]⟩, ⟨[], [6, 7]⟩]
def rs_impl_TlmStep : List ResV := [.cell 6 6 true, .tm 7]
theorem ok_impl_TlmStep : compF Tryz.prog Tryz.f20 ct_impl_TlmStep = some (ac_impl_TlmStep, rs_impl_TlmStep) := by kernel_rfl
theorem en_impl_TlmStep : EnTy Tryz.prog n_impl_TlmStep Tryz.f20 ac_impl_TlmStep rs_impl_TlmStep :=
  EnTy.mk Tryz.func20 (by kernel_rfl) ok_impl_TlmStep

end Go.Proofs.YtiimjokpcbapeaaGreat
