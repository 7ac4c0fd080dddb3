/- The code of the functions with types resolved, checked against the program. Printed by a program (gen.py). -/
import Derived.Test.YtiimjokpcbapeaaGreatAcN
namespace Go.Proofs.YtiimjokpcbapeaaGreat
open Go Go.AM
set_option maxRecDepth 100000

/- loop.example/crossyard/impl.TrcCheck -/
def ac_impl_TrcCheck : AC :=
 (.seq (.region [rq 0 2 (.box true (.tm 0)),
 rq 1 4 (.move (ki 0)),
 rq 2 5 (.move (ki 0))] 3 [1, 2])
 (.seq (.seq (.region [rq 0 10 (.load 3 true (.tm 2)),
 rq 1 11 (.call n_impl_BusOk [(.tm 10)]),
 rq 2 12 (.un .not (.tm 11)),
 rq 3 13 (.move (.tm 12)),
 ⟨4, (some 14), .move (.tm 1), (some (13, false)), [], [], false⟩,
 ⟨5, (some 15), .len false (.tm 14), (some (13, false)), [], [], false⟩,
 ⟨6, (some 16), .bin .gtr (.tm 15) (ki 200), (some (13, false)), [], [], false⟩,
 rq 7 17 (.pick (.tm 13) (.kv (.bool true)) (.tm 16))] 8 [1, 2, 17])
 (.cond (.tm 17)
 (.seq (.region [rq 0 4 (.move (ki 0)),
 rq 1 5 (.move (ki 1))] 2 [4, 5])
 .ret)
 .skip))
 (.seq (.region [rq 0 18 (.call n_impl_TlmNew []),
 rq 1 6 (.alloc [(.osl 0 0 0 0 0), (.osl 0 0 0 0 0), (.osl 0 0 0 0 0), (.osl 0 0 0 0 0), (.osl 0 0 0 0 0), (.osl 0 0 0 0 0)]),
 rn 2 (.store 6 true (.tm 6) (.tm 18))] 3 [1, 2, 6])
 (.seq (.seq (.region [rq 0 19 (.move (.tm 1)),
 rq 1 20 (.len false (.tm 19)),
 rq 2 21 (.move (ki 0))] 3 [2, 6, 19, 20, 21])
 (.block 0
 (.loop
 (.seq (.region [rq 0 22 (.bin .lss (.tm 21) (.tm 20))] 1 [2, 6, 19, 20, 21, 22])
 (.seq (.cond (.tm 22)
 .skip
 (.exit 0))
 (.seq (.block 1
 (.seq (.region [rq 0 23 (.move (.tm 21)),
 rq 1 24 (.idx 3 (.tm 19) (.tm 21)),
 rq 2 25 (.load 3 true (.tm 24)),
 rq 3 8 (.alloc [(.v (.int .i64 0)), (.v (.int .i64 0)), (.v (.int .i64 0))]),
 rq 4 7 (.move (.tm 23)),
 rn 5 (.store 3 true (.tm 8) (.tm 25))] 6 [2, 6, 7, 8, 19, 20, 21])
 (.seq (.seq (.region [rq 0 26 (.load 3 true (.tm 2)),
 rq 1 27 (.load 6 true (.tm 6)),
 rq 2 28 (.load 3 true (.tm 8)),
 rq 3 29 (.call n_impl_BusCfg_why [(.tm 26), (.tm 27), (.tm 28)]),
 rq 4 9 (.move (.tm 29))] 5 [2, 6, 7, 8, 9, 19, 20, 21])
 (.seq (.region [rq 0 30 (.move (.tm 9)),
 rq 1 31 (.bin .neq (.tm 30) (ki 0))] 2 [2, 6, 7, 8, 9, 19, 20, 21, 31])
 (.cond (.tm 31)
 (.seq (.region [rq 0 32 (.move (.tm 7)),
 rq 1 33 (.move (.tm 9)),
 rq 2 4 (.move (.tm 32)),
 rq 3 5 (.move (.tm 33))] 4 [4, 5])
 .ret)
 .skip)))
 (.region [rq 0 34 (.load 3 true (.tm 2)),
 rq 1 35 (.load 3 true (.tm 8)),
 rq 2 36 (.call n_impl_BusCfg_happen [(.tm 34), (.tm 6), (.tm 35)])] 3 [2, 6, 19, 20, 21]))))
 (.region [rq 0 37 (.bin .add (.tm 21) (ki 1)),
 rq 1 21 (.move (.tm 37))] 2 [2, 6, 19, 20, 21])))))))
 (.seq (.region [rq 0 4 (.move (.kv (.int .i64 (-1)))),
 rq 1 5 (.move (ki 0))] 2 [4, 5])
 .ret)))))
def ct_impl_TrcCheck : List Cert := [⟨[], [1, 2]⟩, ⟨[], [1, 2, 17]⟩, ⟨[], [4, 5]⟩, ⟨[], [1, 2, 6]⟩, ⟨[], [2, 6, 19, 20, 21]⟩, ⟨[], [2, 6, 19, 20, 21, 22]⟩, ⟨[], [2, 6, 7, 8, 19, 20, 21]⟩, ⟨[], [2, 6, 7, 8, 9, 19, 20, 21]⟩, ⟨[], [2, 6, 7, 8, 9, 19, 20, 21, 31]⟩, ⟨[], [4, 5]⟩, ⟨[], [2, 6, 19, 20, 21]⟩, ⟨[], [2, 6, 19, 20, 21]⟩, ⟨[], [4, 5]⟩]
def rs_impl_TrcCheck : List ResV := [.tm 4, .tm 5]
theorem ok_impl_TrcCheck : compF Tryz.prog Tryz.f22 ct_impl_TrcCheck = some (ac_impl_TrcCheck, rs_impl_TrcCheck) := by kernel_rfl
theorem en_impl_TrcCheck : EnTy Tryz.prog n_impl_TrcCheck Tryz.f22 ac_impl_TrcCheck rs_impl_TrcCheck :=
  EnTy.mk Tryz.func22 (by kernel_rfl) ok_impl_TrcCheck

end Go.Proofs.YtiimjokpcbapeaaGreat
