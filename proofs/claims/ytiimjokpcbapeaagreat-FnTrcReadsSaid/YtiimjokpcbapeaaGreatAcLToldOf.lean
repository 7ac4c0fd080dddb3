/- The code of the functions with types resolved, checked against the program. Printed by a program (gen.py). -/
import Derived.Test.YtiimjokpcbapeaaGreatAcN
namespace Go.Proofs.YtiimjokpcbapeaaGreat
open Go Go.AM
set_option maxRecDepth 100000

/- loop.example/crossyard/impl.ToldOf -/
def ac_impl_ToldOf : AC :=
 (.seq (.region [rq 0 4 (.move (.kv (.slice none 0 0)))] 1 [0, 1])
 (.seq (.region [rq 0 5 (.move (.kv (.slice none 0 0)))] 1 [0, 1, 5])
 (.seq (.seq (.region [rq 0 8 (.move (.tm 0)),
 rq 1 9 (.len false (.tm 8)),
 rq 2 10 (.move (ki 0))] 3 [1, 5, 8, 9, 10])
 (.block 0
 (.loop
 (.seq (.region [rq 0 11 (.bin .lss (.tm 10) (.tm 9))] 1 [1, 5, 8, 9, 10, 11])
 (.seq (.cond (.tm 11)
 .skip
 (.exit 0))
 (.seq (.block 1
 (.seq (.region [rq 0 12 (.idx 5 (.tm 8) (.tm 10)),
 rq 1 13 (.load 5 true (.tm 12)),
 rq 2 7 (.alloc [(.v (.int .i64 0)), (.v (.int .i64 0)), (.v (.int .i64 0)), (.v (.int .i64 0)), (.osl 0 0 0 0 0)]),
 rn 3 (.store 5 true (.tm 7) (.tm 13))] 4 [1, 5, 7, 8, 9, 10])
 (.seq (.region [rq 0 14 (.fld 0 (.tm 7)),
 rq 1 15 (.load 1 false (.tm 14)),
 rq 2 16 (.move (.tm 1)),
 rq 3 17 (.bin .eql (.tm 15) (.tm 16))] 4 [1, 5, 7, 8, 9, 10, 17])
 (.cond (.tm 17)
 (.region [rq 0 18 (.move (.tm 5)),
 rq 1 19 (.load 5 true (.tm 7)),
 rq 2 20 (.bslice 5 1 [(.v (.int .i64 0)), (.v (.int .i64 0)), (.v (.int .i64 0)), (.v (.int .i64 0)), (.osl 0 0 0 0 0)] [(0, 5, (.tm 19))]),
 rq 3 21 (.append 5 (.tm 18) (.tm 20)),
 rq 4 5 (.move (.tm 21))] 5 [1, 5, 8, 9, 10])
 .skip))))
 (.region [rq 0 22 (.bin .add (.tm 10) (ki 1)),
 rq 1 10 (.move (.tm 22))] 2 [1, 5, 8, 9, 10])))))))
 (.seq (.region [rq 0 23 (.move (.tm 5)),
 rq 1 24 (.call n_impl_copyJobs [(.tm 23)]),
 rq 2 4 (.move (.tm 24))] 3 [4])
 .ret))))
def ct_impl_ToldOf : List Cert := [⟨[], [0, 1]⟩, ⟨[], [0, 1, 5]⟩, ⟨[], [1, 5, 8, 9, 10]⟩, ⟨[], [1, 5, 8, 9, 10, 11]⟩, ⟨[], [1, 5, 7, 8, 9, 10]⟩, ⟨[], [1, 5, 7, 8, 9, 10, 17]⟩, ⟨[], [1, 5, 8, 9, 10]⟩, ⟨[], [1, 5, 8, 9, 10]⟩, ⟨[], [4]⟩]
def rs_impl_ToldOf : List ResV := [.tm 4]
theorem ok_impl_ToldOf : compF Tryz.prog Tryz.f24 ct_impl_ToldOf = some (ac_impl_ToldOf, rs_impl_ToldOf) := by kernel_rfl
theorem en_impl_ToldOf : EnTy Tryz.prog n_impl_ToldOf Tryz.f24 ac_impl_ToldOf rs_impl_ToldOf :=
  EnTy.mk Tryz.func24 (by kernel_rfl) ok_impl_ToldOf

end Go.Proofs.YtiimjokpcbapeaaGreat
