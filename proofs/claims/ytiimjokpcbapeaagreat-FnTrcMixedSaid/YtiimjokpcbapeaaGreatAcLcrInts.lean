/- The code of the functions with types resolved, checked against the program. Printed by a program (gen.py). -/
import Derived.Test.YtiimjokpcbapeaaGreatAcN
namespace Go.Proofs.YtiimjokpcbapeaaGreat
open Go Go.AM
set_option maxRecDepth 100000

/- loop.example/crossyard/laws.crInts -/
def ac_laws_crInts : AC :=
 (.seq (.region [rq 0 4 (.move (.kv (.bool false)))] 1 [0, 1])
 (.seq (.seq (.region [rq 0 6 (.move (.tm 0)),
 rq 1 7 (.len false (.tm 6)),
 rq 2 8 (.move (.tm 1)),
 rq 3 9 (.len false (.tm 8)),
 rq 4 10 (.bin .neq (.tm 7) (.tm 9))] 5 [0, 1, 10])
 (.cond (.tm 10)
 (.seq (.region [rq 0 4 (.move (.kv (.bool false)))] 1 [4])
 .ret)
 .skip))
 (.seq (.seq (.region [rq 0 5 (.move (ki 0))] 1 [0, 1, 5])
 (.block 0
 (.loop
 (.seq (.seq (.region [rq 0 11 (.move (.tm 5)),
 rq 1 12 (.move (.tm 0)),
 rq 2 13 (.len false (.tm 12)),
 rq 3 14 (.bin .lss (.tm 11) (.tm 13))] 4 [0, 1, 5, 14])
 (.cond (.tm 14)
 .skip
 (.exit 0)))
 (.seq (.block 1
 (.seq (.region [rq 0 17 (.move (.tm 0)),
 rq 1 18 (.move (.tm 5)),
 rq 2 19 (.idx 1 (.tm 17) (.tm 18)),
 rq 3 20 (.load 1 false (.tm 19)),
 rq 4 21 (.move (.tm 1)),
 rq 5 22 (.move (.tm 5)),
 rq 6 23 (.idx 1 (.tm 21) (.tm 22)),
 rq 7 24 (.load 1 false (.tm 23)),
 rq 8 25 (.bin .neq (.tm 20) (.tm 24))] 9 [0, 1, 5, 25])
 (.cond (.tm 25)
 (.seq (.region [rq 0 4 (.move (.kv (.bool false)))] 1 [4])
 .ret)
 .skip)))
 (.region [rq 0 15 (.move (.tm 5)),
 rq 1 16 (.bin .add (.tm 15) (ki 1)),
 rq 2 5 (.move (.tm 16))] 3 [0, 1, 5]))))))
 (.seq (.region [rq 0 4 (.move (.kv (.bool true)))] 1 [4])
 .ret))))
def ct_laws_crInts : List Cert := [⟨[], [0, 1]⟩, ⟨[], [0, 1, 10]⟩, ⟨[], [4]⟩, ⟨[], [0, 1, 5]⟩, ⟨[], [0, 1, 5, 14]⟩, ⟨[cz 0, cz 1, cz 2, cz 3, cz 4, cz 5, cz 6, cz 7, cz 8], [0, 1, 5, 25]⟩, ⟨[], [4]⟩, ⟨[], [0, 1, 5]⟩, ⟨[], [4]⟩]
def rs_laws_crInts : List ResV := [.tm 4]
theorem ok_laws_crInts : compF Tryz.prog Tryz.f46 ct_laws_crInts = some (ac_laws_crInts, rs_laws_crInts) := by kernel_rfl
theorem en_laws_crInts : EnTy Tryz.prog n_laws_crInts Tryz.f46 ac_laws_crInts rs_laws_crInts :=
  EnTy.mk Tryz.func46 (by kernel_rfl) ok_laws_crInts

end Go.Proofs.YtiimjokpcbapeaaGreat
