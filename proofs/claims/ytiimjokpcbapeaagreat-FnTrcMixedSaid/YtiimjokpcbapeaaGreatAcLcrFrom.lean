/- The code of the functions with types resolved, checked against the program. Printed by a program (gen.py). -/
import Derived.Test.YtiimjokpcbapeaaGreatAcN
namespace Go.Proofs.YtiimjokpcbapeaaGreat
open Go Go.AM
set_option maxRecDepth 100000

/- loop.example/crossyard/laws.crFrom -/
def ac_laws_crFrom : AC :=
 (.seq (.region [rq 0 4 (.move (.kv (.bool false)))] 1 [0, 1])
 (.seq (.seq (.region [rq 0 5 (.move (ki 0))] 1 [0, 1, 5])
 (.block 0
 (.loop
 (.seq (.seq (.region [rq 0 8 (.move (.tm 5)),
 rq 1 9 (.move (.tm 1)),
 rq 2 10 (.len false (.tm 9)),
 rq 3 11 (.bin .lss (.tm 8) (.tm 10))] 4 [0, 1, 5, 11])
 (.cond (.tm 11)
 .skip
 (.exit 0)))
 (.seq (.block 1
 (.seq (.region [rq 0 6 (.move (.kv (.bool false)))] 1 [0, 1, 5, 6])
 (.seq (.seq (.region [rq 0 7 (.move (ki 0))] 1 [0, 1, 5, 6, 7])
 (.block 2
 (.loop
 (.seq (.seq (.region [rq 0 14 (.move (.tm 7)),
 rq 1 15 (.move (.tm 0)),
 rq 2 16 (.len false (.tm 15)),
 rq 3 17 (.bin .lss (.tm 14) (.tm 16))] 4 [0, 1, 5, 6, 7, 17])
 (.cond (.tm 17)
 .skip
 (.exit 2)))
 (.seq (.block 3
 (.region [rq 0 20 (.move (.tm 6)),
 rq 1 21 (.move (.tm 20)),
 ⟨2, (some 22), .move (.tm 0), (some (21, false)), [], [], false⟩,
 ⟨3, (some 23), .move (.tm 7), (some (21, false)), [], [], false⟩,
 ⟨4, (some 24), .move (.tm 7), (some (21, false)), [], [], false⟩,
 ⟨5, (some 25), .bin .add (.tm 24) (ki 1), (some (21, false)), [], [], false⟩,
 ⟨6, (some 26), .slc 5 (.tm 22) (some (.tm 23)) (some (.tm 25)) none, (some (21, false)), [], [], false⟩,
 ⟨7, (some 27), .move (.tm 1), (some (21, false)), [], [], false⟩,
 ⟨8, (some 28), .move (.tm 5), (some (21, false)), [], [], false⟩,
 ⟨9, (some 29), .move (.tm 5), (some (21, false)), [], [], false⟩,
 ⟨10, (some 30), .bin .add (.tm 29) (ki 1), (some (21, false)), [], [], false⟩,
 ⟨11, (some 31), .slc 5 (.tm 27) (some (.tm 28)) (some (.tm 30)) none, (some (21, false)), [], [], false⟩,
 ⟨12, (some 32), .call n_laws_crJobs [(.tm 26), (.tm 31)], (some (21, false)), [], [], false⟩,
 rq 13 33 (.pick (.tm 21) (.kv (.bool true)) (.tm 32)),
 rq 14 6 (.move (.tm 33))] 15 [0, 1, 5, 6, 7]))
 (.region [rq 0 18 (.move (.tm 7)),
 rq 1 19 (.bin .add (.tm 18) (ki 1)),
 rq 2 7 (.move (.tm 19))] 3 [0, 1, 5, 6, 7]))))))
 (.seq (.region [rq 0 34 (.move (.tm 6)),
 rq 1 35 (.un .not (.tm 34))] 2 [0, 1, 5, 35])
 (.cond (.tm 35)
 (.seq (.region [rq 0 4 (.move (.kv (.bool false)))] 1 [4])
 .ret)
 .skip)))))
 (.region [rq 0 12 (.move (.tm 5)),
 rq 1 13 (.bin .add (.tm 12) (ki 1)),
 rq 2 5 (.move (.tm 13))] 3 [0, 1, 5]))))))
 (.seq (.region [rq 0 4 (.move (.kv (.bool true)))] 1 [4])
 .ret)))
def ct_laws_crFrom : List Cert := [⟨[], [0, 1]⟩, ⟨[], [0, 1, 5]⟩, ⟨[], [0, 1, 5, 11]⟩, ⟨[], [0, 1, 5, 6]⟩, ⟨[], [0, 1, 5, 6, 7]⟩, ⟨[], [0, 1, 5, 6, 7, 17]⟩, ⟨[cz 0, cz 1, cz 2, cz 3, cz 4, cz 5, cz 6, cz 7, cz 8, cz 9, cz 10, cz 11, cz 12, cz 13, cz 14], [0, 1, 5, 6, 7]⟩, ⟨[], [0, 1, 5, 6, 7]⟩, ⟨[], [0, 1, 5, 35]⟩, ⟨[], [4]⟩, ⟨[], [0, 1, 5]⟩, ⟨[], [4]⟩]
def rs_laws_crFrom : List ResV := [.tm 4]
theorem ok_laws_crFrom : compF Tryz.prog Tryz.f30 ct_laws_crFrom = some (ac_laws_crFrom, rs_laws_crFrom) := by kernel_rfl
theorem en_laws_crFrom : EnTy Tryz.prog n_laws_crFrom Tryz.f30 ac_laws_crFrom rs_laws_crFrom :=
  EnTy.mk Tryz.func30 (by kernel_rfl) ok_laws_crFrom

end Go.Proofs.YtiimjokpcbapeaaGreat
