/- The code of the functions with types resolved, checked against the program. Printed by a program (gen.py). -/
import Derived.Test.YtiimjokpcbapeaaGreatAcN
namespace Go.Proofs.YtiimjokpcbapeaaGreat
open Go Go.AM
set_option maxRecDepth 100000

/- loop.example/crossyard/laws.crJobs -/
def ac_laws_crJobs : AC :=
 (.seq (.region [rq 0 4 (.move (.kv (.bool false)))] 1 [0, 1])
 (.seq (.seq (.region [rq 0 6 (.move (.tm 0)),
 rq 1 7 (.len false (.tm 6)),
 rq 2 8 (.move (.tm 1)),
 rq 3 9 (.len false (.tm 8)),
 rq 4 10 (.bin .neq (.tm 7) (.tm 9))] 5 [0, 1, 10])
 (.cond (.tm 10)
 (.seq (.region [rq 0 4 (.move (.kv (.bool false)))] 1 [4])
 .ret)
 .skip))
 (.seq (.seq (.region [rq 0 5 (.move (ki 0))] 1 [0, 1, 5])
 (.block 0
 (.loop
 (.seq (.seq (.region [rq 0 11 (.move (.tm 5)),
 rq 1 12 (.move (.tm 0)),
 rq 2 13 (.len false (.tm 12)),
 rq 3 14 (.bin .lss (.tm 11) (.tm 13))] 4 [0, 1, 5, 14])
 (.cond (.tm 14)
 .skip
 (.exit 0)))
 (.seq (.block 1
 (.seq (.region [rq 0 17 (.move (.tm 0)),
 rq 1 18 (.move (.tm 5)),
 rq 2 19 (.idx 5 (.tm 17) (.tm 18)),
 rq 3 20 (.fld 0 (.tm 19)),
 rq 4 21 (.load 1 false (.tm 20)),
 rq 5 22 (.move (.tm 1)),
 rq 6 23 (.move (.tm 5)),
 rq 7 24 (.idx 5 (.tm 22) (.tm 23)),
 rq 8 25 (.fld 0 (.tm 24)),
 rq 9 26 (.load 1 false (.tm 25)),
 rq 10 27 (.bin .neq (.tm 21) (.tm 26)),
 rq 11 28 (.move (.tm 27)),
 ⟨12, (some 29), .move (.tm 0), (some (28, false)), [], [], false⟩,
 ⟨13, (some 30), .move (.tm 5), (some (28, false)), [], [], false⟩,
 ⟨14, (some 31), .idx 5 (.tm 29) (.tm 30), (some (28, false)), [], [], false⟩,
 ⟨15, (some 32), .fld 1 (.tm 31), (some (28, false)), [], [], false⟩,
 ⟨16, (some 33), .load 1 false (.tm 32), (some (28, false)), [], [], false⟩,
 ⟨17, (some 34), .move (.tm 1), (some (28, false)), [], [], false⟩,
 ⟨18, (some 35), .move (.tm 5), (some (28, false)), [], [], false⟩,
 ⟨19, (some 36), .idx 5 (.tm 34) (.tm 35), (some (28, false)), [], [], false⟩,
 ⟨20, (some 37), .fld 1 (.tm 36), (some (28, false)), [], [], false⟩,
 ⟨21, (some 38), .load 1 false (.tm 37), (some (28, false)), [], [], false⟩,
 ⟨22, (some 39), .bin .neq (.tm 33) (.tm 38), (some (28, false)), [], [], false⟩,
 rq 23 40 (.pick (.tm 28) (.kv (.bool true)) (.tm 39)),
 rq 24 41 (.move (.tm 40)),
 ⟨25, (some 42), .move (.tm 0), (some (41, false)), [], [], false⟩,
 ⟨26, (some 43), .move (.tm 5), (some (41, false)), [], [], false⟩,
 ⟨27, (some 44), .idx 5 (.tm 42) (.tm 43), (some (41, false)), [], [], false⟩,
 ⟨28, (some 45), .fld 2 (.tm 44), (some (41, false)), [], [], false⟩,
 ⟨29, (some 46), .load 3 true (.tm 45), (some (41, false)), [], [], false⟩,
 ⟨30, (some 47), .move (.tm 1), (some (41, false)), [], [], false⟩,
 ⟨31, (some 48), .move (.tm 5), (some (41, false)), [], [], false⟩,
 ⟨32, (some 49), .idx 5 (.tm 47) (.tm 48), (some (41, false)), [], [], false⟩,
 ⟨33, (some 50), .fld 2 (.tm 49), (some (41, false)), [], [], false⟩,
 ⟨34, (some 51), .load 3 true (.tm 50), (some (41, false)), [], [], false⟩,
 ⟨35, (some 52), .call n_laws_crRsp [(.tm 46), (.tm 51)], (some (41, false)), [], [], false⟩,
 ⟨36, (some 53), .un .not (.tm 52), (some (41, false)), [], [], false⟩,
 rq 37 54 (.pick (.tm 41) (.kv (.bool true)) (.tm 53))] 38 [0, 1, 5, 54])
 (.cond (.tm 54)
 (.seq (.region [rq 0 4 (.move (.kv (.bool false)))] 1 [4])
 .ret)
 .skip)))
 (.region [rq 0 15 (.move (.tm 5)),
 rq 1 16 (.bin .add (.tm 15) (ki 1)),
 rq 2 5 (.move (.tm 16))] 3 [0, 1, 5]))))))
 (.seq (.region [rq 0 4 (.move (.kv (.bool true)))] 1 [4])
 .ret))))
def ct_laws_crJobs : List Cert := [⟨[], [0, 1]⟩, ⟨[], [0, 1, 10]⟩, ⟨[], [4]⟩, ⟨[], [0, 1, 5]⟩, ⟨[], [0, 1, 5, 14]⟩, ⟨[cz 0, cz 1, cz 2, cz 3, cz 4, cz 5, cz 6, cz 7, cz 8, cz 9, cz 10, cz 11, cz 12, cz 13, cz 14, cz 15, cz 16, cz 17, cz 18, cz 19, cz 20, cz 21, cz 22, cz 23, cz 24, cz 25, cz 26, cz 27, cz 28, cz 29, cz 30, cz 31, cz 32, cz 33, cz 34, cz 35, cz 36, cz 37], [0, 1, 5, 54]⟩, ⟨[], [4]⟩, ⟨[], [0, 1, 5]⟩, ⟨[], [4]⟩]
def rs_laws_crJobs : List ResV := [.tm 4]
theorem ok_laws_crJobs : compF Tryz.prog Tryz.f28 ct_laws_crJobs = some (ac_laws_crJobs, rs_laws_crJobs) := by kernel_rfl
theorem en_laws_crJobs : EnTy Tryz.prog n_laws_crJobs Tryz.f28 ac_laws_crJobs rs_laws_crJobs :=
  EnTy.mk Tryz.func28 (by kernel_rfl) ok_laws_crJobs

end Go.Proofs.YtiimjokpcbapeaaGreat
