/- The code of the functions with types resolved, checked against the program. Printed by a program (gen.py). -/
import Derived.Test.YtiimjokpcbapeaaGreatAcN
namespace Go.Proofs.YtiimjokpcbapeaaGreat
open Go Go.AM
set_option maxRecDepth 100000

/- loop.example/crossyard/laws.crAtm -/
def ac_laws_crAtm : AC :=
 (.seq (.region [rq 0 2 (.box true (.tm 0)),
 rq 1 3 (.box true (.tm 1)),
 rq 2 4 (.move (.kv (.bool false)))] 3 [2, 3])
 (.seq (.region [rq 0 5 (.fld 0 (.tm 2)),
 rq 1 6 (.fld 0 (.tm 5)),
 rq 2 7 (.load 1 false (.tm 6)),
 rq 3 8 (.fld 0 (.tm 3)),
 rq 4 9 (.fld 0 (.tm 8)),
 rq 5 10 (.load 1 false (.tm 9)),
 rq 6 11 (.call n_laws_crInts [(.tm 7), (.tm 10)]),
 rq 7 12 (.move (.tm 11)),
 ⟨8, (some 13), .fld 1 (.tm 2), (some (12, true)), [], [], false⟩,
 ⟨9, (some 14), .load 1 false (.tm 13), (some (12, true)), [], [], false⟩,
 ⟨10, (some 15), .fld 1 (.tm 3), (some (12, true)), [], [], false⟩,
 ⟨11, (some 16), .load 1 false (.tm 15), (some (12, true)), [], [], false⟩,
 ⟨12, (some 17), .call n_laws_crInts [(.tm 14), (.tm 16)], (some (12, true)), [], [], false⟩,
 rq 13 18 (.pick (.tm 12) (.tm 17) (.kv (.bool false))),
 rq 14 4 (.move (.tm 18))] 15 [4])
 .ret))
def ct_laws_crAtm : List Cert := [⟨[], [2, 3]⟩, ⟨[], [4]⟩]
def rs_laws_crAtm : List ResV := [.tm 4]
theorem ok_laws_crAtm : compF Tryz.prog Tryz.f27 ct_laws_crAtm = some (ac_laws_crAtm, rs_laws_crAtm) := by kernel_rfl
theorem en_laws_crAtm : EnTy Tryz.prog n_laws_crAtm Tryz.f27 ac_laws_crAtm rs_laws_crAtm :=
  EnTy.mk Tryz.func27 (by kernel_rfl) ok_laws_crAtm

end Go.Proofs.YtiimjokpcbapeaaGreat
