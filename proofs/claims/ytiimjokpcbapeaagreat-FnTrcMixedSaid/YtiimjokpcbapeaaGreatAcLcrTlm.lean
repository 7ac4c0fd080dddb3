/- The code of the functions with types resolved, checked against the program. Printed by a program (gen.py). -/
import Derived.Test.YtiimjokpcbapeaaGreatAcN
namespace Go.Proofs.YtiimjokpcbapeaaGreat
open Go Go.AM
set_option maxRecDepth 100000

/- loop.example/crossyard/laws.crTlm -/
def ac_laws_crTlm : AC :=
 (.seq (.region [rq 0 2 (.box true (.tm 0)),
 rq 1 3 (.box true (.tm 1)),
 rq 2 4 (.move (.kv (.bool false)))] 3 [2, 3])
 (.seq (.region [rq 0 5 (.fld 0 (.tm 2)),
 rq 1 6 (.load 2 true (.tm 5)),
 rq 2 7 (.fld 0 (.tm 3)),
 rq 3 8 (.load 2 true (.tm 7)),
 rq 4 9 (.call n_laws_crAtm [(.tm 6), (.tm 8)]),
 rq 5 10 (.move (.tm 9)),
 ⟨6, (some 11), .fld 2 (.tm 2), (some (10, true)), [], [], false⟩,
 ⟨7, (some 12), .load 1 false (.tm 11), (some (10, true)), [], [], false⟩,
 ⟨8, (some 13), .fld 2 (.tm 3), (some (10, true)), [], [], false⟩,
 ⟨9, (some 14), .load 1 false (.tm 13), (some (10, true)), [], [], false⟩,
 ⟨10, (some 15), .call n_laws_crInts [(.tm 12), (.tm 14)], (some (10, true)), [], [], false⟩,
 rq 11 16 (.pick (.tm 10) (.tm 15) (.kv (.bool false))),
 rq 12 17 (.move (.tm 16)),
 ⟨13, (some 18), .fld 3 (.tm 2), (some (17, true)), [], [], false⟩,
 ⟨14, (some 19), .load 1 false (.tm 18), (some (17, true)), [], [], false⟩,
 ⟨15, (some 20), .fld 3 (.tm 3), (some (17, true)), [], [], false⟩,
 ⟨16, (some 21), .load 1 false (.tm 20), (some (17, true)), [], [], false⟩,
 ⟨17, (some 22), .call n_laws_crJobs [(.tm 19), (.tm 21)], (some (17, true)), [], [], false⟩,
 rq 18 23 (.pick (.tm 17) (.tm 22) (.kv (.bool false))),
 rq 19 24 (.move (.tm 23)),
 ⟨20, (some 25), .fld 4 (.tm 2), (some (24, true)), [], [], false⟩,
 ⟨21, (some 26), .load 1 false (.tm 25), (some (24, true)), [], [], false⟩,
 ⟨22, (some 27), .fld 4 (.tm 3), (some (24, true)), [], [], false⟩,
 ⟨23, (some 28), .load 1 false (.tm 27), (some (24, true)), [], [], false⟩,
 ⟨24, (some 29), .call n_laws_crJobs [(.tm 26), (.tm 28)], (some (24, true)), [], [], false⟩,
 rq 25 30 (.pick (.tm 24) (.tm 29) (.kv (.bool false))),
 rq 26 31 (.move (.tm 30)),
 ⟨27, (some 32), .fld 5 (.tm 2), (some (31, true)), [], [], false⟩,
 ⟨28, (some 33), .load 1 false (.tm 32), (some (31, true)), [], [], false⟩,
 ⟨29, (some 34), .fld 5 (.tm 3), (some (31, true)), [], [], false⟩,
 ⟨30, (some 35), .load 1 false (.tm 34), (some (31, true)), [], [], false⟩,
 ⟨31, (some 36), .call n_laws_crJobs [(.tm 33), (.tm 35)], (some (31, true)), [], [], false⟩,
 rq 32 37 (.pick (.tm 31) (.tm 36) (.kv (.bool false))),
 rq 33 4 (.move (.tm 37))] 34 [4])
 .ret))
def ct_laws_crTlm : List Cert := [⟨[], [2, 3]⟩, ⟨[], [4]⟩]
def rs_laws_crTlm : List ResV := [.tm 4]
theorem ok_laws_crTlm : compF Tryz.prog Tryz.f26 ct_laws_crTlm = some (ac_laws_crTlm, rs_laws_crTlm) := by kernel_rfl
theorem en_laws_crTlm : EnTy Tryz.prog n_laws_crTlm Tryz.f26 ac_laws_crTlm rs_laws_crTlm :=
  EnTy.mk Tryz.func26 (by kernel_rfl) ok_laws_crTlm

end Go.Proofs.YtiimjokpcbapeaaGreat
