/- The code of the functions with types resolved, checked against the program. Printed by a program (gen.py). -/
import Derived.Test.YtiimjokpcbapeaaGreatAcN
namespace Go.Proofs.YtiimjokpcbapeaaGreat
open Go Go.AM
set_option maxRecDepth 100000

/- loop.example/crossyard/laws.crRsp -/
def ac_laws_crRsp : AC :=
 (.seq (.region [rq 0 2 (.box true (.tm 0)),
 rq 1 3 (.box true (.tm 1)),
 rq 2 4 (.move (.kv (.bool false)))] 3 [2, 3])
 (.seq (.region [rq 0 5 (.fld 0 (.tm 2)),
 rq 1 6 (.load 1 false (.tm 5)),
 rq 2 7 (.fld 0 (.tm 3)),
 rq 3 8 (.load 1 false (.tm 7)),
 rq 4 9 (.bin .eql (.tm 6) (.tm 8)),
 rq 5 10 (.move (.tm 9)),
 ⟨6, (some 11), .fld 1 (.tm 2), (some (10, true)), [], [], false⟩,
 ⟨7, (some 12), .load 1 false (.tm 11), (some (10, true)), [], [], false⟩,
 ⟨8, (some 13), .fld 1 (.tm 3), (some (10, true)), [], [], false⟩,
 ⟨9, (some 14), .load 1 false (.tm 13), (some (10, true)), [], [], false⟩,
 ⟨10, (some 15), .bin .eql (.tm 12) (.tm 14), (some (10, true)), [], [], false⟩,
 rq 11 16 (.pick (.tm 10) (.tm 15) (.kv (.bool false))),
 rq 12 17 (.move (.tm 16)),
 ⟨13, (some 18), .fld 2 (.tm 2), (some (17, true)), [], [], false⟩,
 ⟨14, (some 19), .load 1 false (.tm 18), (some (17, true)), [], [], false⟩,
 ⟨15, (some 20), .fld 2 (.tm 3), (some (17, true)), [], [], false⟩,
 ⟨16, (some 21), .load 1 false (.tm 20), (some (17, true)), [], [], false⟩,
 ⟨17, (some 22), .call n_laws_crInts [(.tm 19), (.tm 21)], (some (17, true)), [], [], false⟩,
 rq 18 23 (.pick (.tm 17) (.tm 22) (.kv (.bool false))),
 rq 19 4 (.move (.tm 23))] 20 [4])
 .ret))
def ct_laws_crRsp : List Cert := [⟨[], [2, 3]⟩, ⟨[], [4]⟩]
def rs_laws_crRsp : List ResV := [.tm 4]
theorem ok_laws_crRsp : compF Tryz.prog Tryz.f47 ct_laws_crRsp = some (ac_laws_crRsp, rs_laws_crRsp) := by kernel_rfl
theorem en_laws_crRsp : EnTy Tryz.prog n_laws_crRsp Tryz.f47 ac_laws_crRsp rs_laws_crRsp :=
  EnTy.mk Tryz.func47 (by kernel_rfl) ok_laws_crRsp

end Go.Proofs.YtiimjokpcbapeaaGreat
