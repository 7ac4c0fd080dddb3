/- The code of the functions with types resolved, checked against the program. Printed by a program (gen.py). -/
import Derived.Test.YtiimjokpcbapeaaGreatAcN
namespace Go.Proofs.YtiimjokpcbapeaaGreat
open Go Go.AM
set_option maxRecDepth 100000

/- loop.example/crossyard/laws.FnTrcMixed -/
def ac_laws_FnTrcMixed : AC :=
 (.seq (.region [rq 0 2 (.move (.kv (.bool false)))] 1 [0])
 (.seq (.seq (.region [rq 0 10 (.move (.tm 0)),
 rq 1 11 (.len false (.tm 10)),
 rq 2 12 (.bin .gtr (.tm 11) (ki 1048576))] 3 [0, 12])
 (.cond (.tm 12)
 (.seq (.region [rq 0 2 (.move (.kv (.bool true)))] 1 [2])
 .ret)
 .skip))
 (.seq (.region [rq 0 14 (.move (.tm 0)),
 rq 1 15 (.call n_spec_DrawMixed [(.tm 14)]),
 rq 2 13 (.move (.tm 15)),
 rq 3 16 (.ext (.tm 13) 0),
 rq 4 17 (.ext (.tm 13) 1),
 rq 5 18 (.ext (.tm 13) 2),
 rq 6 3 (.alloc [(.osl 0 0 0 0 0), (.osl 0 0 0 0 0), (.osl 0 0 0 0 0)]),
 rn 7 (.store 3 true (.tm 3) (.tm 16)),
 rq 8 4 (.move (.tm 17)),
 rq 9 5 (.move (.tm 18))] 10 [3, 4, 5])
 (.seq (.region [⟨0, (some 20), .load 3 true (.tm 3), none, [7], [], true⟩,
 rq 2 22 (.move (.tm 4)),
 rq 7 6 (.alloc [(.osl 0 0 0 0 0), (.osl 0 0 0 0 0), (.osl 0 0 0 0 0), (.osl 0 0 0 0 0), (.osl 0 0 0 0 0), (.osl 0 0 0 0 0)]),
 ⟨1, (some 21), .call n_impl_TlmNew [], none, [7], [0], false⟩,
 ⟨3, (some 23), .call n_impl_TlmRun [(.tm 20), (.tm 21), (.tm 22)], none, [7], [], false⟩,
 rq 4 19 (.move (.tm 23)),
 rq 5 24 (.ext (.tm 19) 0),
 rq 6 25 (.ext (.tm 19) 1),
 rn 8 (.store 6 true (.tm 6) (.tm 24)),
 rq 9 7 (.move (.tm 25))] 10 [3, 4, 5, 6, 7])
 (.seq (.region [⟨0, (some 27), .load 3 true (.tm 3), none, [7], [], true⟩,
 rq 2 29 (.move (.tm 5)),
 rq 7 8 (.alloc [(.osl 0 0 0 0 0), (.osl 0 0 0 0 0), (.osl 0 0 0 0 0), (.osl 0 0 0 0 0), (.osl 0 0 0 0 0), (.osl 0 0 0 0 0)]),
 ⟨1, (some 28), .call n_impl_TlmNew [], none, [7], [0], false⟩,
 ⟨3, (some 30), .call n_impl_TlmRun [(.tm 27), (.tm 28), (.tm 29)], none, [7], [], false⟩,
 rq 4 26 (.move (.tm 30)),
 rq 5 31 (.ext (.tm 26) 0),
 rq 6 32 (.ext (.tm 26) 1),
 rn 8 (.store 6 true (.tm 8) (.tm 31)),
 rq 9 9 (.move (.tm 32))] 10 [3, 4, 5, 6, 7, 8, 9])
 (.seq (.region [rq 0 33 (.move (.tm 7)),
 rq 1 34 (.move (.tm 4)),
 rq 2 35 (.len false (.tm 34)),
 rq 3 36 (.bin .eql (.tm 33) (.tm 35)),
 rq 4 37 (.move (.tm 36)),
 ⟨5, (some 38), .move (.tm 9), (some (37, true)), [], [], false⟩,
 ⟨6, (some 39), .move (.tm 5), (some (37, true)), [], [], false⟩,
 ⟨7, (some 40), .len false (.tm 39), (some (37, true)), [], [], false⟩,
 ⟨8, (some 41), .bin .eql (.tm 38) (.tm 40), (some (37, true)), [], [], false⟩,
 rq 9 42 (.pick (.tm 37) (.tm 41) (.kv (.bool false))),
 rq 10 43 (.move (.tm 42)),
 ⟨11, (some 44), .load 6 true (.tm 6), (some (43, true)), [], [], false⟩,
 ⟨12, (some 45), .load 6 true (.tm 8), (some (43, true)), [], [], false⟩,
 ⟨13, (some 46), .call n_laws_crTlm [(.tm 44), (.tm 45)], (some (43, true)), [], [], false⟩,
 rq 14 47 (.pick (.tm 43) (.tm 46) (.kv (.bool false))),
 rq 15 48 (.move (.tm 47)),
 ⟨16, (some 49), .load 3 true (.tm 3), (some (48, true)), [], [], false⟩,
 ⟨17, (some 50), .move (.tm 4), (some (48, true)), [], [], false⟩,
 ⟨18, (some 51), .move (.tm 5), (some (48, true)), [], [], false⟩,
 ⟨19, (some 52), .call n_impl_TrcSame [(.tm 49), (.tm 50), (.tm 51)], (some (48, true)), [], [], false⟩,
 rq 20 53 (.pick (.tm 48) (.tm 52) (.kv (.bool false))),
 rq 21 54 (.move (.tm 53)),
 ⟨22, (some 55), .call n_laws_crOk [], (some (54, true)), [], [], false⟩,
 rq 23 56 (.pick (.tm 54) (.tm 55) (.kv (.bool false))),
 rq 24 2 (.move (.tm 56))] 25 [2])
 .ret))))))
def ct_laws_FnTrcMixed : List Cert := [⟨[], [0]⟩, ⟨[], [0, 12]⟩, ⟨[], [2]⟩, ⟨[], [3, 4, 5]⟩, ⟨[(0, [7], [], true), cz 2, cz 7, (1, [7], [0], false), (3, [7], [], false), cz 4, cz 5, cz 6, cz 8, cz 9], [3, 4, 5, 6, 7]⟩, ⟨[(0, [7], [], true), cz 2, cz 7, (1, [7], [0], false), (3, [7], [], false), cz 4, cz 5, cz 6, cz 8, cz 9], [3, 4, 5, 6, 7, 8, 9]⟩, ⟨[], [2]⟩]
def rs_laws_FnTrcMixed : List ResV := [.tm 2]
theorem ok_laws_FnTrcMixed : compF Tryz.prog Tryz.f14 ct_laws_FnTrcMixed = some (ac_laws_FnTrcMixed, rs_laws_FnTrcMixed) := by kernel_rfl
theorem en_laws_FnTrcMixed : EnTy Tryz.prog n_laws_FnTrcMixed Tryz.f14 ac_laws_FnTrcMixed rs_laws_FnTrcMixed :=
  EnTy.mk Tryz.func14 (by kernel_rfl) ok_laws_FnTrcMixed

end Go.Proofs.YtiimjokpcbapeaaGreat
