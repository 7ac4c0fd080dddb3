/- The code of the functions with types resolved, checked against the program. Printed by a program (gen.py). -/
import Derived.Test.YtiimjokpcbapeaaGreatAcN
namespace Go.Proofs.YtiimjokpcbapeaaGreat
open Go Go.AM
set_option maxRecDepth 100000

/- loop.example/crossyard/laws.FnTrcAlone -/
def ac_laws_FnTrcAlone : AC :=
 (.seq (.region [rq 0 2 (.move (.kv (.bool false)))] 1 [0])
 (.seq (.seq (.region [rq 0 9 (.move (.tm 0)),
 rq 1 10 (.len false (.tm 9)),
 rq 2 11 (.bin .gtr (.tm 10) (ki 1048576))] 3 [0, 11])
 (.cond (.tm 11)
 (.seq (.region [rq 0 2 (.move (.kv (.bool true)))] 1 [2])
 .ret)
 .skip))
 (.seq (.region [rq 0 13 (.move (.tm 0)),
 rq 1 14 (.call n_spec_DrawTlmPlay [(.tm 13)]),
 rq 2 12 (.move (.tm 14)),
 rq 3 15 (.ext (.tm 12) 0),
 rq 4 16 (.ext (.tm 12) 1),
 rq 5 3 (.alloc [(.osl 0 0 0 0 0), (.osl 0 0 0 0 0), (.osl 0 0 0 0 0)]),
 rn 6 (.store 3 true (.tm 3) (.tm 15)),
 rq 7 4 (.move (.tm 16))] 8 [3, 4])
 (.seq (.seq (.region [rq 0 5 (.move (ki 0))] 1 [3, 4, 5])
 (.block 0
 (.loop
 (.seq (.seq (.region [rq 0 17 (.move (.tm 5)),
 rq 1 18 (.bin .lss (.tm 17) (ki 3))] 2 [3, 4, 5, 18])
 (.cond (.tm 18)
 .skip
 (.exit 0)))
 (.seq (.block 1
 (.seq (.region [rq 0 21 (.move (.tm 4)),
 rq 1 22 (.move (.tm 5)),
 rq 2 23 (.call n_impl_TrcOf [(.tm 21), (.tm 22)]),
 rq 3 6 (.move (.tm 23))] 4 [3, 4, 5, 6])
 (.seq (.region [⟨0, (some 25), .load 3 true (.tm 3), none, [7], [], true⟩,
 rq 2 27 (.move (.tm 6)),
 rq 7 7 (.alloc [(.osl 0 0 0 0 0), (.osl 0 0 0 0 0), (.osl 0 0 0 0 0), (.osl 0 0 0 0 0), (.osl 0 0 0 0 0), (.osl 0 0 0 0 0)]),
 ⟨1, (some 26), .call n_impl_TlmNew [], none, [7], [0], false⟩,
 ⟨3, (some 28), .call n_impl_TlmRun [(.tm 25), (.tm 26), (.tm 27)], none, [7], [], false⟩,
 rq 4 24 (.move (.tm 28)),
 rq 5 29 (.ext (.tm 24) 0),
 rq 6 30 (.ext (.tm 24) 1),
 rn 8 (.store 6 true (.tm 7) (.tm 29)),
 rq 9 8 (.move (.tm 30))] 10 [3, 4, 5, 6, 7, 8])
 (.seq (.region [rq 0 31 (.move (.tm 8)),
 rq 1 32 (.move (.tm 6)),
 rq 2 33 (.len false (.tm 32)),
 rq 3 34 (.bin .neq (.tm 31) (.tm 33)),
 rq 4 35 (.move (.tm 34)),
 ⟨5, (some 36), .fld 3 (.tm 7), (some (35, false)), [], [], false⟩,
 ⟨6, (some 37), .load 1 false (.tm 36), (some (35, false)), [], [], false⟩,
 ⟨7, (some 38), .len false (.tm 37), (some (35, false)), [], [], false⟩,
 ⟨8, (some 39), .fld 4 (.tm 7), (some (35, false)), [], [], false⟩,
 ⟨9, (some 40), .load 1 false (.tm 39), (some (35, false)), [], [], false⟩,
 ⟨10, (some 41), .len false (.tm 40), (some (35, false)), [], [], false⟩,
 ⟨11, (some 42), .bin .add (.tm 38) (.tm 41), (some (35, false)), [], [], false⟩,
 ⟨12, (some 43), .fld 5 (.tm 7), (some (35, false)), [], [], false⟩,
 ⟨13, (some 44), .load 1 false (.tm 43), (some (35, false)), [], [], false⟩,
 ⟨14, (some 45), .len false (.tm 44), (some (35, false)), [], [], false⟩,
 ⟨15, (some 46), .bin .add (.tm 42) (.tm 45), (some (35, false)), [], [], false⟩,
 ⟨16, (some 47), .fld 2 (.tm 7), (some (35, false)), [], [], false⟩,
 ⟨17, (some 48), .load 1 false (.tm 47), (some (35, false)), [], [], false⟩,
 ⟨18, (some 49), .move (.tm 5), (some (35, false)), [], [], false⟩,
 ⟨19, (some 50), .idx 1 (.tm 48) (.tm 49), (some (35, false)), [], [], false⟩,
 ⟨20, (some 51), .load 1 false (.tm 50), (some (35, false)), [], [], false⟩,
 ⟨21, (some 52), .bin .neq (.tm 46) (.tm 51), (some (35, false)), [], [], false⟩,
 rq 22 53 (.pick (.tm 35) (.kv (.bool true)) (.tm 52))] 23 [3, 4, 5, 53])
 (.cond (.tm 53)
 (.seq (.region [rq 0 2 (.move (.kv (.bool false)))] 1 [2])
 .ret)
 .skip)))))
 (.region [rq 0 19 (.move (.tm 5)),
 rq 1 20 (.bin .add (.tm 19) (ki 1)),
 rq 2 5 (.move (.tm 20))] 3 [3, 4, 5]))))))
 (.seq (.region [rq 0 54 (.call n_laws_crOk []),
 rq 1 2 (.move (.tm 54))] 2 [2])
 .ret)))))
def ct_laws_FnTrcAlone : List Cert := [⟨[], [0]⟩, ⟨[], [0, 11]⟩, ⟨[], [2]⟩, ⟨[], [3, 4]⟩, ⟨[], [3, 4, 5]⟩, ⟨[], [3, 4, 5, 18]⟩, ⟨[], [3, 4, 5, 6]⟩, ⟨[(0, [7], [], true), cz 2, cz 7, (1, [7], [0], false), (3, [7], [], false), cz 4, cz 5, cz 6, cz 8, cz 9], [3, 4, 5, 6, 7, 8]⟩, ⟨[cz 0, cz 1, cz 2, cz 3, cz 4, cz 5, cz 6, cz 7, cz 8, cz 9, cz 10, cz 11, cz 12, cz 13, cz 14, cz 15, cz 16, cz 17, cz 18, cz 19, cz 20, cz 21, cz 22], [3, 4, 5, 53]⟩, ⟨[], [2]⟩, ⟨[], [3, 4, 5]⟩, ⟨[], [2]⟩]
def rs_laws_FnTrcAlone : List ResV := [.tm 2]
theorem ok_laws_FnTrcAlone : compF Tryz.prog Tryz.f4 ct_laws_FnTrcAlone = some (ac_laws_FnTrcAlone, rs_laws_FnTrcAlone) := by kernel_rfl
theorem en_laws_FnTrcAlone : EnTy Tryz.prog n_laws_FnTrcAlone Tryz.f4 ac_laws_FnTrcAlone rs_laws_FnTrcAlone :=
  EnTy.mk Tryz.func4 (by kernel_rfl) ok_laws_FnTrcAlone

end Go.Proofs.YtiimjokpcbapeaaGreat
