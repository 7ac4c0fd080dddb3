/- The code of the functions with types resolved, checked against the program. Printed by a program (gen.py). -/
import Derived.Test.YtiimjokpcbapeaaGreatAcN
namespace Go.Proofs.YtiimjokpcbapeaaGreat
open Go Go.AM
set_option maxRecDepth 100000

/- loop.example/crossyard/laws.FnTlmAtom -/
def ac_laws_FnTlmAtom : AC :=
 (.seq (.region [rq 0 2 (.move (.kv (.bool false)))] 1 [0])
 (.seq (.seq (.region [rq 0 9 (.move (.tm 0)),
 rq 1 10 (.len false (.tm 9)),
 rq 2 11 (.bin .gtr (.tm 10) (ki 1048576))] 3 [0, 11])
 (.cond (.tm 11)
 (.seq (.region [rq 0 2 (.move (.kv (.bool true)))] 1 [2])
 .ret)
 .skip))
 (.seq (.region [rq 0 13 (.move (.tm 0)),
 rq 1 14 (.call n_spec_DrawTlmPlay [(.tm 13)]),
 rq 2 12 (.move (.tm 14)),
 rq 3 15 (.ext (.tm 12) 0),
 rq 4 16 (.ext (.tm 12) 1),
 rq 5 3 (.alloc [(.osl 0 0 0 0 0), (.osl 0 0 0 0 0), (.osl 0 0 0 0 0)]),
 rn 6 (.store 3 true (.tm 3) (.tm 15)),
 rq 7 4 (.move (.tm 16))] 8 [3, 4])
 (.seq (.region [⟨0, (some 18), .load 3 true (.tm 3), none, [7], [], true⟩,
 rq 2 20 (.move (.tm 4)),
 rq 7 5 (.alloc [(.osl 0 0 0 0 0), (.osl 0 0 0 0 0), (.osl 0 0 0 0 0), (.osl 0 0 0 0 0), (.osl 0 0 0 0 0), (.osl 0 0 0 0 0)]),
 ⟨1, (some 19), .call n_impl_TlmNew [], none, [7], [0], false⟩,
 ⟨3, (some 21), .call n_impl_TlmRun [(.tm 18), (.tm 19), (.tm 20)], none, [7], [], false⟩,
 rq 4 17 (.move (.tm 21)),
 rq 5 22 (.ext (.tm 17) 0),
 rq 6 23 (.ext (.tm 17) 1),
 rn 8 (.store 6 true (.tm 5) (.tm 22)),
 rq 9 6 (.move (.tm 23))] 10 [3, 4, 5, 6])
 (.seq (.region [rq 0 25 (.load 3 true (.tm 3)),
 rq 1 26 (.move (.tm 4)),
 rq 2 27 (.call n_impl_AtmOrder [(.tm 25), (.tm 26)]),
 rq 3 24 (.move (.tm 27)),
 rq 4 28 (.ext (.tm 24) 0),
 rq 5 29 (.ext (.tm 24) 1),
 rq 6 7 (.alloc [(.osl 0 0 0 0 0), (.osl 0 0 0 0 0)]),
 rn 7 (.store 2 true (.tm 7) (.tm 28)),
 rq 8 8 (.move (.tm 29))] 9 [4, 5, 6, 7, 8])
 (.seq (.seq (.region [rq 0 30 (.move (.tm 6)),
 rq 1 31 (.move (.tm 4)),
 rq 2 32 (.len false (.tm 31)),
 rq 3 33 (.bin .neq (.tm 30) (.tm 32)),
 rq 4 34 (.move (.tm 33)),
 ⟨5, (some 35), .move (.tm 4), (some (34, false)), [], [], false⟩,
 ⟨6, (some 36), .len false (.tm 35), (some (34, false)), [], [], false⟩,
 ⟨7, (some 37), .bin .gtr (.tm 36) (ki 108), (some (34, false)), [], [], false⟩,
 rq 8 38 (.pick (.tm 34) (.kv (.bool true)) (.tm 37)),
 rq 9 39 (.move (.tm 38)),
 ⟨10, (some 40), .load 2 true (.tm 7), (some (39, false)), [], [], false⟩,
 ⟨11, (some 41), .fld 0 (.tm 5), (some (39, false)), [], [], false⟩,
 ⟨12, (some 42), .load 2 true (.tm 41), (some (39, false)), [], [], false⟩,
 ⟨13, (some 43), .call n_laws_crAtm [(.tm 40), (.tm 42)], (some (39, false)), [], [], false⟩,
 ⟨14, (some 44), .un .not (.tm 43), (some (39, false)), [], [], false⟩,
 rq 15 45 (.pick (.tm 39) (.kv (.bool true)) (.tm 44))] 16 [5, 8, 45])
 (.cond (.tm 45)
 (.seq (.region [rq 0 2 (.move (.kv (.bool false)))] 1 [2])
 .ret)
 .skip))
 (.seq (.region [rq 0 46 (.move (.tm 8)),
 rq 1 47 (.fld 4 (.tm 5)),
 rq 2 48 (.load 1 false (.tm 47)),
 rq 3 49 (.call n_laws_crFrom [(.tm 46), (.tm 48)]),
 rq 4 50 (.move (.tm 49)),
 ⟨5, (some 51), .move (.tm 8), (some (50, true)), [], [], false⟩,
 ⟨6, (some 52), .fld 5 (.tm 5), (some (50, true)), [], [], false⟩,
 ⟨7, (some 53), .load 1 false (.tm 52), (some (50, true)), [], [], false⟩,
 ⟨8, (some 54), .call n_laws_crFrom [(.tm 51), (.tm 53)], (some (50, true)), [], [], false⟩,
 rq 9 55 (.pick (.tm 50) (.tm 54) (.kv (.bool false))),
 rq 10 56 (.move (.tm 55)),
 ⟨11, (some 57), .move (.tm 8), (some (56, true)), [], [], false⟩,
 ⟨12, (some 58), .len false (.tm 57), (some (56, true)), [], [], false⟩,
 ⟨13, (some 59), .fld 4 (.tm 5), (some (56, true)), [], [], false⟩,
 ⟨14, (some 60), .load 1 false (.tm 59), (some (56, true)), [], [], false⟩,
 ⟨15, (some 61), .len false (.tm 60), (some (56, true)), [], [], false⟩,
 ⟨16, (some 62), .fld 5 (.tm 5), (some (56, true)), [], [], false⟩,
 ⟨17, (some 63), .load 1 false (.tm 62), (some (56, true)), [], [], false⟩,
 ⟨18, (some 64), .len false (.tm 63), (some (56, true)), [], [], false⟩,
 ⟨19, (some 65), .bin .add (.tm 61) (.tm 64), (some (56, true)), [], [], false⟩,
 ⟨20, (some 66), .bin .eql (.tm 58) (.tm 65), (some (56, true)), [], [], false⟩,
 rq 21 67 (.pick (.tm 56) (.tm 66) (.kv (.bool false))),
 rq 22 2 (.move (.tm 67))] 23 [2])
 .ret)))))))
def ct_laws_FnTlmAtom : List Cert := [⟨[], [0]⟩, ⟨[], [0, 11]⟩, ⟨[], [2]⟩, ⟨[], [3, 4]⟩, ⟨[(0, [7], [], true), cz 2, cz 7, (1, [7], [0], false), (3, [7], [], false), cz 4, cz 5, cz 6, cz 8, cz 9], [3, 4, 5, 6]⟩, ⟨[], [4, 5, 6, 7, 8]⟩, ⟨[], [5, 8, 45]⟩, ⟨[], [2]⟩, ⟨[], [2]⟩]
def rs_laws_FnTlmAtom : List ResV := [.tm 2]
theorem ok_laws_FnTlmAtom : compF Tryz.prog Tryz.f13 ct_laws_FnTlmAtom = some (ac_laws_FnTlmAtom, rs_laws_FnTlmAtom) := by kernel_rfl
theorem en_laws_FnTlmAtom : EnTy Tryz.prog n_laws_FnTlmAtom Tryz.f13 ac_laws_FnTlmAtom rs_laws_FnTlmAtom :=
  EnTy.mk Tryz.func13 (by kernel_rfl) ok_laws_FnTlmAtom

end Go.Proofs.YtiimjokpcbapeaaGreat
