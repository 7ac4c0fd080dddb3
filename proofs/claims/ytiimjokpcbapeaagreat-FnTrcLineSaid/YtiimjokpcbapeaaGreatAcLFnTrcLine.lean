/- The code of the functions with types resolved, checked against the program. Printed by a program (gen.py). -/
import Derived.Test.YtiimjokpcbapeaaGreatAcN
namespace Go.Proofs.YtiimjokpcbapeaaGreat
open Go Go.AM
set_option maxRecDepth 100000

/- loop.example/crossyard/laws.FnTrcLine -/
def ac_laws_FnTrcLine : AC :=
 (.seq (.region [rq 0 2 (.move (.kv (.bool false)))] 1 [0])
 (.seq (.seq (.region [rq 0 15 (.move (.tm 0)),
 rq 1 16 (.len false (.tm 15)),
 rq 2 17 (.bin .gtr (.tm 16) (ki 1048576))] 3 [0, 17])
 (.cond (.tm 17)
 (.seq (.region [rq 0 2 (.move (.kv (.bool true)))] 1 [2])
 .ret)
 .skip))
 (.seq (.region [rq 0 19 (.move (.tm 0)),
 rq 1 20 (.call n_spec_DrawTlmPlay [(.tm 19)]),
 rq 2 18 (.move (.tm 20)),
 rq 3 21 (.ext (.tm 18) 0),
 rq 4 22 (.ext (.tm 18) 1),
 rq 5 3 (.alloc [(.osl 0 0 0 0 0), (.osl 0 0 0 0 0), (.osl 0 0 0 0 0)]),
 rn 6 (.store 3 true (.tm 3) (.tm 21)),
 rq 7 4 (.move (.tm 22))] 8 [3, 4])
 (.seq (.region [⟨0, (some 24), .load 3 true (.tm 3), none, [7], [], true⟩,
 rq 2 26 (.move (.tm 4)),
 rq 7 5 (.alloc [(.osl 0 0 0 0 0), (.osl 0 0 0 0 0), (.osl 0 0 0 0 0), (.osl 0 0 0 0 0), (.osl 0 0 0 0 0), (.osl 0 0 0 0 0)]),
 ⟨1, (some 25), .call n_impl_TlmNew [], none, [7], [0], false⟩,
 ⟨3, (some 27), .call n_impl_TlmRun [(.tm 24), (.tm 25), (.tm 26)], none, [7], [], false⟩,
 rq 4 23 (.move (.tm 27)),
 rq 5 28 (.ext (.tm 23) 0),
 rq 6 29 (.ext (.tm 23) 1),
 rn 8 (.store 6 true (.tm 5) (.tm 28)),
 rq 9 6 (.move (.tm 29))] 10 [3, 4, 5, 6])
 (.seq (.region [rq 0 30 (.bslice 3 0 [(.v (.int .i64 0)), (.v (.int .i64 0)), (.v (.int .i64 0))] []),
 rq 1 7 (.move (.tm 30))] 2 [3, 4, 5, 6, 7])
 (.seq (.seq (.region [rq 0 8 (.move (ki 0))] 1 [3, 4, 5, 6, 7, 8])
 (.block 0
 (.loop
 (.seq (.seq (.region [rq 0 31 (.move (.tm 8)),
 rq 1 32 (.bin .lss (.tm 31) (ki 3))] 2 [3, 4, 5, 6, 7, 8, 32])
 (.cond (.tm 32)
 .skip
 (.exit 0)))
 (.seq (.block 1
 (.region [rq 0 35 (.move (.tm 7)),
 rq 1 36 (.move (.tm 4)),
 rq 2 37 (.move (.tm 8)),
 rq 3 38 (.call n_impl_TrcOf [(.tm 36), (.tm 37)]),
 rq 4 39 (.append 3 (.tm 35) (.tm 38)),
 rq 5 7 (.move (.tm 39))] 6 [3, 4, 5, 6, 7, 8]))
 (.region [rq 0 33 (.move (.tm 8)),
 rq 1 34 (.bin .add (.tm 33) (ki 1)),
 rq 2 8 (.move (.tm 34))] 3 [3, 4, 5, 6, 7, 8]))))))
 (.seq (.region [⟨0, (some 41), .load 3 true (.tm 3), none, [7], [], true⟩,
 rq 2 43 (.move (.tm 7)),
 rq 7 9 (.alloc [(.osl 0 0 0 0 0), (.osl 0 0 0 0 0), (.osl 0 0 0 0 0), (.osl 0 0 0 0 0), (.osl 0 0 0 0 0), (.osl 0 0 0 0 0)]),
 ⟨1, (some 42), .call n_impl_TlmNew [], none, [7], [0], false⟩,
 ⟨3, (some 44), .call n_impl_TlmRun [(.tm 41), (.tm 42), (.tm 43)], none, [7], [], false⟩,
 rq 4 40 (.move (.tm 44)),
 rq 5 45 (.ext (.tm 40) 0),
 rq 6 46 (.ext (.tm 40) 1),
 rn 8 (.store 6 true (.tm 9) (.tm 45)),
 rq 9 10 (.move (.tm 46))] 10 [4, 5, 6, 7, 9, 10])
 (.seq (.seq (.region [rq 0 47 (.move (.tm 6)),
 rq 1 48 (.move (.tm 4)),
 rq 2 49 (.len false (.tm 48)),
 rq 3 50 (.bin .neq (.tm 47) (.tm 49)),
 rq 4 51 (.move (.tm 50)),
 ⟨5, (some 52), .move (.tm 10), (some (51, false)), [], [], false⟩,
 ⟨6, (some 53), .move (.tm 7), (some (51, false)), [], [], false⟩,
 ⟨7, (some 54), .len false (.tm 53), (some (51, false)), [], [], false⟩,
 ⟨8, (some 55), .bin .neq (.tm 52) (.tm 54), (some (51, false)), [], [], false⟩,
 rq 9 56 (.pick (.tm 51) (.kv (.bool true)) (.tm 55)),
 rq 10 57 (.move (.tm 56)),
 ⟨11, (some 58), .move (.tm 7), (some (57, false)), [], [], false⟩,
 ⟨12, (some 59), .len false (.tm 58), (some (57, false)), [], [], false⟩,
 ⟨13, (some 60), .move (.tm 4), (some (57, false)), [], [], false⟩,
 ⟨14, (some 61), .len false (.tm 60), (some (57, false)), [], [], false⟩,
 ⟨15, (some 62), .bin .neq (.tm 59) (.tm 61), (some (57, false)), [], [], false⟩,
 rq 16 63 (.pick (.tm 57) (.kv (.bool true)) (.tm 62))] 17 [5, 9, 63])
 (.cond (.tm 63)
 (.seq (.region [rq 0 2 (.move (.kv (.bool false)))] 1 [2])
 .ret)
 .skip))
 (.seq (.seq (.region [rq 0 11 (.move (ki 0))] 1 [5, 9, 11])
 (.block 2
 (.loop
 (.seq (.seq (.region [rq 0 64 (.move (.tm 11)),
 rq 1 65 (.bin .lss (.tm 64) (ki 3))] 2 [5, 9, 11, 65])
 (.cond (.tm 65)
 .skip
 (.exit 2)))
 (.seq (.block 3
 (.seq (.region [rq 0 68 (.fld 5 (.tm 5)),
 rq 1 69 (.load 1 false (.tm 68)),
 rq 2 70 (.move (.tm 11)),
 rq 3 71 (.call n_impl_ToldOf [(.tm 69), (.tm 70)]),
 rq 4 12 (.move (.tm 71))] 5 [5, 9, 11, 12])
 (.seq (.region [rq 0 72 (.fld 5 (.tm 9)),
 rq 1 73 (.load 1 false (.tm 72)),
 rq 2 74 (.move (.tm 11)),
 rq 3 75 (.call n_impl_ToldOf [(.tm 73), (.tm 74)]),
 rq 4 13 (.move (.tm 75))] 5 [5, 9, 11, 12, 13])
 (.seq (.seq (.region [rq 0 76 (.move (.tm 12)),
 rq 1 77 (.len false (.tm 76)),
 rq 2 78 (.move (.tm 13)),
 rq 3 79 (.len false (.tm 78)),
 rq 4 80 (.bin .neq (.tm 77) (.tm 79)),
 rq 5 81 (.move (.tm 80)),
 ⟨6, (some 82), .fld 2 (.tm 5), (some (81, false)), [], [], false⟩,
 ⟨7, (some 83), .load 1 false (.tm 82), (some (81, false)), [], [], false⟩,
 ⟨8, (some 84), .move (.tm 11), (some (81, false)), [], [], false⟩,
 ⟨9, (some 85), .idx 1 (.tm 83) (.tm 84), (some (81, false)), [], [], false⟩,
 ⟨10, (some 86), .load 1 false (.tm 85), (some (81, false)), [], [], false⟩,
 ⟨11, (some 87), .fld 2 (.tm 9), (some (81, false)), [], [], false⟩,
 ⟨12, (some 88), .load 1 false (.tm 87), (some (81, false)), [], [], false⟩,
 ⟨13, (some 89), .move (.tm 11), (some (81, false)), [], [], false⟩,
 ⟨14, (some 90), .idx 1 (.tm 88) (.tm 89), (some (81, false)), [], [], false⟩,
 ⟨15, (some 91), .load 1 false (.tm 90), (some (81, false)), [], [], false⟩,
 ⟨16, (some 92), .bin .neq (.tm 86) (.tm 91), (some (81, false)), [], [], false⟩,
 rq 17 93 (.pick (.tm 81) (.kv (.bool true)) (.tm 92))] 18 [5, 9, 11, 12, 13, 93])
 (.cond (.tm 93)
 (.seq (.region [rq 0 2 (.move (.kv (.bool false)))] 1 [2])
 .ret)
 .skip))
 (.seq (.region [rq 0 14 (.move (ki 0))] 1 [5, 9, 11, 12, 13, 14])
 (.block 4
 (.loop
 (.seq (.seq (.region [rq 0 94 (.move (.tm 14)),
 rq 1 95 (.move (.tm 12)),
 rq 2 96 (.len false (.tm 95)),
 rq 3 97 (.bin .lss (.tm 94) (.tm 96))] 4 [5, 9, 11, 12, 13, 14, 97])
 (.cond (.tm 97)
 .skip
 (.exit 4)))
 (.seq (.block 5
 (.seq (.region [rq 0 100 (.move (.tm 12)),
 rq 1 101 (.move (.tm 14)),
 rq 2 102 (.idx 5 (.tm 100) (.tm 101)),
 rq 3 103 (.fld 1 (.tm 102)),
 rq 4 104 (.load 1 false (.tm 103)),
 rq 5 105 (.move (.tm 13)),
 rq 6 106 (.move (.tm 14)),
 rq 7 107 (.idx 5 (.tm 105) (.tm 106)),
 rq 8 108 (.fld 1 (.tm 107)),
 rq 9 109 (.load 1 false (.tm 108)),
 rq 10 110 (.bin .neq (.tm 104) (.tm 109))] 11 [5, 9, 11, 12, 13, 14, 110])
 (.cond (.tm 110)
 (.seq (.region [rq 0 2 (.move (.kv (.bool false)))] 1 [2])
 .ret)
 .skip)))
 (.region [rq 0 98 (.move (.tm 14)),
 rq 1 99 (.bin .add (.tm 98) (ki 1)),
 rq 2 14 (.move (.tm 99))] 3 [5, 9, 11, 12, 13, 14]))))))))))
 (.region [rq 0 66 (.move (.tm 11)),
 rq 1 67 (.bin .add (.tm 66) (ki 1)),
 rq 2 11 (.move (.tm 67))] 3 [5, 9, 11]))))))
 (.seq (.region [rq 0 111 (.call n_laws_crOk []),
 rq 1 2 (.move (.tm 111))] 2 [2])
 .ret))))))))))
def ct_laws_FnTrcLine : List Cert := [⟨[], [0]⟩, ⟨[], [0, 17]⟩, ⟨[], [2]⟩, ⟨[], [3, 4]⟩, ⟨[(0, [7], [], true), cz 2, cz 7, (1, [7], [0], false), (3, [7], [], false), cz 4, cz 5, cz 6, cz 8, cz 9], [3, 4, 5, 6]⟩, ⟨[], [3, 4, 5, 6, 7]⟩, ⟨[], [3, 4, 5, 6, 7, 8]⟩, ⟨[], [3, 4, 5, 6, 7, 8, 32]⟩, ⟨[], [3, 4, 5, 6, 7, 8]⟩, ⟨[], [3, 4, 5, 6, 7, 8]⟩, ⟨[(0, [7], [], true), cz 2, cz 7, (1, [7], [0], false), (3, [7], [], false), cz 4, cz 5, cz 6, cz 8, cz 9], [4, 5, 6, 7, 9, 10]⟩, ⟨[], [5, 9, 63]⟩, ⟨[], [2]⟩, ⟨[], [5, 9, 11]⟩, ⟨[], [5, 9, 11, 65]⟩, ⟨[], [5, 9, 11, 12]⟩, ⟨[], [5, 9, 11, 12, 13]⟩, ⟨[cz 0, cz 1, cz 2, cz 3, cz 4, cz 5, cz 6, cz 7, cz 8, cz 9, cz 10, cz 11, cz 12, cz 13, cz 14, cz 15, cz 16, cz 17], [5, 9, 11, 12, 13, 93]⟩, ⟨[], [2]⟩, ⟨[], [5, 9, 11, 12, 13, 14]⟩, ⟨[], [5, 9, 11, 12, 13, 14, 97]⟩, ⟨[cz 0, cz 1, cz 2, cz 3, cz 4, cz 5, cz 6, cz 7, cz 8, cz 9, cz 10], [5, 9, 11, 12, 13, 14, 110]⟩, ⟨[], [2]⟩, ⟨[], [5, 9, 11, 12, 13, 14]⟩, ⟨[], [5, 9, 11]⟩, ⟨[], [2]⟩]
def rs_laws_FnTrcLine : List ResV := [.tm 2]
theorem ok_laws_FnTrcLine : compF Tryz.prog Tryz.f10 ct_laws_FnTrcLine = some (ac_laws_FnTrcLine, rs_laws_FnTrcLine) := by kernel_rfl
theorem en_laws_FnTrcLine : EnTy Tryz.prog n_laws_FnTrcLine Tryz.f10 ac_laws_FnTrcLine rs_laws_FnTrcLine :=
  EnTy.mk Tryz.func10 (by kernel_rfl) ok_laws_FnTrcLine

end Go.Proofs.YtiimjokpcbapeaaGreat
