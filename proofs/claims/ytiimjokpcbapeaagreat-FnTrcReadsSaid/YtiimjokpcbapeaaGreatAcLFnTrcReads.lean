/- The code of the functions with types resolved, checked against the program. Printed by a program (gen.py). -/
import Derived.Test.YtiimjokpcbapeaaGreatAcN
namespace Go.Proofs.YtiimjokpcbapeaaGreat
open Go Go.AM
set_option maxRecDepth 100000

/- loop.example/crossyard/laws.FnTrcReads -/
def ac_laws_FnTrcReads : AC :=
 (.seq (.region [rq 0 2 (.move (.kv (.bool false)))] 1 [0])
 (.seq (.seq (.region [rq 0 17 (.move (.tm 0)),
 rq 1 18 (.len false (.tm 17)),
 rq 2 19 (.bin .gtr (.tm 18) (ki 1048576))] 3 [0, 19])
 (.cond (.tm 19)
 (.seq (.region [rq 0 2 (.move (.kv (.bool true)))] 1 [2])
 .ret)
 .skip))
 (.seq (.region [rq 0 21 (.move (.tm 0)),
 rq 1 22 (.call n_spec_DrawTlmPlay [(.tm 21)]),
 rq 2 20 (.move (.tm 22)),
 rq 3 23 (.ext (.tm 20) 0),
 rq 4 24 (.ext (.tm 20) 1),
 rq 5 3 (.alloc [(.osl 0 0 0 0 0), (.osl 0 0 0 0 0), (.osl 0 0 0 0 0)]),
 rn 6 (.store 3 true (.tm 3) (.tm 23)),
 rq 7 4 (.move (.tm 24))] 8 [3, 4])
 (.seq (.region [rq 0 25 (.fld 0 (.tm 3)),
 rq 1 26 (.load 1 false (.tm 25)),
 rq 2 27 (.fld 1 (.tm 3)),
 rq 3 28 (.load 1 false (.tm 27)),
 rq 4 29 (.build [(.osl 0 0 0 0 0), (.osl 0 0 0 0 0), (.osl 0 0 0 0 0)] [(0, 1, (.tm 26)), (1, 1, (.tm 28))]),
 rq 5 5 (.alloc [(.osl 0 0 0 0 0), (.osl 0 0 0 0 0), (.osl 0 0 0 0 0)]),
 rn 6 (.store 3 true (.tm 5) (.tm 29))] 7 [3, 4, 5])
 (.seq (.seq (.region [rq 0 6 (.move (ki 0))] 1 [3, 4, 5, 6])
 (.block 0
 (.loop
 (.seq (.seq (.region [rq 0 30 (.move (.tm 6)),
 rq 1 31 (.fld 2 (.tm 3)),
 rq 2 32 (.load 1 false (.tm 31)),
 rq 3 33 (.len false (.tm 32)),
 rq 4 34 (.bin .lss (.tm 30) (.tm 33))] 5 [3, 4, 5, 6, 34])
 (.cond (.tm 34)
 .skip
 (.exit 0)))
 (.seq (.block 1
 (.seq (.region [rq 0 37 (.bslice 7 0 [(.v (.int .i64 0)), (.v (.int .i64 0)), (.v (.int .i64 0)), (.v (.int .i64 0)), (.v (.bool false)), (.osl 0 0 0 0 0), (.osl 0 0 0 0 0)] []),
 rq 1 7 (.move (.tm 37))] 2 [3, 4, 5, 6, 7])
 (.seq (.seq (.region [rq 0 8 (.move (ki 0))] 1 [3, 4, 5, 6, 7, 8])
 (.block 2
 (.loop
 (.seq (.seq (.region [rq 0 38 (.move (.tm 8)),
 rq 1 39 (.fld 2 (.tm 3)),
 rq 2 40 (.load 1 false (.tm 39)),
 rq 3 41 (.move (.tm 6)),
 rq 4 42 (.idx 1 (.tm 40) (.tm 41)),
 rq 5 43 (.load 1 false (.tm 42)),
 rq 6 44 (.len false (.tm 43)),
 rq 7 45 (.bin .lss (.tm 38) (.tm 44))] 8 [3, 4, 5, 6, 7, 8, 45])
 (.cond (.tm 45)
 .skip
 (.exit 2)))
 (.seq (.block 3
 (.seq (.region [rq 0 48 (.fld 2 (.tm 3)),
 rq 1 49 (.load 1 false (.tm 48)),
 rq 2 50 (.move (.tm 6)),
 rq 3 51 (.idx 1 (.tm 49) (.tm 50)),
 rq 4 52 (.load 1 false (.tm 51)),
 rq 5 53 (.move (.tm 8)),
 rq 6 54 (.idx 7 (.tm 52) (.tm 53)),
 rq 7 55 (.load 7 true (.tm 54)),
 rq 8 9 (.alloc [(.v (.int .i64 0)), (.v (.int .i64 0)), (.v (.int .i64 0)), (.v (.int .i64 0)), (.v (.bool false)), (.osl 0 0 0 0 0), (.osl 0 0 0 0 0)]),
 rn 9 (.store 7 true (.tm 9) (.tm 55))] 10 [3, 4, 5, 6, 7, 8, 9])
 (.region [rq 0 56 (.move (.tm 7)),
 rq 1 57 (.fld 0 (.tm 9)),
 rq 2 58 (.load 1 false (.tm 57)),
 rq 3 59 (.fld 2 (.tm 9)),
 rq 4 60 (.load 1 false (.tm 59)),
 rq 5 61 (.fld 3 (.tm 9)),
 rq 6 62 (.load 1 false (.tm 61)),
 rq 7 63 (.fld 4 (.tm 9)),
 rq 8 64 (.load 1 false (.tm 63)),
 rq 9 65 (.build [(.v (.int .i64 0)), (.v (.int .i64 0)), (.v (.int .i64 0)), (.v (.int .i64 0)), (.v (.bool false)), (.osl 0 0 0 0 0), (.osl 0 0 0 0 0)] [(0, 1, (.tm 58)), (1, 1, (ki 1)), (2, 1, (.tm 60)), (3, 1, (.tm 62)), (4, 1, (.tm 64))]),
 rq 10 66 (.bslice 7 1 [(.v (.int .i64 0)), (.v (.int .i64 0)), (.v (.int .i64 0)), (.v (.int .i64 0)), (.v (.bool false)), (.osl 0 0 0 0 0), (.osl 0 0 0 0 0)] [(0, 7, (.tm 65))]),
 rq 11 67 (.append 7 (.tm 56) (.tm 66)),
 rq 12 7 (.move (.tm 67))] 13 [3, 4, 5, 6, 7, 8])))
 (.region [rq 0 46 (.move (.tm 8)),
 rq 1 47 (.bin .add (.tm 46) (ki 1)),
 rq 2 8 (.move (.tm 47))] 3 [3, 4, 5, 6, 7, 8]))))))
 (.region [rq 0 68 (.fld 2 (.tm 5)),
 rq 1 69 (.load 1 false (.tm 68)),
 rq 2 70 (.move (.tm 7)),
 rq 3 71 (.bslice 1 1 [(.osl 0 0 0 0 0)] [(0, 1, (.tm 70))]),
 rq 4 72 (.append 1 (.tm 69) (.tm 71)),
 rq 5 73 (.fld 2 (.tm 5)),
 rn 6 (.store 1 false (.tm 73) (.tm 72))] 7 [3, 4, 5, 6]))))
 (.region [rq 0 35 (.move (.tm 6)),
 rq 1 36 (.bin .add (.tm 35) (ki 1)),
 rq 2 6 (.move (.tm 36))] 3 [3, 4, 5, 6]))))))
 (.seq (.region [rq 0 74 (.bslice 3 0 [(.v (.int .i64 0)), (.v (.int .i64 0)), (.v (.int .i64 0))] []),
 rq 1 10 (.move (.tm 74))] 2 [4, 5, 10])
 (.seq (.seq (.region [rq 0 11 (.move (ki 0))] 1 [4, 5, 10, 11])
 (.block 4
 (.loop
 (.seq (.seq (.region [rq 0 75 (.move (.tm 11)),
 rq 1 76 (.bin .lss (.tm 75) (ki 3))] 2 [4, 5, 10, 11, 76])
 (.cond (.tm 76)
 .skip
 (.exit 4)))
 (.seq (.block 5
 (.region [rq 0 79 (.move (.tm 10)),
 rq 1 80 (.move (.tm 4)),
 rq 2 81 (.move (.tm 11)),
 rq 3 82 (.call n_impl_TrcOf [(.tm 80), (.tm 81)]),
 rq 4 83 (.append 3 (.tm 79) (.tm 82)),
 rq 5 10 (.move (.tm 83))] 6 [4, 5, 10, 11]))
 (.region [rq 0 77 (.move (.tm 11)),
 rq 1 78 (.bin .add (.tm 77) (ki 1)),
 rq 2 11 (.move (.tm 78))] 3 [4, 5, 10, 11]))))))
 (.seq (.region [⟨0, (some 85), .load 3 true (.tm 5), none, [7], [], true⟩,
 rq 2 87 (.move (.tm 4)),
 rq 7 12 (.alloc [(.osl 0 0 0 0 0), (.osl 0 0 0 0 0), (.osl 0 0 0 0 0), (.osl 0 0 0 0 0), (.osl 0 0 0 0 0), (.osl 0 0 0 0 0)]),
 ⟨1, (some 86), .call n_impl_TlmNew [], none, [7], [0], false⟩,
 ⟨3, (some 88), .call n_impl_TlmRun [(.tm 85), (.tm 86), (.tm 87)], none, [7], [], false⟩,
 rq 4 84 (.move (.tm 88)),
 rq 5 89 (.ext (.tm 84) 0),
 rq 6 90 (.ext (.tm 84) 1),
 rn 8 (.store 6 true (.tm 12) (.tm 89)),
 rq 9 13 (.move (.tm 90))] 10 [4, 5, 10, 12, 13])
 (.seq (.region [⟨0, (some 92), .load 3 true (.tm 5), none, [7], [], true⟩,
 rq 2 94 (.move (.tm 10)),
 rq 7 14 (.alloc [(.osl 0 0 0 0 0), (.osl 0 0 0 0 0), (.osl 0 0 0 0 0), (.osl 0 0 0 0 0), (.osl 0 0 0 0 0), (.osl 0 0 0 0 0)]),
 ⟨1, (some 93), .call n_impl_TlmNew [], none, [7], [0], false⟩,
 ⟨3, (some 95), .call n_impl_TlmRun [(.tm 92), (.tm 93), (.tm 94)], none, [7], [], false⟩,
 rq 4 91 (.move (.tm 95)),
 rq 5 96 (.ext (.tm 91) 0),
 rq 6 97 (.ext (.tm 91) 1),
 rn 8 (.store 6 true (.tm 14) (.tm 96)),
 rq 9 15 (.move (.tm 97))] 10 [4, 10, 12, 13, 14, 15])
 (.seq (.seq (.region [rq 0 98 (.move (.tm 13)),
 rq 1 99 (.move (.tm 4)),
 rq 2 100 (.len false (.tm 99)),
 rq 3 101 (.bin .neq (.tm 98) (.tm 100)),
 rq 4 102 (.move (.tm 101)),
 ⟨5, (some 103), .move (.tm 15), (some (102, false)), [], [], false⟩,
 ⟨6, (some 104), .move (.tm 10), (some (102, false)), [], [], false⟩,
 ⟨7, (some 105), .len false (.tm 104), (some (102, false)), [], [], false⟩,
 ⟨8, (some 106), .bin .neq (.tm 103) (.tm 105), (some (102, false)), [], [], false⟩,
 rq 9 107 (.pick (.tm 102) (.kv (.bool true)) (.tm 106)),
 rq 10 108 (.move (.tm 107)),
 ⟨11, (some 109), .fld 0 (.tm 12), (some (108, false)), [], [], false⟩,
 ⟨12, (some 110), .load 2 true (.tm 109), (some (108, false)), [], [], false⟩,
 ⟨13, (some 111), .fld 0 (.tm 14), (some (108, false)), [], [], false⟩,
 ⟨14, (some 112), .load 2 true (.tm 111), (some (108, false)), [], [], false⟩,
 ⟨15, (some 113), .call n_laws_crAtm [(.tm 110), (.tm 112)], (some (108, false)), [], [], false⟩,
 ⟨16, (some 114), .un .not (.tm 113), (some (108, false)), [], [], false⟩,
 rq 17 115 (.pick (.tm 108) (.kv (.bool true)) (.tm 114))] 18 [12, 14, 115])
 (.cond (.tm 115)
 (.seq (.region [rq 0 2 (.move (.kv (.bool false)))] 1 [2])
 .ret)
 .skip))
 (.seq (.seq (.region [rq 0 16 (.move (ki 0))] 1 [12, 14, 16])
 (.block 6
 (.loop
 (.seq (.seq (.region [rq 0 116 (.move (.tm 16)),
 rq 1 117 (.bin .lss (.tm 116) (ki 3))] 2 [12, 14, 16, 117])
 (.cond (.tm 117)
 .skip
 (.exit 6)))
 (.seq (.block 7
 (.seq (.region [rq 0 120 (.fld 5 (.tm 12)),
 rq 1 121 (.load 1 false (.tm 120)),
 rq 2 122 (.move (.tm 16)),
 rq 4 124 (.fld 5 (.tm 14)),
 ⟨5, (some 125), .load 1 false (.tm 124), none, [], [], true⟩,
 rq 6 126 (.move (.tm 16)),
 ⟨3, (some 123), .call n_impl_ToldOf [(.tm 121), (.tm 122)], none, [], [5], false⟩,
 rq 7 127 (.call n_impl_ToldOf [(.tm 125), (.tm 126)]),
 rq 8 128 (.call n_laws_crJobs [(.tm 123), (.tm 127)]),
 rq 9 129 (.un .not (.tm 128))] 10 [12, 14, 16, 129])
 (.cond (.tm 129)
 (.seq (.region [rq 0 2 (.move (.kv (.bool false)))] 1 [2])
 .ret)
 .skip)))
 (.region [rq 0 118 (.move (.tm 16)),
 rq 1 119 (.bin .add (.tm 118) (ki 1)),
 rq 2 16 (.move (.tm 119))] 3 [12, 14, 16]))))))
 (.seq (.region [rq 0 130 (.call n_laws_crOk []),
 rq 1 2 (.move (.tm 130))] 2 [2])
 .ret))))))))))))
def ct_laws_FnTrcReads : List Cert := [⟨[], [0]⟩, ⟨[], [0, 19]⟩, ⟨[], [2]⟩, ⟨[], [3, 4]⟩, ⟨[], [3, 4, 5]⟩, ⟨[], [3, 4, 5, 6]⟩, ⟨[], [3, 4, 5, 6, 34]⟩, ⟨[], [3, 4, 5, 6, 7]⟩, ⟨[], [3, 4, 5, 6, 7, 8]⟩, ⟨[], [3, 4, 5, 6, 7, 8, 45]⟩, ⟨[], [3, 4, 5, 6, 7, 8, 9]⟩, ⟨[], [3, 4, 5, 6, 7, 8]⟩, ⟨[], [3, 4, 5, 6, 7, 8]⟩, ⟨[], [3, 4, 5, 6]⟩, ⟨[], [3, 4, 5, 6]⟩, ⟨[], [4, 5, 10]⟩, ⟨[], [4, 5, 10, 11]⟩, ⟨[], [4, 5, 10, 11, 76]⟩, ⟨[], [4, 5, 10, 11]⟩, ⟨[], [4, 5, 10, 11]⟩, ⟨[(0, [7], [], true), cz 2, cz 7, (1, [7], [0], false), (3, [7], [], false), cz 4, cz 5, cz 6, cz 8, cz 9], [4, 5, 10, 12, 13]⟩, ⟨[(0, [7], [], true), cz 2, cz 7, (1, [7], [0], false), (3, [7], [], false), cz 4, cz 5, cz 6, cz 8, cz 9], [4, 10, 12, 13, 14, 15]⟩, ⟨[], [12, 14, 115]⟩, ⟨[], [2]⟩, ⟨[], [12, 14, 16]⟩, ⟨[], [12, 14, 16, 117]⟩, ⟨[cz 0, cz 1, cz 2, cz 4, (5, [], [], true), cz 6, (3, [], [5], false), cz 7, cz 8, cz 9], [12, 14, 16, 129]⟩, ⟨[], [2]⟩, ⟨[], [12, 14, 16]⟩, ⟨[], [2]⟩]
def rs_laws_FnTrcReads : List ResV := [.tm 2]
theorem ok_laws_FnTrcReads : compF Tryz.prog Tryz.f12 ct_laws_FnTrcReads = some (ac_laws_FnTrcReads, rs_laws_FnTrcReads) := by kernel_rfl
theorem en_laws_FnTrcReads : EnTy Tryz.prog n_laws_FnTrcReads Tryz.f12 ac_laws_FnTrcReads rs_laws_FnTrcReads :=
  EnTy.mk Tryz.func12 (by kernel_rfl) ok_laws_FnTrcReads

end Go.Proofs.YtiimjokpcbapeaaGreat
