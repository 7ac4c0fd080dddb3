/- The code of the functions with types resolved, checked against the program. Printed by a program (gen.py). -/
import Derived.Test.YtiimjokpcbapeaaGreatAcN
namespace Go.Proofs.YtiimjokpcbapeaaGreat
open Go Go.AM
set_option maxRecDepth 100000

/- loop.example/crossyard/impl.AtmOrder -/
def ac_impl_AtmOrder : AC :=
 (.seq (.region [rq 0 2 (.box true (.tm 0)),
 rq 1 4 (.alloc [(.osl 0 0 0 0 0), (.osl 0 0 0 0 0)]),
 rq 2 5 (.move (.kv (.slice none 0 0)))] 3 [1, 2, 4])
 (.seq (.seq (.region [rq 0 10 (.load 3 true (.tm 2)),
 rq 1 11 (.call n_impl_BusOk [(.tm 10)]),
 rq 2 12 (.un .not (.tm 11)),
 rq 3 13 (.move (.tm 12)),
 ⟨4, (some 14), .move (.tm 1), (some (13, false)), [], [], false⟩,
 ⟨5, (some 15), .len false (.tm 14), (some (13, false)), [], [], false⟩,
 ⟨6, (some 16), .bin .gtr (.tm 15) (ki 108), (some (13, false)), [], [], false⟩,
 rq 7 17 (.pick (.tm 13) (.kv (.bool true)) (.tm 16))] 8 [1, 2, 4, 17])
 (.cond (.tm 17)
 (.seq (.region [rq 0 18 (.build [(.osl 0 0 0 0 0), (.osl 0 0 0 0 0)] []),
 rn 1 (.store 2 true (.tm 4) (.tm 18)),
 rq 2 5 (.move (.kv (.slice none 0 0)))] 3 [4, 5])
 .ret)
 .skip))
 (.seq (.region [rq 0 19 (.call n_impl_AtmNew []),
 rq 1 6 (.alloc [(.osl 0 0 0 0 0), (.osl 0 0 0 0 0)]),
 rn 2 (.store 2 true (.tm 6) (.tm 19))] 3 [1, 2, 4, 6])
 (.seq (.region [rq 0 7 (.move (.kv (.slice none 0 0)))] 1 [1, 2, 4, 6, 7])
 (.seq (.seq (.region [rq 0 20 (.move (.tm 1)),
 rq 1 21 (.len false (.tm 20)),
 rq 2 22 (.move (ki 0))] 3 [2, 4, 6, 7, 20, 21, 22])
 (.block 0
 (.loop
 (.seq (.region [rq 0 23 (.bin .lss (.tm 22) (.tm 21))] 1 [2, 4, 6, 7, 20, 21, 22, 23])
 (.seq (.cond (.tm 23)
 .skip
 (.exit 0))
 (.seq (.block 1
 (.seq (.region [rq 0 24 (.idx 3 (.tm 20) (.tm 22)),
 rq 1 25 (.load 3 true (.tm 24)),
 rq 2 9 (.alloc [(.v (.int .i64 0)), (.v (.int .i64 0)), (.v (.int .i64 0))]),
 rn 3 (.store 3 true (.tm 9) (.tm 25))] 4 [2, 4, 6, 7, 9, 20, 21, 22])
 (.seq (.region [rq 0 26 (.fld 0 (.tm 9)),
 rq 1 27 (.load 1 false (.tm 26)),
 rq 2 28 (.bin .eql (.tm 27) (ki 2)),
 rq 3 29 (.move (.tm 28)),
 ⟨4, (some 30), .load 3 true (.tm 2), (some (29, true)), [], [], false⟩,
 ⟨5, (some 31), .fld 1 (.tm 9), (some (29, true)), [], [], false⟩,
 ⟨6, (some 32), .load 1 false (.tm 31), (some (29, true)), [], [], false⟩,
 ⟨7, (some 33), .fld 2 (.tm 9), (some (29, true)), [], [], false⟩,
 ⟨8, (some 34), .load 1 false (.tm 33), (some (29, true)), [], [], false⟩,
 ⟨9, (some 35), .call n_impl_BusCfg_asks [(.tm 30), (.tm 32), (.tm 34)], (some (29, true)), [], [], false⟩,
 rq 10 36 (.pick (.tm 29) (.tm 35) (.kv (.bool false)))] 11 [2, 4, 6, 7, 9, 20, 21, 22, 36])
 (.cond (.tm 36)
 (.region [rq 0 37 (.move (.tm 7)),
 rq 1 38 (.fld 1 (.tm 9)),
 ⟨2, (some 39), .load 1 false (.tm 38), none, [21], [], true⟩,
 rq 3 40 (.fld 2 (.tm 9)),
 ⟨4, (some 41), .load 1 false (.tm 40), none, [21], [], true⟩,
 rq 5 42 (.fld 0 (.tm 2)),
 rq 6 43 (.load 1 false (.tm 42)),
 rq 7 44 (.fld 1 (.tm 9)),
 rq 8 45 (.load 1 false (.tm 44)),
 rq 9 46 (.fld 2 (.tm 2)),
 rq 10 47 (.load 1 false (.tm 46)),
 rq 11 48 (.fld 1 (.tm 9)),
 rq 12 49 (.load 1 false (.tm 48)),
 rq 13 50 (.idx 1 (.tm 47) (.tm 49)),
 rq 14 51 (.load 1 false (.tm 50)),
 rq 15 52 (.fld 2 (.tm 9)),
 rq 16 53 (.load 1 false (.tm 52)),
 rq 17 54 (.idx 7 (.tm 51) (.tm 53)),
 rq 18 55 (.load 7 true (.tm 54)),
 ⟨19, (some 56), .call n_impl_AtmState_do [(.tm 6), (.tm 43), (.tm 45), (.tm 55)], none, [], [2, 4], false⟩,
 rq 20 57 (.build [(.v (.int .i64 0)), (.v (.int .i64 0)), (.v (.int .i64 0)), (.v (.int .i64 0)), (.osl 0 0 0 0 0)] [(0, 1, (.tm 39)), (1, 1, (.tm 41)), (2, 3, (.tm 56))]),
 rq 21 58 (.bslice 5 1 [(.v (.int .i64 0)), (.v (.int .i64 0)), (.v (.int .i64 0)), (.v (.int .i64 0)), (.osl 0 0 0 0 0)] [(0, 5, (.tm 57))]),
 rq 22 59 (.append 5 (.tm 37) (.tm 58)),
 rq 23 7 (.move (.tm 59))] 24 [2, 4, 6, 7, 20, 21, 22])
 .skip))))
 (.region [rq 0 60 (.bin .add (.tm 22) (ki 1)),
 rq 1 22 (.move (.tm 60))] 2 [2, 4, 6, 7, 20, 21, 22])))))))
 (.seq (.region [⟨0, (some 61), .load 2 true (.tm 6), none, [], [], true⟩,
 rq 1 62 (.move (.tm 7)),
 ⟨2, (some 63), .call n_slices_Clip_ZTlmJob_TlmJob [(.tm 62)], none, [], [0], false⟩,
 rn 3 (.store 2 true (.tm 4) (.tm 61)),
 rq 4 5 (.move (.tm 63))] 5 [4, 5])
 .ret))))))
def ct_impl_AtmOrder : List Cert := [⟨[], [1, 2, 4]⟩, ⟨[], [1, 2, 4, 17]⟩, ⟨[], [4, 5]⟩, ⟨[], [1, 2, 4, 6]⟩, ⟨[], [1, 2, 4, 6, 7]⟩, ⟨[], [2, 4, 6, 7, 20, 21, 22]⟩, ⟨[], [2, 4, 6, 7, 20, 21, 22, 23]⟩, ⟨[], [2, 4, 6, 7, 9, 20, 21, 22]⟩, ⟨[], [2, 4, 6, 7, 9, 20, 21, 22, 36]⟩, ⟨[cz 0, cz 1, (2, [21], [], true), cz 3, (4, [21], [], true), cz 5, cz 6, cz 7, cz 8, cz 9, cz 10, cz 11, cz 12, cz 13, cz 14, cz 15, cz 16, cz 17, cz 18, (19, [], [2, 4], false), cz 20, cz 21, cz 22, cz 23], [2, 4, 6, 7, 20, 21, 22]⟩, ⟨[], [2, 4, 6, 7, 20, 21, 22]⟩, ⟨[(0, [], [], true), cz 1, (2, [], [0], false), cz 3, cz 4], [4, 5]⟩]
def rs_impl_AtmOrder : List ResV := [.cell 4 2 true, .tm 5]
theorem ok_impl_AtmOrder : compF Tryz.prog Tryz.f29 ct_impl_AtmOrder = some (ac_impl_AtmOrder, rs_impl_AtmOrder) := by kernel_rfl
theorem en_impl_AtmOrder : EnTy Tryz.prog n_impl_AtmOrder Tryz.f29 ac_impl_AtmOrder rs_impl_AtmOrder :=
  EnTy.mk Tryz.func29 (by kernel_rfl) ok_impl_AtmOrder

end Go.Proofs.YtiimjokpcbapeaaGreat
