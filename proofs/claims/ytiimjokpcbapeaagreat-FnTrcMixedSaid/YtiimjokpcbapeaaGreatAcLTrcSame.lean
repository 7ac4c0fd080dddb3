/- The code of the functions with types resolved, checked against the program. Printed by a program (gen.py). -/
import Derived.Test.YtiimjokpcbapeaaGreatAcN
namespace Go.Proofs.YtiimjokpcbapeaaGreat
open Go Go.AM
set_option maxRecDepth 100000

/- loop.example/crossyard/impl.TrcSame -/
def ac_impl_TrcSame : AC :=
 (.seq (.region [rq 0 3 (.box true (.tm 0)),
 rq 1 6 (.move (.kv (.bool false)))] 2 [1, 2, 3])
 (.seq (.seq (.region [rq 0 15 (.load 3 true (.tm 3)),
 rq 1 16 (.move (.tm 1)),
 rq 2 17 (.call n_impl_BusCfg_traced [(.tm 15), (.tm 16)]),
 rq 3 18 (.un .not (.tm 17)),
 rq 4 19 (.move (.tm 18)),
 ⟨5, (some 20), .load 3 true (.tm 3), (some (19, false)), [], [], false⟩,
 ⟨6, (some 21), .move (.tm 2), (some (19, false)), [], [], false⟩,
 ⟨7, (some 22), .call n_impl_BusCfg_traced [(.tm 20), (.tm 21)], (some (19, false)), [], [], false⟩,
 ⟨8, (some 23), .un .not (.tm 22), (some (19, false)), [], [], false⟩,
 rq 9 24 (.pick (.tm 19) (.kv (.bool true)) (.tm 23)),
 rq 10 25 (.move (.tm 24)),
 ⟨11, (some 26), .move (.tm 1), (some (25, false)), [], [], false⟩,
 ⟨12, (some 27), .len false (.tm 26), (some (25, false)), [], [], false⟩,
 ⟨13, (some 28), .move (.tm 2), (some (25, false)), [], [], false⟩,
 ⟨14, (some 29), .len false (.tm 28), (some (25, false)), [], [], false⟩,
 ⟨15, (some 30), .bin .neq (.tm 27) (.tm 29), (some (25, false)), [], [], false⟩,
 rq 16 31 (.pick (.tm 25) (.kv (.bool true)) (.tm 30))] 17 [1, 2, 3, 31])
 (.cond (.tm 31)
 (.seq (.region [rq 0 6 (.move (.kv (.bool false)))] 1 [6])
 .ret)
 .skip))
 (.seq (.region [rq 0 32 (.xop (.mkmap 3 false) []),
 rq 1 7 (.alloc [(.v (.map none))]),
 rn 2 (.store 1 false (.tm 7) (.tm 32))] 3 [1, 2, 3, 7])
 (.seq (.seq (.region [rq 0 33 (.move (.tm 2)),
 rq 1 34 (.len false (.tm 33)),
 rq 2 35 (.move (ki 0))] 3 [1, 3, 7, 33, 34, 35])
 (.block 0
 (.loop
 (.seq (.region [rq 0 36 (.bin .lss (.tm 35) (.tm 34))] 1 [1, 3, 7, 33, 34, 35, 36])
 (.seq (.cond (.tm 36)
 .skip
 (.exit 0))
 (.seq (.block 1
 (.seq (.region [rq 0 37 (.move (.tm 35)),
 rq 1 38 (.idx 3 (.tm 33) (.tm 35)),
 rq 2 39 (.load 3 true (.tm 38)),
 rq 3 9 (.alloc [(.v (.int .i64 0)), (.v (.int .i64 0)), (.v (.int .i64 0))]),
 rq 4 8 (.move (.tm 37)),
 rn 5 (.store 3 true (.tm 9) (.tm 39))] 6 [1, 3, 7, 8, 9, 33, 34, 35])
 (.region [rq 0 40 (.load 1 false (.tm 7)),
 rq 1 41 (.load 3 true (.tm 9)),
 rq 2 42 (.move (.tm 8)),
 rn 3 (.xop (.mapset 3 false) [(.tm 40), (.tm 41), (.tm 42)])] 4 [1, 3, 7, 33, 34, 35])))
 (.region [rq 0 43 (.bin .add (.tm 35) (ki 1)),
 rq 1 35 (.move (.tm 43))] 2 [1, 3, 7, 33, 34, 35])))))))
 (.seq (.region [rq 0 44 (.xop (.mkmap 3 true) []),
 rq 1 10 (.move (.tm 44))] 2 [1, 3, 7, 10])
 (.seq (.seq (.region [rq 0 45 (.move (.tm 1)),
 rq 1 46 (.len false (.tm 45)),
 rq 2 47 (.move (ki 0))] 3 [1, 3, 7, 10, 45, 46, 47])
 (.block 2
 (.loop
 (.seq (.region [rq 0 48 (.bin .lss (.tm 47) (.tm 46))] 1 [1, 3, 7, 10, 45, 46, 47, 48])
 (.seq (.cond (.tm 48)
 .skip
 (.exit 2))
 (.seq (.block 3
 (.seq (.region [rq 0 49 (.move (.tm 47)),
 rq 1 50 (.idx 3 (.tm 45) (.tm 47)),
 rq 2 51 (.load 3 true (.tm 50)),
 rq 3 12 (.alloc [(.v (.int .i64 0)), (.v (.int .i64 0)), (.v (.int .i64 0))]),
 rq 4 11 (.move (.tm 49)),
 rn 5 (.store 3 true (.tm 12) (.tm 51))] 6 [1, 3, 7, 10, 11, 12, 45, 46, 47])
 (.seq (.region [rq 0 53 (.load 1 false (.tm 7)),
 rq 1 54 (.load 3 true (.tm 12)),
 rq 2 55 (.xop (.mapget 3 false true) [(.tm 53), (.tm 54)]),
 rq 3 52 (.move (.tm 55)),
 rq 4 56 (.ext (.tm 52) 0),
 rq 5 57 (.ext (.tm 52) 1),
 rq 6 13 (.alloc [(.v (.int .i64 0))]),
 rn 7 (.store 1 false (.tm 13) (.tm 56)),
 rq 8 14 (.move (.tm 57))] 9 [1, 3, 7, 10, 11, 12, 13, 14, 45, 46, 47])
 (.seq (.seq (.region [rq 0 58 (.move (.tm 14)),
 rq 1 59 (.un .not (.tm 58)),
 rq 2 60 (.move (.tm 59)),
 ⟨3, (some 61), .move (.tm 10), (some (60, false)), [], [], false⟩,
 ⟨4, (some 62), .load 3 true (.tm 12), (some (60, false)), [], [], false⟩,
 ⟨5, (some 63), .xop (.mapget 3 true false) [(.tm 61), (.tm 62)], (some (60, false)), [], [], false⟩,
 rq 6 64 (.pick (.tm 60) (.kv (.bool true)) (.tm 63))] 7 [1, 3, 7, 10, 11, 12, 13, 45, 46, 47, 64])
 (.cond (.tm 64)
 (.seq (.region [rq 0 6 (.move (.kv (.bool false)))] 1 [6])
 .ret)
 .skip))
 (.seq (.region [rq 0 65 (.move (.tm 10)),
 rq 1 66 (.load 3 true (.tm 12)),
 rn 2 (.xop (.mapset 3 true) [(.tm 65), (.tm 66), (.kv (.bool true))])] 3 [1, 3, 7, 10, 11, 12, 13, 45, 46, 47])
 (.seq (.region [rq 0 67 (.move (.tm 1)),
 rq 1 68 (.move (.tm 11)),
 rq 2 69 (.slc 3 (.tm 67) none (some (.tm 68)) none),
 rq 3 70 (.xop (.mkclo n_impl_TrcSame_1) [(.tm 3), (.tm 12), (.tm 7), (.tm 13)]),
 rq 4 71 (.call n_slices_ContainsFunc_ZTlmEvent_TlmEvent [(.tm 69), (.tm 70)])] 5 [1, 3, 7, 10, 45, 46, 47, 71])
 (.cond (.tm 71)
 (.seq (.region [rq 0 6 (.move (.kv (.bool false)))] 1 [6])
 .ret)
 .skip)))))))
 (.region [rq 0 72 (.bin .add (.tm 47) (ki 1)),
 rq 1 47 (.move (.tm 72))] 2 [1, 3, 7, 10, 45, 46, 47])))))))
 (.seq (.region [rq 0 6 (.move (.kv (.bool true)))] 1 [6])
 .ret)))))))
def ct_impl_TrcSame : List Cert := [⟨[], [1, 2, 3]⟩, ⟨[], [1, 2, 3, 31]⟩, ⟨[], [6]⟩, ⟨[], [1, 2, 3, 7]⟩, ⟨[], [1, 3, 7, 33, 34, 35]⟩, ⟨[], [1, 3, 7, 33, 34, 35, 36]⟩, ⟨[], [1, 3, 7, 8, 9, 33, 34, 35]⟩, ⟨[], [1, 3, 7, 33, 34, 35]⟩, ⟨[], [1, 3, 7, 33, 34, 35]⟩, ⟨[], [1, 3, 7, 10]⟩, ⟨[], [1, 3, 7, 10, 45, 46, 47]⟩, ⟨[], [1, 3, 7, 10, 45, 46, 47, 48]⟩, ⟨[], [1, 3, 7, 10, 11, 12, 45, 46, 47]⟩, ⟨[], [1, 3, 7, 10, 11, 12, 13, 14, 45, 46, 47]⟩, ⟨[], [1, 3, 7, 10, 11, 12, 13, 45, 46, 47, 64]⟩, ⟨[], [6]⟩, ⟨[], [1, 3, 7, 10, 11, 12, 13, 45, 46, 47]⟩, ⟨[], [1, 3, 7, 10, 45, 46, 47, 71]⟩, ⟨[], [6]⟩, ⟨[], [1, 3, 7, 10, 45, 46, 47]⟩, ⟨[], [6]⟩]
def rs_impl_TrcSame : List ResV := [.tm 6]
theorem ok_impl_TrcSame : compF Tryz.prog Tryz.f32 ct_impl_TrcSame = some (ac_impl_TrcSame, rs_impl_TrcSame) := by kernel_rfl
theorem en_impl_TrcSame : EnTy Tryz.prog n_impl_TrcSame Tryz.f32 ac_impl_TrcSame rs_impl_TrcSame :=
  EnTy.mk Tryz.func32 (by kernel_rfl) ok_impl_TrcSame

/- (loop.example/crossyard/impl.BusCfg).traced -/
def ac_impl_BusCfg_traced : AC :=
 (.seq (.region [rq 0 2 (.box true (.tm 0)),
 rq 1 4 (.move (.kv (.bool false)))] 2 [1, 2])
 (.seq (.region [rq 0 5 (.load 3 true (.tm 2)),
 rq 1 6 (.call n_impl_BusOk [(.tm 5)]),
 rq 2 7 (.move (.tm 6)),
 ⟨3, (some 8), .move (.tm 1), (some (7, true)), [], [], false⟩,
 ⟨4, (some 9), .len false (.tm 8), (some (7, true)), [], [], false⟩,
 ⟨5, (some 10), .bin .leq (.tm 9) (ki 200), (some (7, true)), [], [], false⟩,
 rq 6 11 (.pick (.tm 7) (.tm 10) (.kv (.bool false))),
 rq 7 12 (.move (.tm 11)),
 ⟨8, (some 13), .move (.tm 1), (some (12, true)), [], [], false⟩,
 ⟨9, (some 14), .xop (.mkclo n_impl_BusCfg_traced_1) [(.tm 2)], (some (12, true)), [], [], false⟩,
 ⟨10, (some 15), .call n_slices_ContainsFunc_ZTlmEvent_TlmEvent [(.tm 13), (.tm 14)], (some (12, true)), [], [], false⟩,
 ⟨11, (some 16), .un .not (.tm 15), (some (12, true)), [], [], false⟩,
 rq 12 17 (.pick (.tm 12) (.tm 16) (.kv (.bool false))),
 rq 13 4 (.move (.tm 17))] 14 [4])
 .ret))
def ct_impl_BusCfg_traced : List Cert := [⟨[], [1, 2]⟩, ⟨[], [4]⟩]
def rs_impl_BusCfg_traced : List ResV := [.tm 4]
theorem ok_impl_BusCfg_traced : compF Tryz.prog Tryz.f53 ct_impl_BusCfg_traced = some (ac_impl_BusCfg_traced, rs_impl_BusCfg_traced) := by kernel_rfl
theorem en_impl_BusCfg_traced : EnTy Tryz.prog n_impl_BusCfg_traced Tryz.f53 ac_impl_BusCfg_traced rs_impl_BusCfg_traced :=
  EnTy.mk Tryz.func53 (by kernel_rfl) ok_impl_BusCfg_traced

/- loop.example/crossyard/impl.TrcSame$1 -/
def ac_impl_TrcSame_1 : AC :=
 (.seq (.region [rq 0 5 (.box true (.tm 0)),
 rq 1 6 (.move (.kv (.bool false)))] 2 [1, 2, 3, 4, 5])
 (.seq (.region [rq 0 7 (.load 3 true (.tm 1)),
 rq 1 8 (.load 3 true (.tm 5)),
 rq 2 9 (.load 3 true (.tm 2)),
 rq 3 10 (.call n_impl_BusCfg_apart [(.tm 7), (.tm 8), (.tm 9)]),
 rq 4 11 (.un .not (.tm 10)),
 rq 5 12 (.move (.tm 11)),
 ⟨6, (some 13), .load 1 false (.tm 3), (some (12, true)), [], [], false⟩,
 ⟨7, (some 14), .load 3 true (.tm 5), (some (12, true)), [], [], false⟩,
 ⟨9, (some 16), .load 1 false (.tm 4), (some (12, true)), [], [], true⟩,
 ⟨8, (some 15), .xop (.mapget 3 false false) [(.tm 13), (.tm 14)], (some (12, true)), [], [9], false⟩,
 ⟨10, (some 17), .bin .gtr (.tm 15) (.tm 16), (some (12, true)), [], [], false⟩,
 rq 11 18 (.pick (.tm 12) (.tm 17) (.kv (.bool false))),
 rq 12 6 (.move (.tm 18))] 13 [6])
 .ret))
def ct_impl_TrcSame_1 : List Cert := [⟨[], [1, 2, 3, 4, 5]⟩, ⟨[cz 0, cz 1, cz 2, cz 3, cz 4, cz 5, cz 6, cz 7, (9, [], [], true), (8, [], [9], false), cz 10, cz 11, cz 12], [6]⟩]
def rs_impl_TrcSame_1 : List ResV := [.tm 6]
theorem ok_impl_TrcSame_1 : compF Tryz.prog Tryz.f55 ct_impl_TrcSame_1 = some (ac_impl_TrcSame_1, rs_impl_TrcSame_1) := by kernel_rfl
theorem en_impl_TrcSame_1 : EnTy Tryz.prog n_impl_TrcSame_1 Tryz.f55 ac_impl_TrcSame_1 rs_impl_TrcSame_1 :=
  EnTy.mk Tryz.func55 (by kernel_rfl) ok_impl_TrcSame_1

/- (loop.example/crossyard/impl.BusCfg).traced$1 -/
def ac_impl_BusCfg_traced_1 : AC :=
 (.seq (.region [rq 0 2 (.box true (.tm 0)),
 rq 1 3 (.move (.kv (.bool false)))] 2 [1, 2])
 (.seq (.region [rq 0 4 (.load 3 true (.tm 1)),
 rq 1 5 (.load 3 true (.tm 2)),
 rq 2 6 (.call n_impl_BusCfg_kind [(.tm 4), (.tm 5)]),
 rq 3 7 (.un .not (.tm 6)),
 rq 4 3 (.move (.tm 7))] 5 [3])
 .ret))
def ct_impl_BusCfg_traced_1 : List Cert := [⟨[], [1, 2]⟩, ⟨[], [3]⟩]
def rs_impl_BusCfg_traced_1 : List ResV := [.tm 3]
theorem ok_impl_BusCfg_traced_1 : compF Tryz.prog Tryz.f88 ct_impl_BusCfg_traced_1 = some (ac_impl_BusCfg_traced_1, rs_impl_BusCfg_traced_1) := by kernel_rfl
theorem en_impl_BusCfg_traced_1 : EnTy Tryz.prog n_impl_BusCfg_traced_1 Tryz.f88 ac_impl_BusCfg_traced_1 rs_impl_BusCfg_traced_1 :=
  EnTy.mk Tryz.func88 (by kernel_rfl) ok_impl_BusCfg_traced_1

end Go.Proofs.YtiimjokpcbapeaaGreat
