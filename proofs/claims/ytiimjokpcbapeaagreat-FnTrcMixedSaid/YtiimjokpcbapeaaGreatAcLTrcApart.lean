/- The code of the functions with types resolved, checked against the program. Printed by a program (gen.py). -/
import Derived.Test.YtiimjokpcbapeaaGreatAcN
namespace Go.Proofs.YtiimjokpcbapeaaGreat
open Go Go.AM
set_option maxRecDepth 100000

/- loop.example/crossyard/impl.TrcApart -/
def ac_impl_TrcApart : AC :=
 (.seq (.region [rq 0 3 (.box true (.tm 0)),
 rq 1 4 (.box true (.tm 1)),
 rq 2 5 (.box true (.tm 2)),
 rq 3 6 (.move (.kv (.bool false)))] 4 [3, 4, 5])
 (.seq (.region [rq 0 7 (.load 3 true (.tm 3)),
 rq 1 8 (.call n_impl_BusOk [(.tm 7)]),
 rq 2 9 (.move (.tm 8)),
 ⟨3, (some 10), .load 3 true (.tm 3), (some (9, true)), [], [], false⟩,
 ⟨4, (some 11), .load 3 true (.tm 4), (some (9, true)), [], [], false⟩,
 ⟨5, (some 12), .call n_impl_BusCfg_kind [(.tm 10), (.tm 11)], (some (9, true)), [], [], false⟩,
 rq 6 13 (.pick (.tm 9) (.tm 12) (.kv (.bool false))),
 rq 7 14 (.move (.tm 13)),
 ⟨8, (some 15), .load 3 true (.tm 3), (some (14, true)), [], [], false⟩,
 ⟨9, (some 16), .load 3 true (.tm 5), (some (14, true)), [], [], false⟩,
 ⟨10, (some 17), .call n_impl_BusCfg_kind [(.tm 15), (.tm 16)], (some (14, true)), [], [], false⟩,
 rq 11 18 (.pick (.tm 14) (.tm 17) (.kv (.bool false))),
 rq 12 19 (.move (.tm 18)),
 ⟨13, (some 20), .load 3 true (.tm 3), (some (19, true)), [], [], false⟩,
 ⟨14, (some 21), .load 3 true (.tm 4), (some (19, true)), [], [], false⟩,
 ⟨15, (some 22), .load 3 true (.tm 5), (some (19, true)), [], [], false⟩,
 ⟨16, (some 23), .call n_impl_BusCfg_apart [(.tm 20), (.tm 21), (.tm 22)], (some (19, true)), [], [], false⟩,
 rq 17 24 (.pick (.tm 19) (.tm 23) (.kv (.bool false))),
 rq 18 6 (.move (.tm 24))] 19 [6])
 .ret))
def ct_impl_TrcApart : List Cert := [⟨[], [3, 4, 5]⟩, ⟨[], [6]⟩]
def rs_impl_TrcApart : List ResV := [.tm 6]
theorem ok_impl_TrcApart : compF Tryz.prog Tryz.f25 ct_impl_TrcApart = some (ac_impl_TrcApart, rs_impl_TrcApart) := by kernel_rfl
theorem en_impl_TrcApart : EnTy Tryz.prog n_impl_TrcApart Tryz.f25 ac_impl_TrcApart rs_impl_TrcApart :=
  EnTy.mk Tryz.func25 (by kernel_rfl) ok_impl_TrcApart

/- (loop.example/crossyard/impl.BusCfg).kind -/
def ac_impl_BusCfg_kind : AC :=
 (.seq (.region [rq 0 2 (.box true (.tm 0)),
 rq 1 3 (.box true (.tm 1)),
 rq 2 4 (.move (.kv (.bool false)))] 3 [2, 3])
 (.seq (.region [rq 0 5 (.fld 0 (.tm 3)),
 rq 1 6 (.load 1 false (.tm 5)),
 rq 2 7 (.call n_impl_in [(.tm 6), (ki 1), (ki 3)]),
 rq 3 8 (.move (.tm 7)),
 ⟨4, (some 9), .load 3 true (.tm 2), (some (8, true)), [], [], false⟩,
 ⟨5, (some 10), .fld 1 (.tm 3), (some (8, true)), [], [], false⟩,
 ⟨6, (some 11), .load 1 false (.tm 10), (some (8, true)), [], [], false⟩,
 ⟨7, (some 12), .fld 2 (.tm 3), (some (8, true)), [], [], false⟩,
 ⟨8, (some 13), .load 1 false (.tm 12), (some (8, true)), [], [], false⟩,
 ⟨9, (some 14), .call n_impl_BusCfg_asks [(.tm 9), (.tm 11), (.tm 13)], (some (8, true)), [], [], false⟩,
 rq 10 15 (.pick (.tm 8) (.tm 14) (.kv (.bool false))),
 rq 11 4 (.move (.tm 15))] 12 [4])
 .ret))
def ct_impl_BusCfg_kind : List Cert := [⟨[], [2, 3]⟩, ⟨[], [4]⟩]
def rs_impl_BusCfg_kind : List ResV := [.tm 4]
theorem ok_impl_BusCfg_kind : compF Tryz.prog Tryz.f44 ct_impl_BusCfg_kind = some (ac_impl_BusCfg_kind, rs_impl_BusCfg_kind) := by kernel_rfl
theorem en_impl_BusCfg_kind : EnTy Tryz.prog n_impl_BusCfg_kind Tryz.f44 ac_impl_BusCfg_kind rs_impl_BusCfg_kind :=
  EnTy.mk Tryz.func44 (by kernel_rfl) ok_impl_BusCfg_kind

/- (loop.example/crossyard/impl.BusCfg).apart -/
def ac_impl_BusCfg_apart : AC :=
 (.seq (.region [rq 0 3 (.box true (.tm 0)),
 rq 1 4 (.box true (.tm 1)),
 rq 2 5 (.box true (.tm 2)),
 rq 3 6 (.move (.kv (.bool false)))] 4 [3, 4, 5])
 (.seq (.seq (.region [rq 0 8 (.fld 1 (.tm 4)),
 rq 1 9 (.load 1 false (.tm 8)),
 rq 2 10 (.fld 1 (.tm 5)),
 rq 3 11 (.load 1 false (.tm 10)),
 rq 4 12 (.bin .eql (.tm 9) (.tm 11)),
 rq 5 13 (.move (.tm 12)),
 ⟨6, (some 14), .fld 0 (.tm 4), (some (13, false)), [], [], false⟩,
 ⟨7, (some 15), .load 1 false (.tm 14), (some (13, false)), [], [], false⟩,
 ⟨8, (some 16), .bin .eql (.tm 15) (ki 3), (some (13, false)), [], [], false⟩,
 ⟨9, (some 17), .move (.tm 16), (some (13, false)), [], [], false⟩,
 ⟨10, (some 18), .fld 0 (.tm 5), (some (17, true)), [], [], false⟩,
 ⟨11, (some 19), .load 1 false (.tm 18), (some (17, true)), [], [], false⟩,
 ⟨12, (some 20), .bin .eql (.tm 19) (ki 3), (some (17, true)), [], [], false⟩,
 ⟨13, (some 21), .pick (.tm 17) (.tm 20) (.kv (.bool false)), (some (13, false)), [], [], false⟩,
 rq 14 22 (.pick (.tm 13) (.kv (.bool true)) (.tm 21))] 15 [3, 4, 5, 22])
 (.cond (.tm 22)
 (.seq (.region [rq 0 6 (.move (.kv (.bool false)))] 1 [6])
 .ret)
 .skip))
 (.seq (.seq (.region [rq 0 23 (.fld 0 (.tm 4)),
 rq 1 24 (.load 1 false (.tm 23)),
 rq 2 25 (.bin .neq (.tm 24) (ki 2)),
 rq 3 26 (.move (.tm 25)),
 ⟨4, (some 27), .fld 0 (.tm 5), (some (26, false)), [], [], false⟩,
 ⟨5, (some 28), .load 1 false (.tm 27), (some (26, false)), [], [], false⟩,
 ⟨6, (some 29), .bin .neq (.tm 28) (ki 2), (some (26, false)), [], [], false⟩,
 rq 7 30 (.pick (.tm 26) (.kv (.bool true)) (.tm 29))] 8 [3, 4, 5, 30])
 (.cond (.tm 30)
 (.seq (.region [rq 0 6 (.move (.kv (.bool true)))] 1 [6])
 .ret)
 .skip))
 (.seq (.region [rq 0 31 (.fld 2 (.tm 3)),
 ⟨1, (some 32), .load 1 false (.tm 31), none, [11], [], false⟩,
 rq 2 33 (.fld 1 (.tm 5)),
 ⟨3, (some 34), .load 1 false (.tm 33), none, [11], [], false⟩,
 rq 4 35 (.idx 1 (.tm 32) (.tm 34)),
 ⟨5, (some 36), .load 1 false (.tm 35), none, [11], [], false⟩,
 rq 6 37 (.fld 2 (.tm 5)),
 ⟨7, (some 38), .load 1 false (.tm 37), none, [11], [], false⟩,
 rq 8 39 (.idx 7 (.tm 36) (.tm 38)),
 ⟨9, (some 40), .load 7 true (.tm 39), none, [11], [], false⟩,
 rq 11 7 (.alloc [(.osl 0 0 0 0 0)]),
 ⟨10, (some 41), .call n_impl_ReqReq_burst [(.tm 40)], none, [11], [], false⟩,
 rn 12 (.store 1 false (.tm 7) (.tm 41))] 13 [3, 4, 7])
 (.seq (.region [rq 0 42 (.fld 2 (.tm 3)),
 rq 1 43 (.load 1 false (.tm 42)),
 rq 2 44 (.fld 1 (.tm 4)),
 rq 3 45 (.load 1 false (.tm 44)),
 rq 4 46 (.idx 1 (.tm 43) (.tm 45)),
 rq 5 47 (.load 1 false (.tm 46)),
 rq 6 48 (.fld 2 (.tm 4)),
 rq 7 49 (.load 1 false (.tm 48)),
 rq 8 50 (.idx 7 (.tm 47) (.tm 49)),
 rq 9 51 (.load 7 true (.tm 50)),
 rq 11 53 (.xop (.mkclo n_impl_BusCfg_apart_1) [(.tm 7)]),
 rq 10 52 (.call n_impl_ReqReq_burst [(.tm 51)]),
 rq 12 54 (.call n_slices_ContainsFunc_Zint_int [(.tm 52), (.tm 53)]),
 rq 13 55 (.un .not (.tm 54)),
 rq 14 6 (.move (.tm 55))] 15 [6])
 .ret)))))
def ct_impl_BusCfg_apart : List Cert := [⟨[], [3, 4, 5]⟩, ⟨[], [3, 4, 5, 22]⟩, ⟨[], [6]⟩, ⟨[], [3, 4, 5, 30]⟩, ⟨[], [6]⟩, ⟨[cz 0, (1, [11], [], false), cz 2, (3, [11], [], false), cz 4, (5, [11], [], false), cz 6, (7, [11], [], false), cz 8, (9, [11], [], false), cz 11, (10, [11], [], false), cz 12], [3, 4, 7]⟩, ⟨[cz 0, cz 1, cz 2, cz 3, cz 4, cz 5, cz 6, cz 7, cz 8, cz 9, cz 11, cz 10, cz 12, cz 13, cz 14], [6]⟩]
def rs_impl_BusCfg_apart : List ResV := [.tm 6]
theorem ok_impl_BusCfg_apart : compF Tryz.prog Tryz.f45 ct_impl_BusCfg_apart = some (ac_impl_BusCfg_apart, rs_impl_BusCfg_apart) := by kernel_rfl
theorem en_impl_BusCfg_apart : EnTy Tryz.prog n_impl_BusCfg_apart Tryz.f45 ac_impl_BusCfg_apart rs_impl_BusCfg_apart :=
  EnTy.mk Tryz.func45 (by kernel_rfl) ok_impl_BusCfg_apart

/- (loop.example/crossyard/impl.BusCfg).apart$1 -/
def ac_impl_BusCfg_apart_1 : AC :=
 (.seq (.region [rq 0 3 (.move (.kv (.bool false)))] 1 [0, 1])
 (.seq (.region [rq 0 4 (.load 1 false (.tm 1)),
 rq 1 5 (.move (.tm 0)),
 rq 2 6 (.call n_slices_Contains_Zint_int [(.tm 4), (.tm 5)]),
 rq 3 3 (.move (.tm 6))] 4 [3])
 .ret))
def ct_impl_BusCfg_apart_1 : List Cert := [⟨[], [0, 1]⟩, ⟨[], [3]⟩]
def rs_impl_BusCfg_apart_1 : List ResV := [.tm 3]
theorem ok_impl_BusCfg_apart_1 : compF Tryz.prog Tryz.f81 ct_impl_BusCfg_apart_1 = some (ac_impl_BusCfg_apart_1, rs_impl_BusCfg_apart_1) := by kernel_rfl
theorem en_impl_BusCfg_apart_1 : EnTy Tryz.prog n_impl_BusCfg_apart_1 Tryz.f81 ac_impl_BusCfg_apart_1 rs_impl_BusCfg_apart_1 :=
  EnTy.mk Tryz.func81 (by kernel_rfl) ok_impl_BusCfg_apart_1

end Go.Proofs.YtiimjokpcbapeaaGreat
