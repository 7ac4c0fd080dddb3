/- The code of the functions with types resolved, checked against the program. Printed by a program (gen.py). -/
import Derived.Test.YtiimjokpcbapeaaGreatAcN
namespace Go.Proofs.YtiimjokpcbapeaaGreat
open Go Go.AM
set_option maxRecDepth 100000

/- loop.example/crossyard/spec.DrawTlmPlay -/
def ac_spec_DrawTlmPlay : AC :=
 (.seq (.region [rq 0 2 (.alloc [(.osl 0 0 0 0 0), (.osl 0 0 0 0 0), (.osl 0 0 0 0 0)]),
 rq 1 3 (.move (.kv (.slice none 0 0)))] 2 [0, 2])
 (.seq (.region [rq 0 8 (.move (.tm 0)),
 rq 1 9 (.call n_spec_l20Open [(.tm 8)]),
 rq 2 10 (.call n_spec_l20Tlm [(.tm 9), (ki 130)]),
 rq 3 7 (.move (.tm 10)),
 rq 4 11 (.ext (.tm 7) 0),
 rq 5 12 (.ext (.tm 7) 1),
 rq 6 13 (.ext (.tm 7) 2),
 rq 7 4 (.alloc [(.osl 0 0 0 0 0), (.osl 0 0 0 0 0), (.osl 0 0 0 0 0)]),
 rq 8 5 (.alloc [(.osl 0 0 0 0 0), (.osl 0 0 0 0 0), (.osl 0 0 0 0 0), (.osl 0 0 0 0 0), (.osl 0 0 0 0 0), (.osl 0 0 0 0 0)]),
 rn 9 (.store 3 true (.tm 4) (.tm 11)),
 rn 10 (.store 6 true (.tm 5) (.tm 12)),
 rq 11 6 (.move (.tm 13))] 12 [2, 4, 6])
 (.seq (.region [rq 0 14 (.load 3 true (.tm 4)),
 rq 1 15 (.move (.tm 6)),
 rn 2 (.store 3 true (.tm 2) (.tm 14)),
 rq 3 3 (.move (.tm 15))] 4 [2, 3])
 .ret)))
def ct_spec_DrawTlmPlay : List Cert := [⟨[], [0, 2]⟩, ⟨[], [2, 4, 6]⟩, ⟨[], [2, 3]⟩]
def rs_spec_DrawTlmPlay : List ResV := [.cell 2 3 true, .tm 3]
theorem ok_spec_DrawTlmPlay : compF Tryz.prog Tryz.f15 ct_spec_DrawTlmPlay = some (ac_spec_DrawTlmPlay, rs_spec_DrawTlmPlay) := by kernel_rfl
theorem en_spec_DrawTlmPlay : EnTy Tryz.prog n_spec_DrawTlmPlay Tryz.f15 ac_spec_DrawTlmPlay rs_spec_DrawTlmPlay :=
  EnTy.mk Tryz.func15 (by kernel_rfl) ok_spec_DrawTlmPlay

/- loop.example/crossyard/impl.TlmRun -/
def ac_impl_TlmRun : AC :=
 (.seq (.region [rq 0 3 (.box true (.tm 0)),
 rq 1 4 (.box true (.tm 1)),
 rq 2 6 (.alloc [(.osl 0 0 0 0 0), (.osl 0 0 0 0 0), (.osl 0 0 0 0 0), (.osl 0 0 0 0 0), (.osl 0 0 0 0 0), (.osl 0 0 0 0 0)]),
 rq 3 7 (.move (ki 0))] 4 [2, 3, 4, 6])
 (.seq (.seq (.region [rq 0 11 (.load 3 true (.tm 3)),
 rq 1 12 (.load 6 true (.tm 4)),
 rq 2 13 (.call n_impl_TlmOk [(.tm 11), (.tm 12)]),
 rq 3 14 (.un .not (.tm 13)),
 rq 4 15 (.move (.tm 14)),
 ⟨5, (some 16), .move (.tm 2), (some (15, false)), [], [], false⟩,
 ⟨6, (some 17), .len false (.tm 16), (some (15, false)), [], [], false⟩,
 ⟨7, (some 18), .bin .gtr (.tm 17) (ki 200), (some (15, false)), [], [], false⟩,
 rq 8 19 (.pick (.tm 15) (.kv (.bool true)) (.tm 18))] 9 [2, 3, 4, 6, 19])
 (.cond (.tm 19)
 (.seq (.region [rq 0 20 (.build [(.osl 0 0 0 0 0), (.osl 0 0 0 0 0), (.osl 0 0 0 0 0), (.osl 0 0 0 0 0), (.osl 0 0 0 0 0), (.osl 0 0 0 0 0)] []),
 rn 1 (.store 6 true (.tm 6) (.tm 20)),
 rq 2 7 (.move (.kv (.int .i64 (-1))))] 3 [6, 7])
 .ret)
 .skip))
 (.seq (.region [rq 0 21 (.load 6 true (.tm 4)),
 rq 1 22 (.call n_impl_TlmState_copyOf [(.tm 21)]),
 rq 2 8 (.alloc [(.osl 0 0 0 0 0), (.osl 0 0 0 0 0), (.osl 0 0 0 0 0), (.osl 0 0 0 0 0), (.osl 0 0 0 0 0), (.osl 0 0 0 0 0)]),
 rn 3 (.store 6 true (.tm 8) (.tm 22))] 4 [2, 3, 6, 8])
 (.seq (.seq (.region [rq 0 23 (.move (.tm 2)),
 rq 1 24 (.len false (.tm 23)),
 rq 2 25 (.move (ki 0))] 3 [2, 3, 6, 8, 23, 24, 25])
 (.block 0
 (.loop
 (.seq (.region [rq 0 26 (.bin .lss (.tm 25) (.tm 24))] 1 [2, 3, 6, 8, 23, 24, 25, 26])
 (.seq (.cond (.tm 26)
 .skip
 (.exit 0))
 (.seq (.block 1
 (.seq (.region [rq 0 27 (.move (.tm 25)),
 rq 1 28 (.idx 3 (.tm 23) (.tm 25)),
 rq 2 29 (.load 3 true (.tm 28)),
 rq 3 10 (.alloc [(.v (.int .i64 0)), (.v (.int .i64 0)), (.v (.int .i64 0))]),
 rq 4 9 (.move (.tm 27)),
 rn 5 (.store 3 true (.tm 10) (.tm 29))] 6 [2, 3, 6, 8, 9, 10, 23, 24, 25])
 (.seq (.seq (.region [rq 0 30 (.load 3 true (.tm 3)),
 rq 1 31 (.load 6 true (.tm 8)),
 rq 2 32 (.load 3 true (.tm 10)),
 rq 3 33 (.call n_impl_BusCfg_why [(.tm 30), (.tm 31), (.tm 32)]),
 rq 4 34 (.bin .neq (.tm 33) (ki 0))] 5 [2, 3, 6, 8, 9, 10, 23, 24, 25, 34])
 (.cond (.tm 34)
 (.seq (.region [rq 0 35 (.load 6 true (.tm 8)),
 rq 1 36 (.call n_impl_TlmState_copyOf [(.tm 35)]),
 rq 2 37 (.move (.tm 9)),
 rn 3 (.store 6 true (.tm 6) (.tm 36)),
 rq 4 7 (.move (.tm 37))] 5 [6, 7])
 .ret)
 .skip))
 (.region [rq 0 38 (.load 3 true (.tm 3)),
 rq 1 39 (.load 3 true (.tm 10)),
 rq 2 40 (.call n_impl_BusCfg_happen [(.tm 38), (.tm 8), (.tm 39)])] 3 [2, 3, 6, 8, 23, 24, 25]))))
 (.region [rq 0 41 (.bin .add (.tm 25) (ki 1)),
 rq 1 25 (.move (.tm 41))] 2 [2, 3, 6, 8, 23, 24, 25])))))))
 (.seq (.region [rq 0 42 (.load 6 true (.tm 8)),
 rq 1 43 (.call n_impl_TlmState_copyOf [(.tm 42)]),
 rq 2 44 (.move (.tm 2)),
 rq 3 45 (.len false (.tm 44)),
 rn 4 (.store 6 true (.tm 6) (.tm 43)),
 rq 5 7 (.move (.tm 45))] 6 [6, 7])
 .ret)))))
def ct_impl_TlmRun : List Cert := [⟨[], [2, 3, 4, 6]⟩, ⟨[], [2, 3, 4, 6, 19]⟩, ⟨[], [6, 7]⟩, ⟨[], [2, 3, 6, 8]⟩, ⟨[], [2, 3, 6, 8, 23, 24, 25]⟩, ⟨[], [2, 3, 6, 8, 23, 24, 25, 26]⟩, ⟨[], [2, 3, 6, 8, 9, 10, 23, 24, 25]⟩, ⟨[], [2, 3, 6, 8, 9, 10, 23, 24, 25, 34]⟩, ⟨[], [6, 7]⟩, ⟨[], [2, 3, 6, 8, 23, 24, 25]⟩, ⟨[], [2, 3, 6, 8, 23, 24, 25]⟩, ⟨[], [6, 7]⟩]
def rs_impl_TlmRun : List ResV := [.cell 6 6 true, .tm 7]
theorem ok_impl_TlmRun : compF Tryz.prog Tryz.f16 ct_impl_TlmRun = some (ac_impl_TlmRun, rs_impl_TlmRun) := by kernel_rfl
theorem en_impl_TlmRun : EnTy Tryz.prog n_impl_TlmRun Tryz.f16 ac_impl_TlmRun rs_impl_TlmRun :=
  EnTy.mk Tryz.func16 (by kernel_rfl) ok_impl_TlmRun

/- loop.example/crossyard/impl.TlmNew -/
def ac_impl_TlmNew : AC :=
 (.seq (.region [rq 0 0 (.alloc [(.osl 0 0 0 0 0), (.osl 0 0 0 0 0), (.osl 0 0 0 0 0), (.osl 0 0 0 0 0), (.osl 0 0 0 0 0), (.osl 0 0 0 0 0)])] 1 [0])
 (.seq (.region [rq 1 2 (.mkslice 1 [(.v (.int .i64 0))] (ki 3) (ki 3)),
 ⟨0, (some 1), .call n_impl_AtmNew [], none, [1], [], false⟩,
 rq 2 3 (.build [(.osl 0 0 0 0 0), (.osl 0 0 0 0 0), (.osl 0 0 0 0 0), (.osl 0 0 0 0 0), (.osl 0 0 0 0 0), (.osl 0 0 0 0 0)] [(0, 2, (.tm 1)), (2, 1, (.tm 2))]),
 rn 3 (.store 6 true (.tm 0) (.tm 3))] 4 [0])
 .ret))
def ct_impl_TlmNew : List Cert := [⟨[], [0]⟩, ⟨[cz 1, (0, [1], [], false), cz 2, cz 3], [0]⟩]
def rs_impl_TlmNew : List ResV := [.cell 0 6 true]
theorem ok_impl_TlmNew : compF Tryz.prog Tryz.f17 ct_impl_TlmNew = some (ac_impl_TlmNew, rs_impl_TlmNew) := by kernel_rfl
theorem en_impl_TlmNew : EnTy Tryz.prog n_impl_TlmNew Tryz.f17 ac_impl_TlmNew rs_impl_TlmNew :=
  EnTy.mk Tryz.func17 (by kernel_rfl) ok_impl_TlmNew

/- loop.example/crossyard/laws.crOk -/
def ac_laws_crOk : AC :=
 (.seq (.region [rq 0 0 (.move (.kv (.bool false)))] 1 [])
 (.seq (.region [rq 0 1 (.call n_impl_AdrOk [(ki 5), (ki 1), (.kv (.bool false))]),
 rq 1 0 (.move (.tm 1))] 2 [0])
 .ret))
def ct_laws_crOk : List Cert := [⟨[], []⟩, ⟨[], [0]⟩]
def rs_laws_crOk : List ResV := [.tm 0]
theorem ok_laws_crOk : compF Tryz.prog Tryz.f18 ct_laws_crOk = some (ac_laws_crOk, rs_laws_crOk) := by kernel_rfl
theorem en_laws_crOk : EnTy Tryz.prog n_laws_crOk Tryz.f18 ac_laws_crOk rs_laws_crOk :=
  EnTy.mk Tryz.func18 (by kernel_rfl) ok_laws_crOk

/- loop.example/crossyard/spec.l20Tlm -/
def ac_spec_l20Tlm : AC :=
 (.seq (.region [rq 0 4 (.alloc [(.osl 0 0 0 0 0), (.osl 0 0 0 0 0), (.osl 0 0 0 0 0)]),
 rq 1 5 (.alloc [(.osl 0 0 0 0 0), (.osl 0 0 0 0 0), (.osl 0 0 0 0 0), (.osl 0 0 0 0 0), (.osl 0 0 0 0 0), (.osl 0 0 0 0 0)]),
 rq 2 6 (.move (.kv (.slice none 0 0)))] 3 [0, 1, 4, 5])
 (.seq (.region [rq 0 14 (.move (.tm 0)),
 rq 1 15 (.call n_spec_l20Bus [(.tm 14), (ki 6)]),
 rq 2 7 (.alloc [(.osl 0 0 0 0 0), (.osl 0 0 0 0 0), (.osl 0 0 0 0 0)]),
 rn 3 (.store 3 true (.tm 7) (.tm 15))] 4 [0, 1, 4, 5, 7])
 (.seq (.region [rq 0 16 (.call n_spec_TlmNew []),
 rq 1 8 (.alloc [(.osl 0 0 0 0 0), (.osl 0 0 0 0 0), (.osl 0 0 0 0 0), (.osl 0 0 0 0 0), (.osl 0 0 0 0 0), (.osl 0 0 0 0 0)]),
 rn 2 (.store 6 true (.tm 8) (.tm 16))] 3 [0, 1, 4, 5, 7, 8])
 (.seq (.region [rq 0 17 (.bslice 3 0 [(.v (.int .i64 0)), (.v (.int .i64 0)), (.v (.int .i64 0))] []),
 rq 1 9 (.move (.tm 17))] 2 [0, 1, 4, 5, 7, 8, 9])
 (.seq (.seq (.region [rq 0 18 (.move (.tm 0)),
 rq 1 19 (.move (.tm 1)),
 rq 2 20 (.call n_spec_l20Rd_pick [(.tm 18), (.tm 19)]),
 rq 3 10 (.move (.tm 20))] 4 [0, 4, 5, 7, 8, 9, 10])
 (.block 0
 (.loop
 (.seq (.seq (.region [rq 0 21 (.move (.tm 10)),
 rq 1 22 (.bin .gtr (.tm 21) (ki 0))] 2 [0, 4, 5, 7, 8, 9, 10, 22])
 (.cond (.tm 22)
 .skip
 (.exit 0)))
 (.seq (.block 1
 (.seq (.region [rq 0 25 (.move (.tm 0)),
 rq 1 26 (.load 3 true (.tm 7)),
 rq 2 27 (.load 6 true (.tm 8)),
 rq 3 28 (.call n_spec_l20TlmEvent [(.tm 25), (.tm 26), (.tm 27)]),
 rq 4 11 (.alloc [(.v (.int .i64 0)), (.v (.int .i64 0)), (.v (.int .i64 0))]),
 rn 5 (.store 3 true (.tm 11) (.tm 28))] 6 [0, 4, 5, 7, 8, 9, 10, 11])
 (.seq (.region [rq 0 30 (.load 3 true (.tm 7)),
 rq 1 31 (.load 6 true (.tm 8)),
 rq 2 32 (.load 3 true (.tm 11)),
 rq 3 33 (.call n_spec_l5Step [(.tm 30), (.tm 31), (.tm 32)]),
 rq 4 29 (.move (.tm 33)),
 rq 5 34 (.ext (.tm 29) 0),
 rq 6 35 (.ext (.tm 29) 1),
 rq 7 12 (.alloc [(.osl 0 0 0 0 0), (.osl 0 0 0 0 0), (.osl 0 0 0 0 0), (.osl 0 0 0 0 0), (.osl 0 0 0 0 0), (.osl 0 0 0 0 0)]),
 rn 8 (.store 6 true (.tm 12) (.tm 34)),
 rq 9 13 (.move (.tm 35))] 10 [0, 4, 5, 7, 8, 9, 10, 11, 12, 13])
 (.seq (.region [rq 0 36 (.move (.tm 13))] 1 [0, 4, 5, 7, 8, 9, 10, 11, 12, 36])
 (.cond (.tm 36)
 (.seq (.region [rq 0 37 (.move (.tm 9)),
 rq 1 38 (.load 3 true (.tm 11)),
 rq 2 39 (.bslice 3 1 [(.v (.int .i64 0)), (.v (.int .i64 0)), (.v (.int .i64 0))] [(0, 3, (.tm 38))]),
 rq 3 40 (.append 3 (.tm 37) (.tm 39)),
 rq 4 9 (.move (.tm 40))] 5 [0, 4, 5, 7, 8, 9, 10, 12])
 (.region [rq 0 41 (.load 6 true (.tm 12)),
 rn 1 (.store 6 true (.tm 8) (.tm 41))] 2 [0, 4, 5, 7, 8, 9, 10]))
 .skip)))))
 (.region [rq 0 23 (.move (.tm 10)),
 rq 1 24 (.bin .sub (.tm 23) (ki 1)),
 rq 2 10 (.move (.tm 24))] 3 [0, 4, 5, 7, 8, 9, 10]))))))
 (.seq (.region [⟨0, (some 42), .load 3 true (.tm 7), none, [], [], true⟩,
 rq 1 43 (.load 6 true (.tm 8)),
 rq 3 45 (.move (.tm 9)),
 ⟨2, (some 44), .call n_spec_l5Copy [(.tm 43)], none, [], [0], false⟩,
 rn 4 (.store 3 true (.tm 4) (.tm 42)),
 rn 5 (.store 6 true (.tm 5) (.tm 44)),
 rq 6 6 (.move (.tm 45))] 7 [4, 5, 6])
 .ret))))))
def ct_spec_l20Tlm : List Cert := [⟨[], [0, 1, 4, 5]⟩, ⟨[], [0, 1, 4, 5, 7]⟩, ⟨[], [0, 1, 4, 5, 7, 8]⟩, ⟨[], [0, 1, 4, 5, 7, 8, 9]⟩, ⟨[], [0, 4, 5, 7, 8, 9, 10]⟩, ⟨[], [0, 4, 5, 7, 8, 9, 10, 22]⟩, ⟨[], [0, 4, 5, 7, 8, 9, 10, 11]⟩, ⟨[], [0, 4, 5, 7, 8, 9, 10, 11, 12, 13]⟩, ⟨[], [0, 4, 5, 7, 8, 9, 10, 11, 12, 36]⟩, ⟨[], [0, 4, 5, 7, 8, 9, 10, 12]⟩, ⟨[], [0, 4, 5, 7, 8, 9, 10]⟩, ⟨[], [0, 4, 5, 7, 8, 9, 10]⟩, ⟨[(0, [], [], true), cz 1, cz 3, (2, [], [0], false), cz 4, cz 5, cz 6], [4, 5, 6]⟩]
def rs_spec_l20Tlm : List ResV := [.cell 4 3 true, .cell 5 6 true, .tm 6]
theorem ok_spec_l20Tlm : compF Tryz.prog Tryz.f33 ct_spec_l20Tlm = some (ac_spec_l20Tlm, rs_spec_l20Tlm) := by kernel_rfl
theorem en_spec_l20Tlm : EnTy Tryz.prog n_spec_l20Tlm Tryz.f33 ac_spec_l20Tlm rs_spec_l20Tlm :=
  EnTy.mk Tryz.func33 (by kernel_rfl) ok_spec_l20Tlm

/- loop.example/crossyard/spec.l20Open -/
def ac_spec_l20Open : AC :=
 (.seq (.region [rq 0 2 (.move (.kv (.pointer none)))] 1 [0])
 (.seq (.seq (.region [rq 0 3 (.move (.tm 0)),
 rq 1 4 (.len false (.tm 3)),
 rq 2 5 (.bin .gtr (.tm 4) (ki 2000))] 3 [0, 5])
 (.cond (.tm 5)
 (.region [rq 0 6 (.move (.tm 0)),
 rq 1 7 (.slc 1 (.tm 6) none (some (ki 2000)) none),
 rq 2 0 (.move (.tm 7))] 3 [0])
 .skip))
 (.seq (.region [rq 0 8 (.move (.tm 0)),
 rq 1 9 (.build [(.osl 0 0 0 0 0), (.v (.int .i64 0))] [(0, 1, (.tm 8))]),
 rq 2 10 (.box true (.tm 9)),
 rq 3 2 (.move (.tm 10))] 4 [2])
 .ret)))
def ct_spec_l20Open : List Cert := [⟨[], [0]⟩, ⟨[], [0, 5]⟩, ⟨[], [0]⟩, ⟨[], [2]⟩]
def rs_spec_l20Open : List ResV := [.tm 2]
theorem ok_spec_l20Open : compF Tryz.prog Tryz.f34 ct_spec_l20Open = some (ac_spec_l20Open, rs_spec_l20Open) := by kernel_rfl
theorem en_spec_l20Open : EnTy Tryz.prog n_spec_l20Open Tryz.f34 ac_spec_l20Open rs_spec_l20Open :=
  EnTy.mk Tryz.func34 (by kernel_rfl) ok_spec_l20Open

/- loop.example/crossyard/impl.TlmOk -/
def ac_impl_TlmOk : AC :=
 (.seq (.region [rq 0 2 (.box true (.tm 0)),
 rq 1 3 (.box true (.tm 1)),
 rq 2 4 (.move (.kv (.bool false)))] 3 [2, 3])
 (.seq (.region [rq 0 5 (.load 3 true (.tm 2)),
 rq 1 6 (.call n_impl_BusOk [(.tm 5)]),
 rq 2 7 (.move (.tm 6)),
 ⟨3, (some 8), .load 3 true (.tm 2), (some (7, true)), [], [], false⟩,
 ⟨4, (some 9), .load 6 true (.tm 3), (some (7, true)), [], [], false⟩,
 ⟨5, (some 10), .call n_impl_BusCfg_tlmOk [(.tm 8), (.tm 9)], (some (7, true)), [], [], false⟩,
 rq 6 11 (.pick (.tm 7) (.tm 10) (.kv (.bool false))),
 rq 7 4 (.move (.tm 11))] 8 [4])
 .ret))
def ct_impl_TlmOk : List Cert := [⟨[], [2, 3]⟩, ⟨[], [4]⟩]
def rs_impl_TlmOk : List ResV := [.tm 4]
theorem ok_impl_TlmOk : compF Tryz.prog Tryz.f35 ct_impl_TlmOk = some (ac_impl_TlmOk, rs_impl_TlmOk) := by kernel_rfl
theorem en_impl_TlmOk : EnTy Tryz.prog n_impl_TlmOk Tryz.f35 ac_impl_TlmOk rs_impl_TlmOk :=
  EnTy.mk Tryz.func35 (by kernel_rfl) ok_impl_TlmOk

/- (loop.example/crossyard/impl.TlmState).copyOf -/
def ac_impl_TlmState_copyOf : AC :=
 (.seq (.region [rq 0 1 (.box true (.tm 0)),
 rq 1 2 (.alloc [(.osl 0 0 0 0 0), (.osl 0 0 0 0 0), (.osl 0 0 0 0 0), (.osl 0 0 0 0 0), (.osl 0 0 0 0 0), (.osl 0 0 0 0 0)])] 2 [1, 2])
 (.seq (.region [rq 0 3 (.fld 0 (.tm 1)),
 rq 1 4 (.load 2 true (.tm 3)),
 rq 3 6 (.fld 2 (.tm 1)),
 ⟨4, (some 7), .load 1 false (.tm 6), none, [], [], true⟩,
 rq 6 9 (.fld 3 (.tm 1)),
 ⟨7, (some 10), .load 1 false (.tm 9), none, [], [], true⟩,
 rq 9 12 (.fld 4 (.tm 1)),
 ⟨10, (some 13), .load 1 false (.tm 12), none, [], [], true⟩,
 rq 12 15 (.fld 5 (.tm 1)),
 ⟨13, (some 16), .load 1 false (.tm 15), none, [], [], true⟩,
 ⟨2, (some 5), .call n_impl_AtmState_copyOf [(.tm 4)], none, [], [4, 7, 10, 13], false⟩,
 ⟨5, (some 8), .call n_impl_clone_int [(.tm 7)], none, [], [7, 10, 13], false⟩,
 ⟨8, (some 11), .call n_impl_copyJobs [(.tm 10)], none, [], [10, 13], false⟩,
 ⟨11, (some 14), .call n_impl_copyJobs [(.tm 13)], none, [], [13], false⟩,
 rq 14 17 (.call n_impl_copyJobs [(.tm 16)]),
 rq 15 18 (.build [(.osl 0 0 0 0 0), (.osl 0 0 0 0 0), (.osl 0 0 0 0 0), (.osl 0 0 0 0 0), (.osl 0 0 0 0 0), (.osl 0 0 0 0 0)] [(0, 2, (.tm 5)), (2, 1, (.tm 8)), (3, 1, (.tm 11)), (4, 1, (.tm 14)), (5, 1, (.tm 17))]),
 rn 16 (.store 6 true (.tm 2) (.tm 18))] 17 [2])
 .ret))
def ct_impl_TlmState_copyOf : List Cert := [⟨[], [1, 2]⟩, ⟨[cz 0, cz 1, cz 3, (4, [], [], true), cz 6, (7, [], [], true), cz 9, (10, [], [], true), cz 12, (13, [], [], true), (2, [], [4, 7, 10, 13], false), (5, [], [7, 10, 13], false), (8, [], [10, 13], false), (11, [], [13], false), cz 14, cz 15, cz 16], [2]⟩]
def rs_impl_TlmState_copyOf : List ResV := [.cell 2 6 true]
theorem ok_impl_TlmState_copyOf : compF Tryz.prog Tryz.f36 ct_impl_TlmState_copyOf = some (ac_impl_TlmState_copyOf, rs_impl_TlmState_copyOf) := by kernel_rfl
theorem en_impl_TlmState_copyOf : EnTy Tryz.prog n_impl_TlmState_copyOf Tryz.f36 ac_impl_TlmState_copyOf rs_impl_TlmState_copyOf :=
  EnTy.mk Tryz.func36 (by kernel_rfl) ok_impl_TlmState_copyOf

/- (loop.example/crossyard/impl.BusCfg).why -/
def ac_impl_BusCfg_why : AC :=
 (.seq (.region [rq 0 3 (.box true (.tm 0)),
 rq 1 4 (.box true (.tm 1)),
 rq 2 5 (.box true (.tm 2)),
 rq 3 6 (.move (ki 0))] 4 [3, 4, 5])
 (.seq (.seq (.region [rq 0 7 (.load 3 true (.tm 3)),
 rq 1 8 (.fld 1 (.tm 5)),
 rq 2 9 (.load 1 false (.tm 8)),
 rq 3 10 (.fld 2 (.tm 5)),
 rq 4 11 (.load 1 false (.tm 10)),
 rq 5 12 (.call n_impl_BusCfg_asks [(.tm 7), (.tm 9), (.tm 11)]),
 rq 6 13 (.un .not (.tm 12)),
 rq 7 14 (.move (.tm 13)),
 ⟨8, (some 15), .fld 0 (.tm 5), (some (14, false)), [], [], false⟩,
 ⟨9, (some 16), .load 1 false (.tm 15), (some (14, false)), [], [], false⟩,
 ⟨10, (some 17), .call n_impl_in [(.tm 16), (ki 1), (ki 3)], (some (14, false)), [], [], false⟩,
 ⟨11, (some 18), .un .not (.tm 17), (some (14, false)), [], [], false⟩,
 rq 12 19 (.pick (.tm 14) (.kv (.bool true)) (.tm 18))] 13 [3, 4, 5, 19])
 (.cond (.tm 19)
 (.seq (.region [rq 0 6 (.move (ki 1))] 1 [6])
 .ret)
 .skip))
 (.seq (.seq (.region [rq 0 20 (.fld 0 (.tm 5)),
 rq 1 21 (.load 1 false (.tm 20))] 2 [3, 4, 5, 21])
 (.block 0
 (.seq (.region [rq 0 23 (.bin .eql (.tm 21) (ki 1)),
 rq 1 22 (.move (.tm 23))] 2 [3, 4, 5, 21, 22])
 (.cond (.tm 22)
 (.seq (.region [rq 0 24 (.fld 2 (.tm 5)),
 rq 1 25 (.load 1 false (.tm 24)),
 rq 2 26 (.fld 2 (.tm 4)),
 rq 3 27 (.load 1 false (.tm 26)),
 rq 4 28 (.fld 1 (.tm 5)),
 rq 5 29 (.load 1 false (.tm 28)),
 rq 6 30 (.idx 1 (.tm 27) (.tm 29)),
 rq 7 31 (.load 1 false (.tm 30)),
 rq 8 32 (.bin .neq (.tm 25) (.tm 31))] 9 [32])
 (.cond (.tm 32)
 (.seq (.region [rq 0 6 (.move (ki 2))] 1 [6])
 .ret)
 .skip))
 (.seq (.region [rq 0 34 (.bin .eql (.tm 21) (ki 2)),
 rq 1 33 (.move (.tm 34))] 2 [3, 4, 5, 21, 33])
 (.cond (.tm 33)
 (.block 1
 (.seq (.region [rq 0 36 (.fld 3 (.tm 4)),
 rq 1 37 (.load 1 false (.tm 36)),
 rq 2 38 (.fld 1 (.tm 5)),
 rq 3 39 (.load 1 false (.tm 38)),
 rq 4 40 (.fld 2 (.tm 5)),
 rq 5 41 (.load 1 false (.tm 40)),
 rq 6 42 (.call n_impl_jobAt [(.tm 37), (.tm 39), (.tm 41)]),
 rq 7 43 (.bin .lss (.tm 42) (ki 0)),
 rq 8 35 (.move (.tm 43))] 9 [3, 4, 5, 35])
 (.cond (.tm 35)
 (.seq (.region [rq 0 6 (.move (ki 3))] 1 [6])
 .ret)
 (.seq (.region [rq 0 45 (.load 3 true (.tm 3)),
 rq 1 46 (.fld 3 (.tm 4)),
 rq 2 47 (.load 1 false (.tm 46)),
 rq 3 48 (.load 3 true (.tm 5)),
 rq 4 49 (.call n_impl_BusCfg_ahead [(.tm 45), (.tm 47), (.tm 48)]),
 rq 5 44 (.move (.tm 49))] 6 [44])
 (.cond (.tm 44)
 (.seq (.region [rq 0 6 (.move (ki 4))] 1 [6])
 .ret)
 .skip)))))
 (.seq (.region [rq 0 51 (.bin .eql (.tm 21) (ki 3)),
 rq 1 50 (.move (.tm 51))] 2 [3, 4, 5, 50])
 (.cond (.tm 50)
 (.block 2
 (.seq (.region [rq 0 53 (.fld 4 (.tm 4)),
 rq 1 54 (.load 1 false (.tm 53)),
 rq 2 55 (.fld 1 (.tm 5)),
 rq 3 56 (.load 1 false (.tm 55)),
 rq 4 57 (.fld 2 (.tm 5)),
 rq 5 58 (.load 1 false (.tm 57)),
 rq 6 59 (.call n_impl_jobAt [(.tm 54), (.tm 56), (.tm 58)]),
 rq 7 60 (.bin .lss (.tm 59) (ki 0)),
 rq 8 52 (.move (.tm 60))] 9 [3, 4, 5, 52])
 (.cond (.tm 52)
 (.seq (.region [rq 0 6 (.move (ki 5))] 1 [6])
 .ret)
 (.seq (.region [rq 0 62 (.load 3 true (.tm 3)),
 rq 1 63 (.fld 3 (.tm 4)),
 rq 2 64 (.load 1 false (.tm 63)),
 rq 3 65 (.load 3 true (.tm 5)),
 rq 4 66 (.call n_impl_BusCfg_ahead [(.tm 62), (.tm 64), (.tm 65)]),
 rq 5 67 (.move (.tm 66)),
 ⟨6, (some 68), .load 3 true (.tm 3), (some (67, false)), [], [], false⟩,
 ⟨7, (some 69), .fld 4 (.tm 4), (some (67, false)), [], [], false⟩,
 ⟨8, (some 70), .load 1 false (.tm 69), (some (67, false)), [], [], false⟩,
 ⟨9, (some 71), .load 3 true (.tm 5), (some (67, false)), [], [], false⟩,
 ⟨10, (some 72), .call n_impl_BusCfg_ahead [(.tm 68), (.tm 70), (.tm 71)], (some (67, false)), [], [], false⟩,
 rq 11 73 (.pick (.tm 67) (.kv (.bool true)) (.tm 72)),
 rq 12 61 (.move (.tm 73))] 13 [61])
 (.cond (.tm 61)
 (.seq (.region [rq 0 6 (.move (ki 6))] 1 [6])
 .ret)
 .skip)))))
 .skip))))))))
 (.seq (.region [rq 0 6 (.move (ki 0))] 1 [6])
 .ret))))
def ct_impl_BusCfg_why : List Cert := [⟨[], [3, 4, 5]⟩, ⟨[], [3, 4, 5, 19]⟩, ⟨[], [6]⟩, ⟨[], [3, 4, 5, 21]⟩, ⟨[], [3, 4, 5, 21, 22]⟩, ⟨[cz 0, cz 1, cz 2, cz 3, cz 4, cz 5, cz 6, cz 7, cz 8], [32]⟩, ⟨[], [6]⟩, ⟨[], [3, 4, 5, 21, 33]⟩, ⟨[], [3, 4, 5, 35]⟩, ⟨[], [6]⟩, ⟨[], [44]⟩, ⟨[], [6]⟩, ⟨[], [3, 4, 5, 50]⟩, ⟨[], [3, 4, 5, 52]⟩, ⟨[], [6]⟩, ⟨[], [61]⟩, ⟨[], [6]⟩, ⟨[], [6]⟩]
def rs_impl_BusCfg_why : List ResV := [.tm 6]
theorem ok_impl_BusCfg_why : compF Tryz.prog Tryz.f37 ct_impl_BusCfg_why = some (ac_impl_BusCfg_why, rs_impl_BusCfg_why) := by kernel_rfl
theorem en_impl_BusCfg_why : EnTy Tryz.prog n_impl_BusCfg_why Tryz.f37 ac_impl_BusCfg_why rs_impl_BusCfg_why :=
  EnTy.mk Tryz.func37 (by kernel_rfl) ok_impl_BusCfg_why

/- (loop.example/crossyard/impl.BusCfg).happen -/
def ac_impl_BusCfg_happen : AC :=
 (.seq (.region [rq 0 3 (.box true (.tm 0)),
 rq 1 5 (.box true (.tm 2))] 2 [1, 3, 5])
 (.seq (.region [rq 0 8 (.fld 0 (.tm 5)),
 rq 1 9 (.load 1 false (.tm 8))] 2 [1, 3, 5, 9])
 (.block 0
 (.seq (.region [rq 0 11 (.bin .eql (.tm 9) (ki 1)),
 rq 1 10 (.move (.tm 11))] 2 [1, 3, 5, 9, 10])
 (.cond (.tm 10)
 (.seq (.region [rq 0 12 (.move (.tm 1)),
 rq 1 13 (.nilchk (.tm 12)),
 rq 2 14 (.fld 2 (.tm 13)),
 rq 3 15 (.load 1 false (.tm 14)),
 rq 4 16 (.fld 1 (.tm 5)),
 rq 5 17 (.load 1 false (.tm 16)),
 rq 6 18 (.idx 1 (.tm 15) (.tm 17)),
 rq 7 19 (.load 1 false (.tm 18)),
 rq 8 20 (.bin .add (.tm 19) (ki 1)),
 rq 9 21 (.idx 1 (.tm 15) (.tm 17)),
 rn 10 (.store 1 false (.tm 21) (.tm 20))] 11 [1, 5])
 (.region [rq 0 22 (.move (.tm 1)),
 rq 1 23 (.move (.tm 1)),
 rq 2 24 (.nilchk (.tm 23)),
 rq 3 25 (.fld 3 (.tm 24)),
 rq 4 26 (.load 1 false (.tm 25)),
 rq 5 27 (.fld 1 (.tm 5)),
 rq 6 28 (.load 1 false (.tm 27)),
 rq 7 29 (.fld 2 (.tm 5)),
 rq 8 30 (.load 1 false (.tm 29)),
 rq 9 31 (.build [(.v (.int .i64 0)), (.v (.int .i64 0)), (.v (.int .i64 0)), (.v (.int .i64 0)), (.osl 0 0 0 0 0)] [(0, 1, (.tm 28)), (1, 1, (.tm 30))]),
 rq 10 32 (.call n_impl_insert [(.tm 26), (.tm 31)]),
 rq 11 33 (.nilchk (.tm 22)),
 rq 12 34 (.fld 3 (.tm 33)),
 rn 13 (.store 1 false (.tm 34) (.tm 32))] 14 []))
 (.seq (.region [rq 0 36 (.bin .eql (.tm 9) (ki 2)),
 rq 1 35 (.move (.tm 36))] 2 [1, 3, 5, 9, 35])
 (.cond (.tm 35)
 (.seq (.region [rq 0 37 (.move (.tm 1)),
 rq 1 38 (.nilchk (.tm 37)),
 rq 2 39 (.fld 3 (.tm 38)),
 rq 3 40 (.load 1 false (.tm 39)),
 rq 4 41 (.fld 1 (.tm 5)),
 rq 5 42 (.load 1 false (.tm 41)),
 rq 6 43 (.fld 2 (.tm 5)),
 rq 7 44 (.load 1 false (.tm 43)),
 rq 8 45 (.call n_impl_jobAt [(.tm 40), (.tm 42), (.tm 44)]),
 rq 9 6 (.move (.tm 45))] 10 [1, 3, 5, 6])
 (.seq (.region [rq 0 46 (.move (.tm 1)),
 rq 1 47 (.move (.tm 1)),
 rq 2 48 (.nilchk (.tm 47)),
 rq 3 49 (.fld 3 (.tm 48)),
 rq 4 50 (.load 1 false (.tm 49)),
 rq 5 51 (.move (.tm 6)),
 rq 6 52 (.move (.tm 6)),
 rq 7 53 (.bin .add (.tm 52) (ki 1)),
 rq 8 54 (.call n_slices_Delete_ZTlmJob_TlmJob [(.tm 50), (.tm 51), (.tm 53)]),
 rq 9 55 (.nilchk (.tm 46)),
 rq 10 56 (.fld 3 (.tm 55)),
 rn 11 (.store 1 false (.tm 56) (.tm 54))] 12 [1, 3, 5])
 (.region [rq 0 57 (.move (.tm 1)),
 rq 1 58 (.move (.tm 1)),
 rq 2 59 (.nilchk (.tm 58)),
 rq 3 60 (.fld 4 (.tm 59)),
 ⟨4, (some 61), .load 1 false (.tm 60), none, [], [], true⟩,
 rq 5 62 (.fld 1 (.tm 5)),
 ⟨6, (some 63), .load 1 false (.tm 62), none, [], [], true⟩,
 rq 7 64 (.fld 2 (.tm 5)),
 ⟨8, (some 65), .load 1 false (.tm 64), none, [], [], true⟩,
 rq 9 66 (.move (.tm 1)),
 rq 10 67 (.nilchk (.tm 66)),
 rq 11 68 (.fld 0 (.tm 67)),
 rq 12 69 (.fld 0 (.tm 3)),
 rq 13 70 (.load 1 false (.tm 69)),
 rq 14 71 (.fld 1 (.tm 5)),
 rq 15 72 (.load 1 false (.tm 71)),
 rq 16 73 (.fld 2 (.tm 3)),
 rq 17 74 (.load 1 false (.tm 73)),
 rq 18 75 (.fld 1 (.tm 5)),
 rq 19 76 (.load 1 false (.tm 75)),
 rq 20 77 (.idx 1 (.tm 74) (.tm 76)),
 rq 21 78 (.load 1 false (.tm 77)),
 rq 22 79 (.fld 2 (.tm 5)),
 rq 23 80 (.load 1 false (.tm 79)),
 rq 24 81 (.idx 7 (.tm 78) (.tm 80)),
 rq 25 82 (.load 7 true (.tm 81)),
 ⟨26, (some 83), .call n_impl_AtmState_do [(.tm 68), (.tm 70), (.tm 72), (.tm 82)], none, [], [4, 6, 8], false⟩,
 rq 27 84 (.build [(.v (.int .i64 0)), (.v (.int .i64 0)), (.v (.int .i64 0)), (.v (.int .i64 0)), (.osl 0 0 0 0 0)] [(0, 1, (.tm 63)), (1, 1, (.tm 65)), (2, 3, (.tm 83))]),
 rq 28 85 (.call n_impl_insert [(.tm 61), (.tm 84)]),
 rq 29 86 (.nilchk (.tm 57)),
 rq 30 87 (.fld 4 (.tm 86)),
 rn 31 (.store 1 false (.tm 87) (.tm 85))] 32 [])))
 (.seq (.region [rq 0 89 (.bin .eql (.tm 9) (ki 3)),
 rq 1 88 (.move (.tm 89))] 2 [1, 5, 88])
 (.cond (.tm 88)
 (.seq (.region [rq 0 90 (.move (.tm 1)),
 rq 1 91 (.nilchk (.tm 90)),
 rq 2 92 (.fld 4 (.tm 91)),
 rq 3 93 (.load 1 false (.tm 92)),
 rq 4 94 (.fld 1 (.tm 5)),
 rq 5 95 (.load 1 false (.tm 94)),
 rq 6 96 (.fld 2 (.tm 5)),
 rq 7 97 (.load 1 false (.tm 96)),
 rq 8 98 (.call n_impl_jobAt [(.tm 93), (.tm 95), (.tm 97)]),
 rq 9 7 (.move (.tm 98))] 10 [1, 7])
 (.seq (.region [rq 0 99 (.move (.tm 1)),
 rq 1 100 (.move (.tm 1)),
 rq 2 101 (.nilchk (.tm 100)),
 rq 3 102 (.fld 5 (.tm 101)),
 ⟨4, (some 103), .load 1 false (.tm 102), none, [12], [], false⟩,
 rq 5 104 (.move (.tm 1)),
 rq 6 105 (.nilchk (.tm 104)),
 rq 7 106 (.fld 4 (.tm 105)),
 rq 8 107 (.load 1 false (.tm 106)),
 rq 9 108 (.move (.tm 7)),
 rq 10 109 (.idx 5 (.tm 107) (.tm 108)),
 rq 11 110 (.load 5 true (.tm 109)),
 rq 12 111 (.bslice 5 1 [(.v (.int .i64 0)), (.v (.int .i64 0)), (.v (.int .i64 0)), (.v (.int .i64 0)), (.osl 0 0 0 0 0)] [(0, 5, (.tm 110))]),
 rq 13 112 (.append 5 (.tm 103) (.tm 111)),
 rq 14 113 (.nilchk (.tm 99)),
 rq 15 114 (.fld 5 (.tm 113)),
 rn 16 (.store 1 false (.tm 114) (.tm 112))] 17 [1, 7])
 (.region [rq 0 115 (.move (.tm 1)),
 rq 1 116 (.move (.tm 1)),
 rq 2 117 (.nilchk (.tm 116)),
 rq 3 118 (.fld 4 (.tm 117)),
 rq 4 119 (.load 1 false (.tm 118)),
 rq 5 120 (.move (.tm 7)),
 rq 6 121 (.move (.tm 7)),
 rq 7 122 (.bin .add (.tm 121) (ki 1)),
 rq 8 123 (.call n_slices_Delete_ZTlmJob_TlmJob [(.tm 119), (.tm 120), (.tm 122)]),
 rq 9 124 (.nilchk (.tm 115)),
 rq 10 125 (.fld 4 (.tm 124)),
 rn 11 (.store 1 false (.tm 125) (.tm 123))] 12 [])))
 .skip)))))))))
def ct_impl_BusCfg_happen : List Cert := [⟨[], [1, 3, 5]⟩, ⟨[], [1, 3, 5, 9]⟩, ⟨[], [1, 3, 5, 9, 10]⟩, ⟨[cz 0, cz 1, cz 2, cz 3, cz 4, cz 5, cz 6, cz 7, cz 8, cz 9, cz 10], [1, 5]⟩, ⟨[cz 0, cz 1, cz 2, cz 3, cz 4, cz 5, cz 6, cz 7, cz 8, cz 9, cz 10, cz 11, cz 12, cz 13], []⟩, ⟨[], [1, 3, 5, 9, 35]⟩, ⟨[cz 0, cz 1, cz 2, cz 3, cz 4, cz 5, cz 6, cz 7, cz 8, cz 9], [1, 3, 5, 6]⟩, ⟨[], [1, 3, 5]⟩, ⟨[cz 0, cz 1, cz 2, cz 3, (4, [], [], true), cz 5, (6, [], [], true), cz 7, (8, [], [], true), cz 9, cz 10, cz 11, cz 12, cz 13, cz 14, cz 15, cz 16, cz 17, cz 18, cz 19, cz 20, cz 21, cz 22, cz 23, cz 24, cz 25, (26, [], [4, 6, 8], false), cz 27, cz 28, cz 29, cz 30, cz 31], []⟩, ⟨[], [1, 5, 88]⟩, ⟨[cz 0, cz 1, cz 2, cz 3, cz 4, cz 5, cz 6, cz 7, cz 8, cz 9], [1, 7]⟩, ⟨[cz 0, cz 1, cz 2, cz 3, (4, [12], [], false), cz 5, cz 6, cz 7, cz 8, cz 9, cz 10, cz 11, cz 12, cz 13, cz 14, cz 15, cz 16], [1, 7]⟩, ⟨[], []⟩]
def rs_impl_BusCfg_happen : List ResV := []
theorem ok_impl_BusCfg_happen : compF Tryz.prog Tryz.f38 ct_impl_BusCfg_happen = some (ac_impl_BusCfg_happen, rs_impl_BusCfg_happen) := by kernel_rfl
theorem en_impl_BusCfg_happen : EnTy Tryz.prog n_impl_BusCfg_happen Tryz.f38 ac_impl_BusCfg_happen rs_impl_BusCfg_happen :=
  EnTy.mk Tryz.func38 (by kernel_rfl) ok_impl_BusCfg_happen

/- loop.example/crossyard/impl.AtmNew -/
def ac_impl_AtmNew : AC :=
 (.seq (.region [rq 0 0 (.alloc [(.osl 0 0 0 0 0), (.osl 0 0 0 0 0)])] 1 [0])
 (.seq (.region [rq 0 1 (.call n_impl_MemNew []),
 rq 1 2 (.bslice 1 1 [(.v (.int .i64 0))] [(0, 1, (.kv (.int .i64 (-1))))]),
 rq 2 3 (.call n_slices_Repeat_Zint_int [(.tm 2), (ki 6)]),
 rq 3 4 (.build [(.osl 0 0 0 0 0), (.osl 0 0 0 0 0)] [(0, 1, (.tm 1)), (1, 1, (.tm 3))]),
 rn 4 (.store 2 true (.tm 0) (.tm 4))] 5 [0])
 .ret))
def ct_impl_AtmNew : List Cert := [⟨[], [0]⟩, ⟨[], [0]⟩]
def rs_impl_AtmNew : List ResV := [.cell 0 2 true]
theorem ok_impl_AtmNew : compF Tryz.prog Tryz.f39 ct_impl_AtmNew = some (ac_impl_AtmNew, rs_impl_AtmNew) := by kernel_rfl
theorem en_impl_AtmNew : EnTy Tryz.prog n_impl_AtmNew Tryz.f39 ac_impl_AtmNew rs_impl_AtmNew :=
  EnTy.mk Tryz.func39 (by kernel_rfl) ok_impl_AtmNew

/- loop.example/crossyard/impl.AdrOk -/
def ac_impl_AdrOk : AC :=
 (.seq (.region [rq 0 6 (.move (.kv (.bool false)))] 1 [0, 1, 2])
 (.seq (.region [rq 0 7 (.move (.tm 1)),
 rq 1 8 (.bin .eql (.tm 7) (ki 1)),
 rq 2 9 (.move (.tm 8)),
 ⟨3, (some 10), .move (.tm 1), (some (9, false)), [], [], false⟩,
 ⟨4, (some 11), .bin .eql (.tm 10) (ki 2), (some (9, false)), [], [], false⟩,
 rq 5 12 (.pick (.tm 9) (.kv (.bool true)) (.tm 11)),
 rq 6 13 (.move (.tm 12)),
 ⟨7, (some 14), .move (.tm 1), (some (13, false)), [], [], false⟩,
 ⟨8, (some 15), .bin .eql (.tm 14) (ki 4), (some (13, false)), [], [], false⟩,
 rq 9 16 (.pick (.tm 13) (.kv (.bool true)) (.tm 15)),
 rq 10 17 (.move (.tm 16)),
 ⟨11, (some 18), .move (.tm 0), (some (17, true)), [], [], false⟩,
 ⟨12, (some 19), .call n_impl_in [(.tm 18), (ki 0), (ki 63)], (some (17, true)), [], [], false⟩,
 rq 13 20 (.pick (.tm 17) (.tm 19) (.kv (.bool false))),
 rq 14 21 (.move (.tm 20)),
 ⟨15, (some 22), .move (.tm 2), (some (21, true)), [], [], false⟩,
 ⟨16, (some 23), .move (.tm 22), (some (21, true)), [], [], false⟩,
 ⟨17, (some 24), .move (.tm 0), (some (23, false)), [], [], false⟩,
 ⟨18, (some 25), .move (.tm 1), (some (23, false)), [], [], false⟩,
 ⟨19, (some 26), .bin .add (.tm 24) (.tm 25), (some (23, false)), [], [], false⟩,
 ⟨20, (some 27), .bin .sub (.tm 26) (ki 1), (some (23, false)), [], [], false⟩,
 ⟨21, (some 28), .bin .leq (.tm 27) (ki 63), (some (23, false)), [], [], false⟩,
 ⟨22, (some 29), .pick (.tm 23) (.kv (.bool true)) (.tm 28), (some (21, true)), [], [], false⟩,
 rq 23 30 (.pick (.tm 21) (.tm 29) (.kv (.bool false))),
 rq 24 6 (.move (.tm 30))] 25 [6])
 .ret))
def ct_impl_AdrOk : List Cert := [⟨[], [0, 1, 2]⟩, ⟨[], [6]⟩]
def rs_impl_AdrOk : List ResV := [.tm 6]
theorem ok_impl_AdrOk : compF Tryz.prog Tryz.f40 ct_impl_AdrOk = some (ac_impl_AdrOk, rs_impl_AdrOk) := by kernel_rfl
theorem en_impl_AdrOk : EnTy Tryz.prog n_impl_AdrOk Tryz.f40 ac_impl_AdrOk rs_impl_AdrOk :=
  EnTy.mk Tryz.func40 (by kernel_rfl) ok_impl_AdrOk

/- loop.example/crossyard/impl.BusOk -/
def ac_impl_BusOk : AC :=
 (.seq (.region [rq 0 1 (.box true (.tm 0)),
 rq 1 2 (.move (.kv (.bool false)))] 2 [1])
 (.seq (.region [rq 0 3 (.fld 0 (.tm 1)),
 rq 1 4 (.load 1 false (.tm 3)),
 rq 2 5 (.call n_impl_MapOk [(.tm 4)]),
 rq 3 6 (.move (.tm 5)),
 ⟨4, (some 7), .fld 1 (.tm 1), (some (6, true)), [], [], false⟩,
 ⟨5, (some 8), .load 1 false (.tm 7), (some (6, true)), [], [], false⟩,
 ⟨6, (some 9), .len false (.tm 8), (some (6, true)), [], [], false⟩,
 ⟨7, (some 10), .bin .eql (.tm 9) (ki 4), (some (6, true)), [], [], false⟩,
 rq 8 11 (.pick (.tm 6) (.tm 10) (.kv (.bool false))),
 rq 9 12 (.move (.tm 11)),
 ⟨10, (some 13), .fld 1 (.tm 1), (some (12, true)), [], [], false⟩,
 ⟨11, (some 14), .load 1 false (.tm 13), (some (12, true)), [], [], false⟩,
 ⟨12, (some 15), .call n_slices_ContainsFunc_Zint_int [(.tm 14), (.fn n_impl_BusOk_1)], (some (12, true)), [], [], false⟩,
 ⟨13, (some 16), .un .not (.tm 15), (some (12, true)), [], [], false⟩,
 rq 14 17 (.pick (.tm 12) (.tm 16) (.kv (.bool false))),
 rq 15 18 (.move (.tm 17)),
 ⟨16, (some 19), .fld 2 (.tm 1), (some (18, true)), [], [], false⟩,
 ⟨17, (some 20), .load 1 false (.tm 19), (some (18, true)), [], [], false⟩,
 ⟨18, (some 21), .len false (.tm 20), (some (18, true)), [], [], false⟩,
 ⟨19, (some 22), .bin .eql (.tm 21) (ki 3), (some (18, true)), [], [], false⟩,
 rq 20 23 (.pick (.tm 18) (.tm 22) (.kv (.bool false))),
 rq 21 24 (.move (.tm 23)),
 ⟨22, (some 25), .fld 2 (.tm 1), (some (24, true)), [], [], false⟩,
 ⟨23, (some 26), .load 1 false (.tm 25), (some (24, true)), [], [], false⟩,
 ⟨24, (some 27), .call n_slices_ContainsFunc_ZZReqReq_ZReqReq [(.tm 26), (.fn n_impl_BusOk_2)], (some (24, true)), [], [], false⟩,
 ⟨25, (some 28), .un .not (.tm 27), (some (24, true)), [], [], false⟩,
 rq 26 29 (.pick (.tm 24) (.tm 28) (.kv (.bool false))),
 rq 27 2 (.move (.tm 29))] 28 [2])
 .ret))
def ct_impl_BusOk : List Cert := [⟨[], [1]⟩, ⟨[], [2]⟩]
def rs_impl_BusOk : List ResV := [.tm 2]
theorem ok_impl_BusOk : compF Tryz.prog Tryz.f42 ct_impl_BusOk = some (ac_impl_BusOk, rs_impl_BusOk) := by kernel_rfl
theorem en_impl_BusOk : EnTy Tryz.prog n_impl_BusOk Tryz.f42 ac_impl_BusOk rs_impl_BusOk :=
  EnTy.mk Tryz.func42 (by kernel_rfl) ok_impl_BusOk

/- loop.example/crossyard/impl.copyJobs -/
def ac_impl_copyJobs : AC :=
 (.seq (.region [rq 0 2 (.move (.kv (.slice none 0 0)))] 1 [0])
 (.seq (.region [rq 0 6 (.move (.tm 0)),
 rq 1 7 (.call n_impl_clone_impl_TlmJob [(.tm 6)]),
 rq 2 3 (.move (.tm 7))] 3 [3])
 (.seq (.seq (.region [rq 0 8 (.move (.tm 3)),
 rq 1 9 (.len false (.tm 8)),
 rq 2 10 (.move (ki 0))] 3 [3, 8, 9, 10])
 (.block 0
 (.loop
 (.seq (.region [rq 0 11 (.bin .lss (.tm 10) (.tm 9))] 1 [3, 8, 9, 10, 11])
 (.seq (.cond (.tm 11)
 .skip
 (.exit 0))
 (.seq (.block 1
 (.seq (.region [rq 0 12 (.move (.tm 10)),
 rq 1 13 (.idx 5 (.tm 8) (.tm 10)),
 rq 2 14 (.load 5 true (.tm 13)),
 rq 3 5 (.alloc [(.v (.int .i64 0)), (.v (.int .i64 0)), (.v (.int .i64 0)), (.v (.int .i64 0)), (.osl 0 0 0 0 0)]),
 rq 4 4 (.move (.tm 12)),
 rn 5 (.store 5 true (.tm 5) (.tm 14))] 6 [3, 4, 5, 8, 9, 10])
 (.region [rq 0 15 (.move (.tm 3)),
 rq 1 16 (.move (.tm 4)),
 rq 2 17 (.fld 2 (.tm 5)),
 rq 3 18 (.fld 2 (.tm 17)),
 rq 4 19 (.load 1 false (.tm 18)),
 rq 5 20 (.call n_impl_clone_int [(.tm 19)]),
 rq 6 21 (.idx 5 (.tm 15) (.tm 16)),
 rq 7 22 (.fld 2 (.tm 21)),
 rq 8 23 (.fld 2 (.tm 22)),
 rn 9 (.store 1 false (.tm 23) (.tm 20))] 10 [3, 8, 9, 10])))
 (.region [rq 0 24 (.bin .add (.tm 10) (ki 1)),
 rq 1 10 (.move (.tm 24))] 2 [3, 8, 9, 10])))))))
 (.seq (.region [rq 0 25 (.move (.tm 3)),
 rq 1 2 (.move (.tm 25))] 2 [2])
 .ret))))
def ct_impl_copyJobs : List Cert := [⟨[], [0]⟩, ⟨[], [3]⟩, ⟨[], [3, 8, 9, 10]⟩, ⟨[], [3, 8, 9, 10, 11]⟩, ⟨[], [3, 4, 5, 8, 9, 10]⟩, ⟨[], [3, 8, 9, 10]⟩, ⟨[], [3, 8, 9, 10]⟩, ⟨[], [2]⟩]
def rs_impl_copyJobs : List ResV := [.tm 2]
theorem ok_impl_copyJobs : compF Tryz.prog Tryz.f43 ct_impl_copyJobs = some (ac_impl_copyJobs, rs_impl_copyJobs) := by kernel_rfl
theorem en_impl_copyJobs : EnTy Tryz.prog n_impl_copyJobs Tryz.f43 ac_impl_copyJobs rs_impl_copyJobs :=
  EnTy.mk Tryz.func43 (by kernel_rfl) ok_impl_copyJobs

/- (loop.example/crossyard/impl.BusCfg).asks -/
def ac_impl_BusCfg_asks : AC :=
 (.seq (.region [rq 0 3 (.box true (.tm 0)),
 rq 1 6 (.move (.kv (.bool false)))] 2 [1, 2, 3])
 (.seq (.region [rq 0 7 (.move (.tm 1)),
 rq 1 8 (.call n_impl_isMaster [(.tm 7)]),
 rq 2 9 (.move (.tm 8)),
 ⟨3, (some 10), .move (.tm 2), (some (9, true)), [], [], false⟩,
 ⟨4, (some 11), .fld 2 (.tm 3), (some (9, true)), [], [], false⟩,
 ⟨5, (some 12), .load 1 false (.tm 11), (some (9, true)), [], [], false⟩,
 ⟨6, (some 13), .move (.tm 1), (some (9, true)), [], [], false⟩,
 ⟨7, (some 14), .idx 1 (.tm 12) (.tm 13), (some (9, true)), [], [], false⟩,
 ⟨8, (some 15), .load 1 false (.tm 14), (some (9, true)), [], [], false⟩,
 ⟨9, (some 16), .len false (.tm 15), (some (9, true)), [], [], false⟩,
 ⟨10, (some 17), .bin .sub (.tm 16) (ki 1), (some (9, true)), [], [], false⟩,
 ⟨11, (some 18), .call n_impl_in [(.tm 10), (ki 0), (.tm 17)], (some (9, true)), [], [], false⟩,
 rq 12 19 (.pick (.tm 9) (.tm 18) (.kv (.bool false))),
 rq 13 6 (.move (.tm 19))] 14 [6])
 .ret))
def ct_impl_BusCfg_asks : List Cert := [⟨[], [1, 2, 3]⟩, ⟨[], [6]⟩]
def rs_impl_BusCfg_asks : List ResV := [.tm 6]
theorem ok_impl_BusCfg_asks : compF Tryz.prog Tryz.f48 ct_impl_BusCfg_asks = some (ac_impl_BusCfg_asks, rs_impl_BusCfg_asks) := by kernel_rfl
theorem en_impl_BusCfg_asks : EnTy Tryz.prog n_impl_BusCfg_asks Tryz.f48 ac_impl_BusCfg_asks rs_impl_BusCfg_asks :=
  EnTy.mk Tryz.func48 (by kernel_rfl) ok_impl_BusCfg_asks

/- (*loop.example/crossyard/impl.AtmState).do -/
def ac_impl_AtmState_do : AC :=
 (.seq (.region [rq 0 7 (.box true (.tm 3)),
 rq 1 8 (.alloc [(.v (.int .i64 0)), (.v (.int .i64 0)), (.osl 0 0 0 0 0)])] 2 [0, 1, 2, 7, 8])
 (.seq (.region [rq 0 19 (.move (.tm 1)),
 rq 1 20 (.load 7 true (.tm 7)),
 rq 2 21 (.call n_impl_whole [(.tm 19), (.tm 20)]),
 rq 3 9 (.move (.tm 21))] 4 [0, 1, 2, 7, 8, 9])
 (.seq (.region [rq 0 22 (.fld 0 (.tm 7)),
 rq 1 23 (.load 1 false (.tm 22)),
 rq 2 24 (.build [(.v (.int .i64 0)), (.v (.int .i64 0)), (.osl 0 0 0 0 0)] [(0, 1, (.tm 23)), (1, 1, (ki 1))]),
 rq 3 10 (.alloc [(.v (.int .i64 0)), (.v (.int .i64 0)), (.osl 0 0 0 0 0)]),
 rn 4 (.store 3 true (.tm 10) (.tm 24))] 5 [0, 1, 2, 7, 8, 9, 10])
 (.seq (.region [rq 0 25 (.move (.tm 0)),
 rq 1 26 (.nilchk (.tm 25)),
 rq 2 27 (.fld 1 (.tm 26)),
 rq 3 28 (.load 1 false (.tm 27)),
 rq 4 29 (.move (.tm 2)),
 rq 5 30 (.bin .mul (.tm 29) (ki 2)),
 rq 6 31 (.fld 0 (.tm 7)),
 rq 7 32 (.load 1 false (.tm 31)),
 rq 8 33 (.bin .add (.tm 30) (.tm 32)),
 rq 9 34 (.idx 1 (.tm 28) (.tm 33)),
 rq 10 11 (.move (.tm 34))] 11 [0, 1, 7, 8, 9, 10, 11])
 (.seq (.block 0
 (.seq (.region [rq 0 36 (.move (.tm 9)),
 rq 1 37 (.bin .lss (.tm 36) (ki 0)),
 rq 2 35 (.move (.tm 37))] 3 [0, 1, 7, 8, 9, 10, 11, 35])
 (.cond (.tm 35)
 (.seq (.region [rq 0 38 (.fld 1 (.tm 10)),
 rn 1 (.store 1 false (.tm 38) (ki 4))] 2 [8, 10])
 (.seq (.region [rq 0 39 (.load 3 true (.tm 10)),
 rn 1 (.store 3 true (.tm 8) (.tm 39))] 2 [8])
 .ret))
 (.seq (.region [rq 0 41 (.load 7 true (.tm 7)),
 rq 1 42 (.call n_impl_ReqReq_writes [(.tm 41)]),
 rq 2 43 (.move (.tm 42)),
 ⟨3, (some 44), .move (.tm 1), (some (43, true)), [], [], false⟩,
 ⟨4, (some 45), .move (.tm 9), (some (43, true)), [], [], false⟩,
 ⟨5, (some 46), .idx 4 (.tm 44) (.tm 45), (some (43, true)), [], [], false⟩,
 ⟨6, (some 47), .fld 3 (.tm 46), (some (43, true)), [], [], false⟩,
 ⟨7, (some 48), .load 1 false (.tm 47), (some (43, true)), [], [], false⟩,
 rq 8 49 (.pick (.tm 43) (.tm 48) (.kv (.bool false))),
 rq 9 40 (.move (.tm 49))] 10 [0, 7, 8, 10, 11, 40])
 (.cond (.tm 40)
 (.seq (.region [rq 0 50 (.fld 1 (.tm 10)),
 rn 1 (.store 1 false (.tm 50) (ki 3))] 2 [8, 10])
 (.seq (.region [rq 0 51 (.load 3 true (.tm 10)),
 rn 1 (.store 3 true (.tm 8) (.tm 51))] 2 [8])
 .ret))
 (.seq (.region [rq 0 53 (.fld 1 (.tm 7)),
 rq 1 54 (.load 1 false (.tm 53)),
 rq 2 55 (.bin .eql (.tm 54) (ki 4)),
 rq 3 56 (.move (.tm 55)),
 ⟨4, (some 57), .move (.tm 11), (some (56, true)), [], [], false⟩,
 ⟨5, (some 58), .nilchk (.tm 57), (some (56, true)), [], [], false⟩,
 ⟨6, (some 59), .load 1 false (.tm 58), (some (56, true)), [], [], false⟩,
 ⟨7, (some 60), .fld 2 (.tm 7), (some (56, true)), [], [], false⟩,
 ⟨8, (some 61), .load 1 false (.tm 60), (some (56, true)), [], [], false⟩,
 ⟨9, (some 62), .bin .neq (.tm 59) (.tm 61), (some (56, true)), [], [], false⟩,
 rq 10 63 (.pick (.tm 56) (.tm 62) (.kv (.bool false))),
 rq 11 52 (.move (.tm 63))] 12 [0, 7, 8, 10, 11, 52])
 (.cond (.tm 52)
 (.seq (.region [rq 0 64 (.load 3 true (.tm 10)),
 rn 1 (.store 3 true (.tm 8) (.tm 64))] 2 [8])
 .ret)
 .skip)))))))
 (.seq (.region [rq 0 65 (.load 7 true (.tm 7)),
 rq 1 66 (.call n_impl_ReqReq_burst [(.tm 65)]),
 rq 2 12 (.move (.tm 66))] 3 [0, 7, 8, 10, 11, 12])
 (.seq (.seq (.region [rq 0 67 (.load 7 true (.tm 7)),
 rq 1 68 (.call n_impl_ReqReq_writes [(.tm 67)]),
 rq 2 69 (.un .not (.tm 68))] 3 [0, 7, 8, 10, 11, 12, 69])
 (.cond (.tm 69)
 (.seq (.region [rq 0 70 (.move (.tm 12)),
 rq 1 71 (.len false (.tm 70)),
 rq 2 72 (.mkslice 1 [(.v (.int .i64 0))] (.tm 71) (.tm 71)),
 rq 3 73 (.fld 2 (.tm 10)),
 rn 4 (.store 1 false (.tm 73) (.tm 72))] 5 [0, 7, 8, 10, 11, 12])
 (.seq (.seq (.region [rq 0 74 (.move (.tm 12)),
 rq 1 75 (.len false (.tm 74)),
 rq 2 76 (.move (ki 0))] 3 [0, 7, 8, 10, 11, 74, 75, 76])
 (.block 1
 (.loop
 (.seq (.region [rq 0 77 (.bin .lss (.tm 76) (.tm 75))] 1 [0, 7, 8, 10, 11, 74, 75, 76, 77])
 (.seq (.cond (.tm 77)
 .skip
 (.exit 1))
 (.seq (.block 2
 (.seq (.region [rq 0 78 (.move (.tm 76)),
 rq 1 79 (.idx 1 (.tm 74) (.tm 76)),
 rq 2 80 (.load 1 false (.tm 79)),
 rq 3 13 (.move (.tm 78)),
 rq 4 14 (.move (.tm 80))] 5 [0, 7, 8, 10, 11, 13, 14, 74, 75, 76])
 (.region [rq 0 81 (.fld 2 (.tm 10)),
 rq 1 82 (.load 1 false (.tm 81)),
 rq 2 83 (.move (.tm 13)),
 rq 3 84 (.move (.tm 0)),
 rq 4 85 (.nilchk (.tm 84)),
 rq 5 86 (.fld 0 (.tm 85)),
 rq 6 87 (.fld 0 (.tm 86)),
 rq 7 88 (.load 1 false (.tm 87)),
 rq 8 89 (.move (.tm 14)),
 rq 9 90 (.idx 1 (.tm 88) (.tm 89)),
 rq 10 91 (.load 1 false (.tm 90)),
 rq 11 92 (.idx 1 (.tm 82) (.tm 83)),
 rn 12 (.store 1 false (.tm 92) (.tm 91))] 13 [0, 7, 8, 10, 11, 74, 75, 76])))
 (.region [rq 0 93 (.bin .add (.tm 76) (ki 1)),
 rq 1 76 (.move (.tm 93))] 2 [0, 7, 8, 10, 11, 74, 75, 76])))))))
 (.seq (.seq (.region [rq 0 94 (.fld 1 (.tm 7)),
 rq 1 95 (.load 1 false (.tm 94)),
 rq 2 96 (.bin .eql (.tm 95) (ki 3))] 3 [7, 8, 10, 11, 96])
 (.cond (.tm 96)
 (.seq (.region [rq 0 97 (.fld 1 (.tm 10)),
 rn 1 (.store 1 false (.tm 97) (ki 2))] 2 [7, 8, 10, 11])
 (.region [rq 0 98 (.move (.tm 11)),
 rq 1 99 (.fld 2 (.tm 7)),
 rq 2 100 (.load 1 false (.tm 99)),
 rq 3 101 (.nilchk (.tm 98)),
 rn 4 (.store 1 false (.tm 101) (.tm 100))] 5 [8, 10]))
 .skip))
 (.seq (.region [rq 0 102 (.load 3 true (.tm 10)),
 rn 1 (.store 3 true (.tm 8) (.tm 102))] 2 [8])
 .ret))))
 .skip))
 (.seq (.seq (.region [rq 0 103 (.fld 1 (.tm 7)),
 rq 1 104 (.load 1 false (.tm 103)),
 rq 2 105 (.bin .eql (.tm 104) (ki 4))] 3 [0, 7, 8, 10, 12, 105])
 (.cond (.tm 105)
 (.region [rq 0 106 (.fld 1 (.tm 10)),
 rn 1 (.store 1 false (.tm 106) (ki 2))] 2 [0, 7, 8, 10, 12])
 .skip))
 (.seq (.seq (.region [rq 0 107 (.move (.tm 12)),
 rq 1 108 (.len false (.tm 107)),
 rq 2 109 (.move (ki 0))] 3 [0, 7, 8, 10, 12, 107, 108, 109])
 (.block 3
 (.loop
 (.seq (.region [rq 0 110 (.bin .lss (.tm 109) (.tm 108))] 1 [0, 7, 8, 10, 12, 107, 108, 109, 110])
 (.seq (.cond (.tm 110)
 .skip
 (.exit 3))
 (.seq (.block 4
 (.seq (.region [rq 0 111 (.move (.tm 109)),
 rq 1 112 (.idx 1 (.tm 107) (.tm 109)),
 rq 2 113 (.load 1 false (.tm 112)),
 rq 3 15 (.move (.tm 111)),
 rq 4 16 (.move (.tm 113))] 5 [0, 7, 8, 10, 12, 15, 16, 107, 108, 109])
 (.region [rq 0 114 (.move (.tm 0)),
 rq 1 115 (.nilchk (.tm 114)),
 rq 2 116 (.fld 0 (.tm 115)),
 rq 3 117 (.fld 0 (.tm 116)),
 ⟨4, (some 118), .load 1 false (.tm 117), none, [], [], true⟩,
 rq 5 119 (.move (.tm 16)),
 rq 6 120 (.move (.tm 0)),
 rq 7 121 (.nilchk (.tm 120)),
 rq 8 122 (.fld 0 (.tm 121)),
 rq 9 123 (.fld 0 (.tm 122)),
 rq 10 124 (.load 1 false (.tm 123)),
 rq 11 125 (.move (.tm 16)),
 rq 12 126 (.idx 1 (.tm 124) (.tm 125)),
 rq 13 127 (.load 1 false (.tm 126)),
 rq 14 128 (.fld 5 (.tm 7)),
 rq 15 129 (.load 1 false (.tm 128)),
 rq 16 130 (.move (.tm 15)),
 rq 17 131 (.idx 1 (.tm 129) (.tm 130)),
 rq 18 132 (.load 1 false (.tm 131)),
 rq 19 133 (.fld 6 (.tm 7)),
 rq 20 134 (.load 1 false (.tm 133)),
 rq 21 135 (.move (.tm 15)),
 rq 22 136 (.idx 1 (.tm 134) (.tm 135)),
 rq 23 137 (.load 1 false (.tm 136)),
 ⟨24, (some 138), .call n_impl_put [(.tm 127), (.tm 132), (.tm 137)], none, [], [4], false⟩,
 rq 25 139 (.idx 1 (.tm 118) (.tm 119)),
 rn 26 (.store 1 false (.tm 139) (.tm 138))] 27 [0, 7, 8, 10, 12, 107, 108, 109])))
 (.region [rq 0 140 (.bin .add (.tm 109) (ki 1)),
 rq 1 109 (.move (.tm 140))] 2 [0, 7, 8, 10, 12, 107, 108, 109])))))))
 (.seq (.seq (.region [rq 0 141 (.move (.tm 0)),
 rq 1 142 (.nilchk (.tm 141)),
 rq 2 143 (.fld 1 (.tm 142)),
 rq 3 144 (.load 1 false (.tm 143)),
 rq 4 145 (.len false (.tm 144)),
 rq 5 146 (.move (ki 0))] 6 [0, 8, 10, 12, 144, 145, 146])
 (.block 5
 (.loop
 (.seq (.region [rq 0 147 (.bin .lss (.tm 146) (.tm 145))] 1 [0, 8, 10, 12, 144, 145, 146, 147])
 (.seq (.cond (.tm 147)
 .skip
 (.exit 5))
 (.seq (.block 6
 (.seq (.region [rq 0 148 (.move (.tm 146)),
 rq 1 149 (.idx 1 (.tm 144) (.tm 146)),
 rq 2 150 (.load 1 false (.tm 149)),
 rq 3 17 (.move (.tm 148)),
 rq 4 18 (.move (.tm 150))] 5 [0, 8, 10, 12, 17, 18, 144, 145, 146])
 (.seq (.region [rq 0 151 (.move (.tm 12)),
 rq 1 152 (.move (.tm 18)),
 rq 2 153 (.call n_slices_Contains_Zint_int [(.tm 151), (.tm 152)])] 3 [0, 8, 10, 12, 17, 144, 145, 146, 153])
 (.cond (.tm 153)
 (.region [rq 0 154 (.move (.tm 0)),
 rq 1 155 (.nilchk (.tm 154)),
 rq 2 156 (.fld 1 (.tm 155)),
 rq 3 157 (.load 1 false (.tm 156)),
 rq 4 158 (.move (.tm 17)),
 rq 5 159 (.idx 1 (.tm 157) (.tm 158)),
 rn 6 (.store 1 false (.tm 159) (.kv (.int .i64 (-1))))] 7 [0, 8, 10, 12, 144, 145, 146])
 .skip))))
 (.region [rq 0 160 (.bin .add (.tm 146) (ki 1)),
 rq 1 146 (.move (.tm 160))] 2 [0, 8, 10, 12, 144, 145, 146])))))))
 (.seq (.region [rq 0 161 (.load 3 true (.tm 10)),
 rn 1 (.store 3 true (.tm 8) (.tm 161))] 2 [8])
 .ret)))))))))))
def ct_impl_AtmState_do : List Cert := [⟨[], [0, 1, 2, 7, 8]⟩, ⟨[], [0, 1, 2, 7, 8, 9]⟩, ⟨[], [0, 1, 2, 7, 8, 9, 10]⟩, ⟨[cz 0, cz 1, cz 2, cz 3, cz 4, cz 5, cz 6, cz 7, cz 8, cz 9, cz 10], [0, 1, 7, 8, 9, 10, 11]⟩, ⟨[], [0, 1, 7, 8, 9, 10, 11, 35]⟩, ⟨[], [8, 10]⟩, ⟨[], [8]⟩, ⟨[], [0, 7, 8, 10, 11, 40]⟩, ⟨[], [8, 10]⟩, ⟨[], [8]⟩, ⟨[cz 0, cz 1, cz 2, cz 3, cz 4, cz 5, cz 6, cz 7, cz 8, cz 9, cz 10, cz 11], [0, 7, 8, 10, 11, 52]⟩, ⟨[], [8]⟩, ⟨[], [0, 7, 8, 10, 11, 12]⟩, ⟨[], [0, 7, 8, 10, 11, 12, 69]⟩, ⟨[], [0, 7, 8, 10, 11, 12]⟩, ⟨[], [0, 7, 8, 10, 11, 74, 75, 76]⟩, ⟨[], [0, 7, 8, 10, 11, 74, 75, 76, 77]⟩, ⟨[], [0, 7, 8, 10, 11, 13, 14, 74, 75, 76]⟩, ⟨[cz 0, cz 1, cz 2, cz 3, cz 4, cz 5, cz 6, cz 7, cz 8, cz 9, cz 10, cz 11, cz 12], [0, 7, 8, 10, 11, 74, 75, 76]⟩, ⟨[], [0, 7, 8, 10, 11, 74, 75, 76]⟩, ⟨[], [7, 8, 10, 11, 96]⟩, ⟨[], [7, 8, 10, 11]⟩, ⟨[], [8, 10]⟩, ⟨[], [8]⟩, ⟨[], [0, 7, 8, 10, 12, 105]⟩, ⟨[], [0, 7, 8, 10, 12]⟩, ⟨[], [0, 7, 8, 10, 12, 107, 108, 109]⟩, ⟨[], [0, 7, 8, 10, 12, 107, 108, 109, 110]⟩, ⟨[], [0, 7, 8, 10, 12, 15, 16, 107, 108, 109]⟩, ⟨[cz 0, cz 1, cz 2, cz 3, (4, [], [], true), cz 5, cz 6, cz 7, cz 8, cz 9, cz 10, cz 11, cz 12, cz 13, cz 14, cz 15, cz 16, cz 17, cz 18, cz 19, cz 20, cz 21, cz 22, cz 23, (24, [], [4], false), cz 25, cz 26], [0, 7, 8, 10, 12, 107, 108, 109]⟩, ⟨[], [0, 7, 8, 10, 12, 107, 108, 109]⟩, ⟨[], [0, 8, 10, 12, 144, 145, 146]⟩, ⟨[], [0, 8, 10, 12, 144, 145, 146, 147]⟩, ⟨[], [0, 8, 10, 12, 17, 18, 144, 145, 146]⟩, ⟨[], [0, 8, 10, 12, 17, 144, 145, 146, 153]⟩, ⟨[], [0, 8, 10, 12, 144, 145, 146]⟩, ⟨[], [0, 8, 10, 12, 144, 145, 146]⟩, ⟨[], [8]⟩]
def rs_impl_AtmState_do : List ResV := [.cell 8 3 true]
theorem ok_impl_AtmState_do : compF Tryz.prog Tryz.f49 ct_impl_AtmState_do = some (ac_impl_AtmState_do, rs_impl_AtmState_do) := by kernel_rfl
theorem en_impl_AtmState_do : EnTy Tryz.prog n_impl_AtmState_do Tryz.f49 ac_impl_AtmState_do rs_impl_AtmState_do :=
  EnTy.mk Tryz.func49 (by kernel_rfl) ok_impl_AtmState_do

/- slices.Clip[[]loop.example/crossyard/impl.TlmJob,loop.example/crossyard/impl.TlmJob] -/
def ac_slices_Clip_ZTlmJob_TlmJob : AC :=
 (.seq (.region [rq 0 2 (.move (.kv (.slice none 0 0)))] 1 [0])
 (.seq (.region [rq 0 3 (.move (.tm 0)),
 rq 1 4 (.move (.tm 0)),
 rq 2 5 (.len false (.tm 4)),
 rq 3 6 (.move (.tm 0)),
 rq 4 7 (.len false (.tm 6)),
 rq 5 8 (.slc 5 (.tm 3) none (some (.tm 5)) (some (.tm 7))),
 rq 6 2 (.move (.tm 8))] 7 [2])
 .ret))
def ct_slices_Clip_ZTlmJob_TlmJob : List Cert := [⟨[], [0]⟩, ⟨[], [2]⟩]
def rs_slices_Clip_ZTlmJob_TlmJob : List ResV := [.tm 2]
theorem ok_slices_Clip_ZTlmJob_TlmJob : compF Tryz.prog Tryz.f50 ct_slices_Clip_ZTlmJob_TlmJob = some (ac_slices_Clip_ZTlmJob_TlmJob, rs_slices_Clip_ZTlmJob_TlmJob) := by kernel_rfl
theorem en_slices_Clip_ZTlmJob_TlmJob : EnTy Tryz.prog n_slices_Clip_ZTlmJob_TlmJob Tryz.f50 ac_slices_Clip_ZTlmJob_TlmJob rs_slices_Clip_ZTlmJob_TlmJob :=
  EnTy.mk Tryz.func50 (by kernel_rfl) ok_slices_Clip_ZTlmJob_TlmJob

/- (*loop.example/crossyard/spec.l20Rd).pick -/
def ac_spec_l20Rd_pick : AC :=
 (.seq (.region [rq 0 4 (.move (ki 0))] 1 [0, 1])
 (.seq (.region [rq 0 7 (.move (.tm 0)),
 rq 1 8 (.move (.tm 0)),
 rq 2 9 (.nilchk (.tm 8)),
 rq 3 10 (.fld 1 (.tm 9)),
 rq 4 11 (.load 1 false (.tm 10)),
 rq 5 12 (.bin .add (.tm 11) (ki 1)),
 rq 6 13 (.nilchk (.tm 7)),
 rq 7 14 (.fld 1 (.tm 13)),
 rn 8 (.store 1 false (.tm 14) (.tm 12))] 9 [0, 1])
 (.seq (.seq (.region [rq 0 15 (.move (.tm 1)),
 rq 1 16 (.bin .lss (.tm 15) (ki 1)),
 rq 2 17 (.move (.tm 16)),
 ⟨3, (some 18), .move (.tm 0), (some (17, false)), [], [], false⟩,
 ⟨4, (some 19), .nilchk (.tm 18), (some (17, false)), [], [], false⟩,
 ⟨5, (some 20), .fld 0 (.tm 19), (some (17, false)), [], [], false⟩,
 ⟨6, (some 21), .load 1 false (.tm 20), (some (17, false)), [], [], false⟩,
 ⟨7, (some 22), .len false (.tm 21), (some (17, false)), [], [], false⟩,
 ⟨8, (some 23), .bin .eql (.tm 22) (ki 0), (some (17, false)), [], [], false⟩,
 rq 9 24 (.pick (.tm 17) (.kv (.bool true)) (.tm 23))] 10 [0, 1, 24])
 (.cond (.tm 24)
 (.seq (.region [rq 0 4 (.move (ki 0))] 1 [4])
 .ret)
 .skip))
 (.seq (.region [rq 0 25 (.move (.tm 0)),
 rq 1 26 (.nilchk (.tm 25)),
 rq 2 27 (.fld 1 (.tm 26)),
 rq 3 28 (.load 1 false (.tm 27)),
 rq 4 29 (.bin .sub (.tm 28) (ki 1)),
 rq 5 5 (.move (.tm 29))] 6 [0, 1, 5])
 (.seq (.seq (.region [rq 0 30 (.move (.tm 5)),
 rq 1 31 (.move (.tm 0)),
 rq 2 32 (.nilchk (.tm 31)),
 rq 3 33 (.fld 0 (.tm 32)),
 rq 4 34 (.load 1 false (.tm 33)),
 rq 5 35 (.len false (.tm 34)),
 rq 6 36 (.bin .lss (.tm 30) (.tm 35))] 7 [0, 1, 5, 36])
 (.cond (.tm 36)
 (.seq (.region [rq 0 37 (.move (.tm 0)),
 rq 1 38 (.nilchk (.tm 37)),
 rq 2 39 (.fld 0 (.tm 38)),
 rq 3 40 (.load 1 false (.tm 39)),
 rq 4 41 (.move (.tm 5)),
 rq 5 42 (.idx 1 (.tm 40) (.tm 41)),
 rq 6 43 (.load 1 false (.tm 42)),
 rq 7 44 (.conv .i64 (.tm 43)),
 rq 8 45 (.move (.tm 1)),
 rq 9 46 (.bin .rem (.tm 44) (.tm 45)),
 rq 10 4 (.move (.tm 46))] 11 [4])
 .ret)
 .skip))
 (.seq (.region [rq 0 47 (.move (.tm 0)),
 rq 1 48 (.nilchk (.tm 47)),
 rq 2 49 (.fld 0 (.tm 48)),
 rq 3 50 (.load 1 false (.tm 49)),
 rq 4 51 (.move (.tm 5)),
 rq 5 52 (.move (.tm 0)),
 rq 6 53 (.nilchk (.tm 52)),
 rq 7 54 (.fld 0 (.tm 53)),
 rq 8 55 (.load 1 false (.tm 54)),
 rq 9 56 (.len false (.tm 55)),
 rq 10 57 (.bin .rem (.tm 51) (.tm 56)),
 rq 11 58 (.idx 1 (.tm 50) (.tm 57)),
 rq 12 59 (.load 1 false (.tm 58)),
 rq 13 60 (.conv .i64 (.tm 59)),
 rq 14 61 (.bin .mul (.tm 60) (ki 131)),
 rq 15 62 (.move (.tm 0)),
 rq 16 63 (.nilchk (.tm 62)),
 rq 17 64 (.fld 0 (.tm 63)),
 rq 18 65 (.load 1 false (.tm 64)),
 rq 19 66 (.move (.tm 5)),
 rq 20 67 (.bin .mul (.tm 66) (ki 7)),
 rq 21 68 (.bin .add (.tm 67) (ki 3)),
 rq 22 69 (.move (.tm 0)),
 rq 23 70 (.nilchk (.tm 69)),
 rq 24 71 (.fld 0 (.tm 70)),
 rq 25 72 (.load 1 false (.tm 71)),
 rq 26 73 (.len false (.tm 72)),
 rq 27 74 (.bin .rem (.tm 68) (.tm 73)),
 rq 28 75 (.idx 1 (.tm 65) (.tm 74)),
 rq 29 76 (.load 1 false (.tm 75)),
 rq 30 77 (.conv .i64 (.tm 76)),
 rq 31 78 (.bin .mul (.tm 77) (ki 1117)),
 rq 32 79 (.bin .add (.tm 61) (.tm 78)),
 rq 33 80 (.move (.tm 5)),
 rq 34 81 (.bin .mul (.tm 80) (ki 29)),
 rq 35 82 (.bin .add (.tm 79) (.tm 81)),
 rq 36 83 (.move (.tm 5)),
 rq 37 84 (.move (.tm 0)),
 rq 38 85 (.nilchk (.tm 84)),
 rq 39 86 (.fld 0 (.tm 85)),
 rq 40 87 (.load 1 false (.tm 86)),
 rq 41 88 (.len false (.tm 87)),
 rq 42 89 (.bin .quo (.tm 83) (.tm 88)),
 rq 43 90 (.bin .mul (.tm 89) (ki 53)),
 rq 44 91 (.bin .add (.tm 82) (.tm 90)),
 rq 45 6 (.move (.tm 91))] 46 [1, 6])
 (.seq (.region [rq 0 92 (.move (.tm 6)),
 rq 1 93 (.move (.tm 6)),
 rq 2 94 (.bin .quo (.tm 93) (ki 64)),
 rq 3 95 (.bin .xor (.tm 92) (.tm 94)),
 rq 4 6 (.move (.tm 95))] 5 [1, 6])
 (.seq (.region [rq 0 96 (.move (.tm 6)),
 rq 1 97 (.move (.tm 1)),
 rq 2 98 (.bin .rem (.tm 96) (.tm 97)),
 rq 3 4 (.move (.tm 98))] 4 [4])
 .ret))))))))
def ct_spec_l20Rd_pick : List Cert := [⟨[], [0, 1]⟩, ⟨[], [0, 1]⟩, ⟨[], [0, 1, 24]⟩, ⟨[], [4]⟩, ⟨[], [0, 1, 5]⟩, ⟨[], [0, 1, 5, 36]⟩, ⟨[], [4]⟩, ⟨[cz 0, cz 1, cz 2, cz 3, cz 4, cz 5, cz 6, cz 7, cz 8, cz 9, cz 10, cz 11, cz 12, cz 13, cz 14, cz 15, cz 16, cz 17, cz 18, cz 19, cz 20, cz 21, cz 22, cz 23, cz 24, cz 25, cz 26, cz 27, cz 28, cz 29, cz 30, cz 31, cz 32, cz 33, cz 34, cz 35, cz 36, cz 37, cz 38, cz 39, cz 40, cz 41, cz 42, cz 43, cz 44, cz 45], [1, 6]⟩, ⟨[], [1, 6]⟩, ⟨[], [4]⟩]
def rs_spec_l20Rd_pick : List ResV := [.tm 4]
theorem ok_spec_l20Rd_pick : compF Tryz.prog Tryz.f51 ct_spec_l20Rd_pick = some (ac_spec_l20Rd_pick, rs_spec_l20Rd_pick) := by kernel_rfl
theorem en_spec_l20Rd_pick : EnTy Tryz.prog n_spec_l20Rd_pick Tryz.f51 ac_spec_l20Rd_pick rs_spec_l20Rd_pick :=
  EnTy.mk Tryz.func51 (by kernel_rfl) ok_spec_l20Rd_pick

/- slices.ContainsFunc[[]loop.example/crossyard/impl.TlmEvent,loop.example/crossyard/impl.TlmEvent] -/
def ac_slices_ContainsFunc_ZTlmEvent_TlmEvent : AC :=
 (.seq (.region [rq 0 4 (.move (.kv (.bool false)))] 1 [0, 1])
 (.seq (.region [rq 0 5 (.move (.tm 0)),
 rq 1 6 (.move (.tm 1)),
 rq 2 7 (.call n_slices_IndexFunc_ZTlmEvent_TlmEvent [(.tm 5), (.tm 6)]),
 rq 3 8 (.bin .geq (.tm 7) (ki 0)),
 rq 4 4 (.move (.tm 8))] 5 [4])
 .ret))
def ct_slices_ContainsFunc_ZTlmEvent_TlmEvent : List Cert := [⟨[], [0, 1]⟩, ⟨[], [4]⟩]
def rs_slices_ContainsFunc_ZTlmEvent_TlmEvent : List ResV := [.tm 4]
theorem ok_slices_ContainsFunc_ZTlmEvent_TlmEvent : compF Tryz.prog Tryz.f54 ct_slices_ContainsFunc_ZTlmEvent_TlmEvent = some (ac_slices_ContainsFunc_ZTlmEvent_TlmEvent, rs_slices_ContainsFunc_ZTlmEvent_TlmEvent) := by kernel_rfl
theorem en_slices_ContainsFunc_ZTlmEvent_TlmEvent : EnTy Tryz.prog n_slices_ContainsFunc_ZTlmEvent_TlmEvent Tryz.f54 ac_slices_ContainsFunc_ZTlmEvent_TlmEvent rs_slices_ContainsFunc_ZTlmEvent_TlmEvent :=
  EnTy.mk Tryz.func54 (by kernel_rfl) ok_slices_ContainsFunc_ZTlmEvent_TlmEvent

/- loop.example/crossyard/spec.l20Bus -/
def ac_spec_l20Bus : AC :=
 (.seq (.region [rq 0 4 (.alloc [(.osl 0 0 0 0 0), (.osl 0 0 0 0 0), (.osl 0 0 0 0 0)])] 1 [0, 1, 4])
 (.seq (.region [rq 0 11 (.move (.tm 0)),
 rq 1 12 (.call n_spec_l20Map [(.tm 11), (ki 99999)]),
 rq 2 13 (.build [(.osl 0 0 0 0 0), (.osl 0 0 0 0 0), (.osl 0 0 0 0 0)] [(0, 1, (.tm 12))]),
 rq 3 5 (.alloc [(.osl 0 0 0 0 0), (.osl 0 0 0 0 0), (.osl 0 0 0 0 0)]),
 rn 4 (.store 3 true (.tm 5) (.tm 13))] 5 [0, 1, 4, 5])
 (.seq (.seq (.region [rq 0 6 (.move (ki 0))] 1 [0, 1, 4, 5, 6])
 (.block 0
 (.loop
 (.seq (.seq (.region [rq 0 14 (.move (.tm 6)),
 rq 1 15 (.bin .leq (.tm 14) (ki 3))] 2 [0, 1, 4, 5, 6, 15])
 (.cond (.tm 15)
 .skip
 (.exit 0)))
 (.seq (.block 1
 (.region [rq 0 18 (.fld 1 (.tm 5)),
 ⟨1, (some 19), .load 1 false (.tm 18), none, [4], [], true⟩,
 rq 2 20 (.move (.tm 0)),
 ⟨3, (some 21), .call n_spec_l20Rd_pick [(.tm 20), (ki 4)], none, [], [1], false⟩,
 rq 4 22 (.bslice 1 1 [(.v (.int .i64 0))] [(0, 1, (.tm 21))]),
 rq 5 23 (.append 1 (.tm 19) (.tm 22)),
 rq 6 24 (.fld 1 (.tm 5)),
 rn 7 (.store 1 false (.tm 24) (.tm 23))] 8 [0, 1, 4, 5, 6]))
 (.region [rq 0 16 (.move (.tm 6)),
 rq 1 17 (.bin .add (.tm 16) (ki 1)),
 rq 2 6 (.move (.tm 17))] 3 [0, 1, 4, 5, 6]))))))
 (.seq (.seq (.region [rq 0 7 (.move (ki 0))] 1 [0, 1, 4, 5, 7])
 (.block 2
 (.loop
 (.seq (.seq (.region [rq 0 25 (.move (.tm 7)),
 rq 1 26 (.bin .lss (.tm 25) (ki 3))] 2 [0, 1, 4, 5, 7, 26])
 (.cond (.tm 26)
 .skip
 (.exit 2)))
 (.seq (.block 3
 (.seq (.region [rq 0 29 (.bslice 7 0 [(.v (.int .i64 0)), (.v (.int .i64 0)), (.v (.int .i64 0)), (.v (.int .i64 0)), (.v (.bool false)), (.osl 0 0 0 0 0), (.osl 0 0 0 0 0)] []),
 rq 1 8 (.move (.tm 29))] 2 [0, 1, 4, 5, 7, 8])
 (.seq (.seq (.region [rq 0 30 (.move (.tm 0)),
 rq 1 31 (.move (.tm 1)),
 rq 2 32 (.bin .add (.tm 31) (ki 1)),
 rq 3 33 (.call n_spec_l20Rd_pick [(.tm 30), (.tm 32)]),
 rq 4 9 (.move (.tm 33))] 5 [0, 1, 4, 5, 7, 8, 9])
 (.block 4
 (.loop
 (.seq (.seq (.region [rq 0 34 (.move (.tm 9)),
 rq 1 35 (.bin .gtr (.tm 34) (ki 0))] 2 [0, 1, 4, 5, 7, 8, 9, 35])
 (.cond (.tm 35)
 .skip
 (.exit 4)))
 (.seq (.block 5
 (.seq (.region [rq 0 38 (.move (.tm 0)),
 rq 1 39 (.call n_spec_l20Req [(.tm 38), (ki 99999)]),
 rq 2 10 (.alloc [(.v (.int .i64 0)), (.v (.int .i64 0)), (.v (.int .i64 0)), (.v (.int .i64 0)), (.v (.bool false)), (.osl 0 0 0 0 0), (.osl 0 0 0 0 0)]),
 rn 3 (.store 7 true (.tm 10) (.tm 39))] 4 [0, 1, 4, 5, 7, 8, 9, 10])
 (.seq (.seq (.region [rq 0 40 (.fld 1 (.tm 10)),
 rq 1 41 (.load 1 false (.tm 40)),
 rq 2 42 (.bin .eql (.tm 41) (ki 4)),
 rq 3 43 (.move (.tm 42)),
 ⟨4, (some 44), .move (.tm 8), (some (43, true)), [], [], false⟩,
 ⟨5, (some 45), .len false (.tm 44), (some (43, true)), [], [], false⟩,
 ⟨6, (some 46), .bin .gtr (.tm 45) (ki 0), (some (43, true)), [], [], false⟩,
 rq 7 47 (.pick (.tm 43) (.tm 46) (.kv (.bool false))),
 rq 8 48 (.move (.tm 47)),
 ⟨9, (some 49), .move (.tm 0), (some (48, true)), [], [], false⟩,
 ⟨10, (some 50), .call n_spec_l20Rd_pick [(.tm 49), (ki 2)], (some (48, true)), [], [], false⟩,
 ⟨11, (some 51), .bin .eql (.tm 50) (ki 0), (some (48, true)), [], [], false⟩,
 rq 12 52 (.pick (.tm 48) (.tm 51) (.kv (.bool false)))] 13 [0, 1, 4, 5, 7, 8, 9, 10, 52])
 (.cond (.tm 52)
 (.region [rq 0 53 (.move (.tm 8)),
 rq 1 54 (.fld 0 (.tm 10)),
 rq 2 55 (.load 1 false (.tm 54)),
 rq 3 56 (.fld 2 (.tm 10)),
 rq 4 57 (.load 1 false (.tm 56)),
 rq 5 58 (.build [(.v (.int .i64 0)), (.v (.int .i64 0)), (.v (.int .i64 0)), (.v (.int .i64 0)), (.v (.bool false)), (.osl 0 0 0 0 0), (.osl 0 0 0 0 0)] [(0, 1, (.tm 55)), (1, 1, (ki 3)), (2, 1, (.tm 57)), (3, 1, (ki 1))]),
 rq 6 59 (.bslice 7 1 [(.v (.int .i64 0)), (.v (.int .i64 0)), (.v (.int .i64 0)), (.v (.int .i64 0)), (.v (.bool false)), (.osl 0 0 0 0 0), (.osl 0 0 0 0 0)] [(0, 7, (.tm 58))]),
 rq 7 60 (.append 7 (.tm 53) (.tm 59)),
 rq 8 8 (.move (.tm 60))] 9 [0, 1, 4, 5, 7, 8, 9, 10])
 .skip))
 (.region [rq 0 61 (.move (.tm 8)),
 rq 1 62 (.load 7 true (.tm 10)),
 rq 2 63 (.bslice 7 1 [(.v (.int .i64 0)), (.v (.int .i64 0)), (.v (.int .i64 0)), (.v (.int .i64 0)), (.v (.bool false)), (.osl 0 0 0 0 0), (.osl 0 0 0 0 0)] [(0, 7, (.tm 62))]),
 rq 3 64 (.append 7 (.tm 61) (.tm 63)),
 rq 4 8 (.move (.tm 64))] 5 [0, 1, 4, 5, 7, 8, 9]))))
 (.region [rq 0 36 (.move (.tm 9)),
 rq 1 37 (.bin .sub (.tm 36) (ki 1)),
 rq 2 9 (.move (.tm 37))] 3 [0, 1, 4, 5, 7, 8, 9]))))))
 (.region [rq 0 65 (.fld 2 (.tm 5)),
 ⟨1, (some 66), .load 1 false (.tm 65), none, [7], [], false⟩,
 rq 2 67 (.move (.tm 8)),
 rq 3 68 (.move (.tm 8)),
 rq 4 69 (.len false (.tm 68)),
 rq 5 70 (.mmx true (.tm 69) (ki 12)),
 rq 6 71 (.slc 7 (.tm 67) none (some (.tm 70)) none),
 rq 7 72 (.bslice 1 1 [(.osl 0 0 0 0 0)] [(0, 1, (.tm 71))]),
 rq 8 73 (.append 1 (.tm 66) (.tm 72)),
 rq 9 74 (.fld 2 (.tm 5)),
 rn 10 (.store 1 false (.tm 74) (.tm 73))] 11 [0, 1, 4, 5, 7]))))
 (.region [rq 0 27 (.move (.tm 7)),
 rq 1 28 (.bin .add (.tm 27) (ki 1)),
 rq 2 7 (.move (.tm 28))] 3 [0, 1, 4, 5, 7]))))))
 (.seq (.region [rq 0 75 (.load 3 true (.tm 5)),
 rn 1 (.store 3 true (.tm 4) (.tm 75))] 2 [4])
 .ret)))))
def ct_spec_l20Bus : List Cert := [⟨[], [0, 1, 4]⟩, ⟨[], [0, 1, 4, 5]⟩, ⟨[], [0, 1, 4, 5, 6]⟩, ⟨[], [0, 1, 4, 5, 6, 15]⟩, ⟨[cz 0, (1, [4], [], true), cz 2, (3, [], [1], false), cz 4, cz 5, cz 6, cz 7], [0, 1, 4, 5, 6]⟩, ⟨[], [0, 1, 4, 5, 6]⟩, ⟨[], [0, 1, 4, 5, 7]⟩, ⟨[], [0, 1, 4, 5, 7, 26]⟩, ⟨[], [0, 1, 4, 5, 7, 8]⟩, ⟨[], [0, 1, 4, 5, 7, 8, 9]⟩, ⟨[], [0, 1, 4, 5, 7, 8, 9, 35]⟩, ⟨[], [0, 1, 4, 5, 7, 8, 9, 10]⟩, ⟨[], [0, 1, 4, 5, 7, 8, 9, 10, 52]⟩, ⟨[], [0, 1, 4, 5, 7, 8, 9, 10]⟩, ⟨[], [0, 1, 4, 5, 7, 8, 9]⟩, ⟨[], [0, 1, 4, 5, 7, 8, 9]⟩, ⟨[cz 0, (1, [7], [], false), cz 2, cz 3, cz 4, cz 5, cz 6, cz 7, cz 8, cz 9, cz 10], [0, 1, 4, 5, 7]⟩, ⟨[], [0, 1, 4, 5, 7]⟩, ⟨[], [4]⟩]
def rs_spec_l20Bus : List ResV := [.cell 4 3 true]
theorem ok_spec_l20Bus : compF Tryz.prog Tryz.f56 ct_spec_l20Bus = some (ac_spec_l20Bus, rs_spec_l20Bus) := by kernel_rfl
theorem en_spec_l20Bus : EnTy Tryz.prog n_spec_l20Bus Tryz.f56 ac_spec_l20Bus rs_spec_l20Bus :=
  EnTy.mk Tryz.func56 (by kernel_rfl) ok_spec_l20Bus

/- loop.example/crossyard/spec.TlmNew -/
def ac_spec_TlmNew : AC :=
 (.seq (.region [rq 0 0 (.alloc [(.osl 0 0 0 0 0), (.osl 0 0 0 0 0), (.osl 0 0 0 0 0), (.osl 0 0 0 0 0), (.osl 0 0 0 0 0), (.osl 0 0 0 0 0)])] 1 [0])
 (.seq (.region [rq 1 2 (.mkslice 1 [(.v (.int .i64 0))] (ki 3) (ki 3)),
 ⟨0, (some 1), .call n_spec_AtmNew [], none, [1], [], false⟩,
 rq 2 3 (.build [(.osl 0 0 0 0 0), (.osl 0 0 0 0 0), (.osl 0 0 0 0 0), (.osl 0 0 0 0 0), (.osl 0 0 0 0 0), (.osl 0 0 0 0 0)] [(0, 2, (.tm 1)), (2, 1, (.tm 2))]),
 rn 3 (.store 6 true (.tm 0) (.tm 3))] 4 [0])
 .ret))
def ct_spec_TlmNew : List Cert := [⟨[], [0]⟩, ⟨[cz 1, (0, [1], [], false), cz 2, cz 3], [0]⟩]
def rs_spec_TlmNew : List ResV := [.cell 0 6 true]
theorem ok_spec_TlmNew : compF Tryz.prog Tryz.f57 ct_spec_TlmNew = some (ac_spec_TlmNew, rs_spec_TlmNew) := by kernel_rfl
theorem en_spec_TlmNew : EnTy Tryz.prog n_spec_TlmNew Tryz.f57 ac_spec_TlmNew rs_spec_TlmNew :=
  EnTy.mk Tryz.func57 (by kernel_rfl) ok_spec_TlmNew

/- loop.example/crossyard/spec.l20TlmEvent -/
def ac_spec_l20TlmEvent : AC :=
 (.seq (.region [rq 0 4 (.box true (.tm 1)),
 rq 1 5 (.box true (.tm 2)),
 rq 2 6 (.alloc [(.v (.int .i64 0)), (.v (.int .i64 0)), (.v (.int .i64 0))])] 3 [0, 5, 6])
 (.seq (.region [rq 0 10 (.move (.tm 0)),
 rq 1 11 (.call n_spec_l20Rd_pick [(.tm 10), (ki 3)]),
 rq 2 7 (.move (.tm 11))] 3 [0, 5, 6, 7])
 (.seq (.seq (.region [rq 0 12 (.move (.tm 0)),
 rq 1 13 (.call n_spec_l20Rd_pick [(.tm 12), (ki 4)])] 2 [0, 5, 6, 7, 13])
 (.block 0
 (.seq (.region [rq 0 15 (.bin .eql (.tm 13) (ki 0)),
 rq 1 14 (.move (.tm 15))] 2 [0, 5, 6, 7, 13, 14])
 (.cond (.tm 14)
 (.seq (.region [rq 0 16 (.move (.tm 7)),
 rq 1 17 (.fld 2 (.tm 5)),
 rq 2 18 (.load 1 false (.tm 17)),
 rq 3 19 (.move (.tm 7)),
 rq 4 20 (.idx 1 (.tm 18) (.tm 19)),
 rq 5 21 (.load 1 false (.tm 20)),
 rq 6 22 (.build [(.v (.int .i64 0)), (.v (.int .i64 0)), (.v (.int .i64 0))] [(0, 1, (ki 1)), (1, 1, (.tm 16)), (2, 1, (.tm 21))]),
 rn 7 (.store 3 true (.tm 6) (.tm 22))] 8 [6])
 .ret)
 (.seq (.region [rq 0 24 (.bin .eql (.tm 13) (ki 1)),
 rq 1 23 (.move (.tm 24))] 2 [0, 5, 6, 13, 23])
 (.cond (.tm 23)
 (.seq (.region [rq 0 25 (.fld 3 (.tm 5)),
 rq 1 26 (.load 1 false (.tm 25)),
 rq 2 27 (.len false (.tm 26)),
 rq 3 28 (.bin .gtr (.tm 27) (ki 0))] 4 [0, 5, 6, 28])
 (.cond (.tm 28)
 (.seq (.region [rq 0 29 (.fld 3 (.tm 5)),
 ⟨1, (some 30), .load 1 false (.tm 29), none, [9], [], true⟩,
 rq 2 31 (.move (.tm 0)),
 rq 3 32 (.fld 3 (.tm 5)),
 ⟨4, (some 33), .load 1 false (.tm 32), none, [9], [], false⟩,
 rq 5 34 (.len false (.tm 33)),
 rq 9 8 (.alloc [(.v (.int .i64 0)), (.v (.int .i64 0)), (.v (.int .i64 0)), (.v (.int .i64 0)), (.osl 0 0 0 0 0)]),
 ⟨6, (some 35), .call n_spec_l20Rd_pick [(.tm 31), (.tm 34)], none, [9], [1], false⟩,
 rq 7 36 (.idx 5 (.tm 30) (.tm 35)),
 ⟨8, (some 37), .load 5 true (.tm 36), none, [9], [], false⟩,
 rn 10 (.store 5 true (.tm 8) (.tm 37))] 11 [6, 8])
 (.seq (.region [rq 0 38 (.fld 0 (.tm 8)),
 rq 1 39 (.load 1 false (.tm 38)),
 rq 2 40 (.fld 1 (.tm 8)),
 rq 3 41 (.load 1 false (.tm 40)),
 rq 4 42 (.build [(.v (.int .i64 0)), (.v (.int .i64 0)), (.v (.int .i64 0))] [(0, 1, (ki 2)), (1, 1, (.tm 39)), (2, 1, (.tm 41))]),
 rn 5 (.store 3 true (.tm 6) (.tm 42))] 6 [6])
 .ret))
 .skip))
 (.seq (.region [rq 0 44 (.bin .eql (.tm 13) (ki 2)),
 rq 1 43 (.move (.tm 44))] 2 [0, 5, 6, 43])
 (.cond (.tm 43)
 (.seq (.region [rq 0 45 (.fld 4 (.tm 5)),
 rq 1 46 (.load 1 false (.tm 45)),
 rq 2 47 (.len false (.tm 46)),
 rq 3 48 (.bin .gtr (.tm 47) (ki 0))] 4 [0, 5, 6, 48])
 (.cond (.tm 48)
 (.seq (.region [rq 0 49 (.fld 4 (.tm 5)),
 ⟨1, (some 50), .load 1 false (.tm 49), none, [9], [], true⟩,
 rq 2 51 (.move (.tm 0)),
 rq 3 52 (.fld 4 (.tm 5)),
 ⟨4, (some 53), .load 1 false (.tm 52), none, [9], [], false⟩,
 rq 5 54 (.len false (.tm 53)),
 rq 9 9 (.alloc [(.v (.int .i64 0)), (.v (.int .i64 0)), (.v (.int .i64 0)), (.v (.int .i64 0)), (.osl 0 0 0 0 0)]),
 ⟨6, (some 55), .call n_spec_l20Rd_pick [(.tm 51), (.tm 54)], none, [9], [1], false⟩,
 rq 7 56 (.idx 5 (.tm 50) (.tm 55)),
 ⟨8, (some 57), .load 5 true (.tm 56), none, [9], [], false⟩,
 rn 10 (.store 5 true (.tm 9) (.tm 57))] 11 [6, 9])
 (.seq (.region [rq 0 58 (.fld 0 (.tm 9)),
 rq 1 59 (.load 1 false (.tm 58)),
 rq 2 60 (.fld 1 (.tm 9)),
 rq 3 61 (.load 1 false (.tm 60)),
 rq 4 62 (.build [(.v (.int .i64 0)), (.v (.int .i64 0)), (.v (.int .i64 0))] [(0, 1, (ki 3)), (1, 1, (.tm 59)), (2, 1, (.tm 61))]),
 rn 5 (.store 3 true (.tm 6) (.tm 62))] 6 [6])
 .ret))
 .skip))
 .skip))))))))
 (.seq (.region [rq 0 63 (.move (.tm 0)),
 rq 1 64 (.call n_spec_l20Rd_pick [(.tm 63), (ki 5)]),
 rq 2 65 (.move (.tm 0)),
 rq 3 66 (.call n_spec_l20Rd_pick [(.tm 65), (ki 5)]),
 rq 4 67 (.bin .sub (.tm 66) (ki 1)),
 rq 5 68 (.move (.tm 0)),
 rq 6 69 (.call n_spec_l20Rd_pick [(.tm 68), (ki 5)]),
 rq 7 70 (.bin .sub (.tm 69) (ki 1)),
 rq 8 71 (.build [(.v (.int .i64 0)), (.v (.int .i64 0)), (.v (.int .i64 0))] [(0, 1, (.tm 64)), (1, 1, (.tm 67)), (2, 1, (.tm 70))]),
 rn 9 (.store 3 true (.tm 6) (.tm 71))] 10 [6])
 .ret))))
def ct_spec_l20TlmEvent : List Cert := [⟨[], [0, 5, 6]⟩, ⟨[], [0, 5, 6, 7]⟩, ⟨[], [0, 5, 6, 7, 13]⟩, ⟨[], [0, 5, 6, 7, 13, 14]⟩, ⟨[], [6]⟩, ⟨[], [0, 5, 6, 13, 23]⟩, ⟨[], [0, 5, 6, 28]⟩, ⟨[cz 0, (1, [9], [], true), cz 2, cz 3, (4, [9], [], false), cz 5, cz 9, (6, [9], [1], false), cz 7, (8, [9], [], false), cz 10], [6, 8]⟩, ⟨[], [6]⟩, ⟨[], [0, 5, 6, 43]⟩, ⟨[], [0, 5, 6, 48]⟩, ⟨[cz 0, (1, [9], [], true), cz 2, cz 3, (4, [9], [], false), cz 5, cz 9, (6, [9], [1], false), cz 7, (8, [9], [], false), cz 10], [6, 9]⟩, ⟨[], [6]⟩, ⟨[], [6]⟩]
def rs_spec_l20TlmEvent : List ResV := [.cell 6 3 true]
theorem ok_spec_l20TlmEvent : compF Tryz.prog Tryz.f58 ct_spec_l20TlmEvent = some (ac_spec_l20TlmEvent, rs_spec_l20TlmEvent) := by kernel_rfl
theorem en_spec_l20TlmEvent : EnTy Tryz.prog n_spec_l20TlmEvent Tryz.f58 ac_spec_l20TlmEvent rs_spec_l20TlmEvent :=
  EnTy.mk Tryz.func58 (by kernel_rfl) ok_spec_l20TlmEvent

end Go.Proofs.YtiimjokpcbapeaaGreat
