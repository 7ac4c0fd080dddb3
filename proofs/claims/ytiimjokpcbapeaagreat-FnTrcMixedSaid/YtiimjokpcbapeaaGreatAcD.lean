/- The code of the functions with types resolved, checked against the program. Printed by a program (gen.py). -/
import Derived.Test.YtiimjokpcbapeaaGreatAcN
namespace Go.Proofs.YtiimjokpcbapeaaGreat
open Go Go.AM
set_option maxRecDepth 100000

/- slices.ContainsFunc[[]loop.example/crossyard/impl.MapRange,loop.example/crossyard/impl.MapRange] -/
def ac_slices_ContainsFunc_ZMapRange_MapRange : AC :=
 (.seq (.region [rq 0 4 (.move (.kv (.bool false)))] 1 [0, 1])
 (.seq (.region [rq 0 5 (.move (.tm 0)),
 rq 1 6 (.move (.tm 1)),
 rq 2 7 (.call n_slices_IndexFunc_ZMapRange_MapRange [(.tm 5), (.tm 6)]),
 rq 3 8 (.bin .geq (.tm 7) (ki 0)),
 rq 4 4 (.move (.tm 8))] 5 [4])
 .ret))
def ct_slices_ContainsFunc_ZMapRange_MapRange : List Cert := [⟨[], [0, 1]⟩, ⟨[], [4]⟩]
def rs_slices_ContainsFunc_ZMapRange_MapRange : List ResV := [.tm 4]
theorem ok_slices_ContainsFunc_ZMapRange_MapRange : compF Tryz.prog Tryz.f116 ct_slices_ContainsFunc_ZMapRange_MapRange = some (ac_slices_ContainsFunc_ZMapRange_MapRange, rs_slices_ContainsFunc_ZMapRange_MapRange) := by kernel_rfl
theorem en_slices_ContainsFunc_ZMapRange_MapRange : EnTy Tryz.prog n_slices_ContainsFunc_ZMapRange_MapRange Tryz.f116 ac_slices_ContainsFunc_ZMapRange_MapRange rs_slices_ContainsFunc_ZMapRange_MapRange :=
  EnTy.mk Tryz.func116 (by kernel_rfl) ok_slices_ContainsFunc_ZMapRange_MapRange

/- loop.example/crossyard/impl.MapOk$1 -/
def ac_impl_MapOk_1 : AC :=
 (.seq (.region [rq 0 2 (.box true (.tm 0)),
 rq 1 3 (.move (.kv (.bool false)))] 2 [1, 2])
 (.seq (.region [rq 0 4 (.fld 0 (.tm 2)),
 rq 1 5 (.load 1 false (.tm 4)),
 rq 2 6 (.fld 1 (.tm 1)),
 rq 3 7 (.load 1 false (.tm 6)),
 rq 4 8 (.bin .leq (.tm 5) (.tm 7)),
 rq 5 9 (.move (.tm 8)),
 ⟨6, (some 10), .fld 0 (.tm 1), (some (9, true)), [], [], false⟩,
 ⟨7, (some 11), .load 1 false (.tm 10), (some (9, true)), [], [], false⟩,
 ⟨8, (some 12), .fld 1 (.tm 2), (some (9, true)), [], [], false⟩,
 ⟨9, (some 13), .load 1 false (.tm 12), (some (9, true)), [], [], false⟩,
 ⟨10, (some 14), .bin .leq (.tm 11) (.tm 13), (some (9, true)), [], [], false⟩,
 rq 11 15 (.pick (.tm 9) (.tm 14) (.kv (.bool false))),
 rq 12 3 (.move (.tm 15))] 13 [3])
 .ret))
def ct_impl_MapOk_1 : List Cert := [⟨[], [1, 2]⟩, ⟨[], [3]⟩]
def rs_impl_MapOk_1 : List ResV := [.tm 3]
theorem ok_impl_MapOk_1 : compF Tryz.prog Tryz.f117 ct_impl_MapOk_1 = some (ac_impl_MapOk_1, rs_impl_MapOk_1) := by kernel_rfl
theorem en_impl_MapOk_1 : EnTy Tryz.prog n_impl_MapOk_1 Tryz.f117 ac_impl_MapOk_1 rs_impl_MapOk_1 :=
  EnTy.mk Tryz.func117 (by kernel_rfl) ok_impl_MapOk_1

/- slices.IndexFunc[[]int,int] -/
def ac_slices_IndexFunc_Zint_int : AC :=
 (.seq (.region [rq 0 4 (.move (ki 0))] 1 [0, 1])
 (.seq (.seq (.region [rq 0 6 (.move (.tm 0)),
 rq 1 7 (.len false (.tm 6)),
 rq 2 8 (.move (ki 0))] 3 [0, 1, 7, 8])
 (.block 0
 (.loop
 (.seq (.region [rq 0 9 (.bin .lss (.tm 8) (.tm 7))] 1 [0, 1, 7, 8, 9])
 (.seq (.cond (.tm 9)
 .skip
 (.exit 0))
 (.seq (.block 1
 (.seq (.region [rq 0 10 (.move (.tm 8)),
 rq 1 5 (.move (.tm 10))] 2 [0, 1, 5, 7, 8])
 (.seq (.region [rq 0 11 (.move (.tm 1)),
 rq 1 12 (.move (.tm 0)),
 rq 2 13 (.move (.tm 5)),
 rq 3 14 (.idx 1 (.tm 12) (.tm 13)),
 rq 4 15 (.load 1 false (.tm 14)),
 rq 5 16 (.callv (.tm 11) [(.tm 15)])] 6 [0, 1, 5, 7, 8, 16])
 (.cond (.tm 16)
 (.seq (.region [rq 0 17 (.move (.tm 5)),
 rq 1 4 (.move (.tm 17))] 2 [4])
 .ret)
 .skip))))
 (.region [rq 0 18 (.bin .add (.tm 8) (ki 1)),
 rq 1 8 (.move (.tm 18))] 2 [0, 1, 7, 8])))))))
 (.seq (.region [rq 0 4 (.move (.kv (.int .i64 (-1))))] 1 [4])
 .ret)))
def ct_slices_IndexFunc_Zint_int : List Cert := [⟨[], [0, 1]⟩, ⟨[], [0, 1, 7, 8]⟩, ⟨[], [0, 1, 7, 8, 9]⟩, ⟨[], [0, 1, 5, 7, 8]⟩, ⟨[], [0, 1, 5, 7, 8, 16]⟩, ⟨[], [4]⟩, ⟨[], [0, 1, 7, 8]⟩, ⟨[], [4]⟩]
def rs_slices_IndexFunc_Zint_int : List ResV := [.tm 4]
theorem ok_slices_IndexFunc_Zint_int : compF Tryz.prog Tryz.f118 ct_slices_IndexFunc_Zint_int = some (ac_slices_IndexFunc_Zint_int, rs_slices_IndexFunc_Zint_int) := by kernel_rfl
theorem en_slices_IndexFunc_Zint_int : EnTy Tryz.prog n_slices_IndexFunc_Zint_int Tryz.f118 ac_slices_IndexFunc_Zint_int rs_slices_IndexFunc_Zint_int :=
  EnTy.mk Tryz.func118 (by kernel_rfl) ok_slices_IndexFunc_Zint_int

/- slices.IndexFunc[[][]loop.example/crossyard/impl.ReqReq,[]loop.example/crossyard/impl.ReqReq] -/
def ac_slices_IndexFunc_ZZReqReq_ZReqReq : AC :=
 (.seq (.region [rq 0 4 (.move (ki 0))] 1 [0, 1])
 (.seq (.seq (.region [rq 0 6 (.move (.tm 0)),
 rq 1 7 (.len false (.tm 6)),
 rq 2 8 (.move (ki 0))] 3 [0, 1, 7, 8])
 (.block 0
 (.loop
 (.seq (.region [rq 0 9 (.bin .lss (.tm 8) (.tm 7))] 1 [0, 1, 7, 8, 9])
 (.seq (.cond (.tm 9)
 .skip
 (.exit 0))
 (.seq (.block 1
 (.seq (.region [rq 0 10 (.move (.tm 8)),
 rq 1 5 (.move (.tm 10))] 2 [0, 1, 5, 7, 8])
 (.seq (.region [rq 0 11 (.move (.tm 1)),
 rq 1 12 (.move (.tm 0)),
 rq 2 13 (.move (.tm 5)),
 rq 3 14 (.idx 1 (.tm 12) (.tm 13)),
 rq 4 15 (.load 1 false (.tm 14)),
 rq 5 16 (.callv (.tm 11) [(.tm 15)])] 6 [0, 1, 5, 7, 8, 16])
 (.cond (.tm 16)
 (.seq (.region [rq 0 17 (.move (.tm 5)),
 rq 1 4 (.move (.tm 17))] 2 [4])
 .ret)
 .skip))))
 (.region [rq 0 18 (.bin .add (.tm 8) (ki 1)),
 rq 1 8 (.move (.tm 18))] 2 [0, 1, 7, 8])))))))
 (.seq (.region [rq 0 4 (.move (.kv (.int .i64 (-1))))] 1 [4])
 .ret)))
def ct_slices_IndexFunc_ZZReqReq_ZReqReq : List Cert := [⟨[], [0, 1]⟩, ⟨[], [0, 1, 7, 8]⟩, ⟨[], [0, 1, 7, 8, 9]⟩, ⟨[], [0, 1, 5, 7, 8]⟩, ⟨[], [0, 1, 5, 7, 8, 16]⟩, ⟨[], [4]⟩, ⟨[], [0, 1, 7, 8]⟩, ⟨[], [4]⟩]
def rs_slices_IndexFunc_ZZReqReq_ZReqReq : List ResV := [.tm 4]
theorem ok_slices_IndexFunc_ZZReqReq_ZReqReq : compF Tryz.prog Tryz.f119 ct_slices_IndexFunc_ZZReqReq_ZReqReq = some (ac_slices_IndexFunc_ZZReqReq_ZReqReq, rs_slices_IndexFunc_ZZReqReq_ZReqReq) := by kernel_rfl
theorem en_slices_IndexFunc_ZZReqReq_ZReqReq : EnTy Tryz.prog n_slices_IndexFunc_ZZReqReq_ZReqReq Tryz.f119 ac_slices_IndexFunc_ZZReqReq_ZReqReq rs_slices_IndexFunc_ZZReqReq_ZReqReq :=
  EnTy.mk Tryz.func119 (by kernel_rfl) ok_slices_IndexFunc_ZZReqReq_ZReqReq

/- slices.IndexFunc[[]loop.example/crossyard/impl.ReqReq,loop.example/crossyard/impl.ReqReq] -/
def ac_slices_IndexFunc_ZReqReq_ReqReq : AC :=
 (.seq (.region [rq 0 4 (.move (ki 0))] 1 [0, 1])
 (.seq (.seq (.region [rq 0 6 (.move (.tm 0)),
 rq 1 7 (.len false (.tm 6)),
 rq 2 8 (.move (ki 0))] 3 [0, 1, 7, 8])
 (.block 0
 (.loop
 (.seq (.region [rq 0 9 (.bin .lss (.tm 8) (.tm 7))] 1 [0, 1, 7, 8, 9])
 (.seq (.cond (.tm 9)
 .skip
 (.exit 0))
 (.seq (.block 1
 (.seq (.region [rq 0 10 (.move (.tm 8)),
 rq 1 5 (.move (.tm 10))] 2 [0, 1, 5, 7, 8])
 (.seq (.region [rq 0 11 (.move (.tm 1)),
 rq 1 12 (.move (.tm 0)),
 rq 2 13 (.move (.tm 5)),
 rq 3 14 (.idx 7 (.tm 12) (.tm 13)),
 rq 4 15 (.load 7 true (.tm 14)),
 rq 5 16 (.callv (.tm 11) [(.tm 15)])] 6 [0, 1, 5, 7, 8, 16])
 (.cond (.tm 16)
 (.seq (.region [rq 0 17 (.move (.tm 5)),
 rq 1 4 (.move (.tm 17))] 2 [4])
 .ret)
 .skip))))
 (.region [rq 0 18 (.bin .add (.tm 8) (ki 1)),
 rq 1 8 (.move (.tm 18))] 2 [0, 1, 7, 8])))))))
 (.seq (.region [rq 0 4 (.move (.kv (.int .i64 (-1))))] 1 [4])
 .ret)))
def ct_slices_IndexFunc_ZReqReq_ReqReq : List Cert := [⟨[], [0, 1]⟩, ⟨[], [0, 1, 7, 8]⟩, ⟨[], [0, 1, 7, 8, 9]⟩, ⟨[], [0, 1, 5, 7, 8]⟩, ⟨[], [0, 1, 5, 7, 8, 16]⟩, ⟨[], [4]⟩, ⟨[], [0, 1, 7, 8]⟩, ⟨[], [4]⟩]
def rs_slices_IndexFunc_ZReqReq_ReqReq : List ResV := [.tm 4]
theorem ok_slices_IndexFunc_ZReqReq_ReqReq : compF Tryz.prog Tryz.f120 ct_slices_IndexFunc_ZReqReq_ReqReq = some (ac_slices_IndexFunc_ZReqReq_ReqReq, rs_slices_IndexFunc_ZReqReq_ReqReq) := by kernel_rfl
theorem en_slices_IndexFunc_ZReqReq_ReqReq : EnTy Tryz.prog n_slices_IndexFunc_ZReqReq_ReqReq Tryz.f120 ac_slices_IndexFunc_ZReqReq_ReqReq rs_slices_IndexFunc_ZReqReq_ReqReq :=
  EnTy.mk Tryz.func120 (by kernel_rfl) ok_slices_IndexFunc_ZReqReq_ReqReq

/- loop.example/crossyard/impl.areWords -/
def ac_impl_areWords : AC :=
 (.seq (.region [rq 0 2 (.move (.kv (.bool false)))] 1 [0])
 (.seq (.region [rq 0 3 (.move (.tm 0)),
 rq 1 4 (.call n_slices_ContainsFunc_Zint_int [(.tm 3), (.fn n_impl_areWords_1)]),
 rq 2 5 (.un .not (.tm 4)),
 rq 3 2 (.move (.tm 5))] 4 [2])
 .ret))
def ct_impl_areWords : List Cert := [⟨[], [0]⟩, ⟨[], [2]⟩]
def rs_impl_areWords : List ResV := [.tm 2]
theorem ok_impl_areWords : compF Tryz.prog Tryz.f121 ct_impl_areWords = some (ac_impl_areWords, rs_impl_areWords) := by kernel_rfl
theorem en_impl_areWords : EnTy Tryz.prog n_impl_areWords Tryz.f121 ac_impl_areWords rs_impl_areWords :=
  EnTy.mk Tryz.func121 (by kernel_rfl) ok_impl_areWords

/- loop.example/crossyard/impl.ReqOk$1 -/
def ac_impl_ReqOk_1 : AC :=
 (.seq (.region [rq 0 2 (.move (.kv (.bool false)))] 1 [0])
 (.seq (.region [rq 0 3 (.move (.tm 0)),
 rq 1 4 (.call n_impl_in [(.tm 3), (ki 0), (ki 3)]),
 rq 2 5 (.un .not (.tm 4)),
 rq 3 2 (.move (.tm 5))] 4 [2])
 .ret))
def ct_impl_ReqOk_1 : List Cert := [⟨[], [0]⟩, ⟨[], [2]⟩]
def rs_impl_ReqOk_1 : List ResV := [.tm 2]
theorem ok_impl_ReqOk_1 : compF Tryz.prog Tryz.f122 ct_impl_ReqOk_1 = some (ac_impl_ReqOk_1, rs_impl_ReqOk_1) := by kernel_rfl
theorem en_impl_ReqOk_1 : EnTy Tryz.prog n_impl_ReqOk_1 Tryz.f122 ac_impl_ReqOk_1 rs_impl_ReqOk_1 :=
  EnTy.mk Tryz.func122 (by kernel_rfl) ok_impl_ReqOk_1

/- slices.Clone[[]loop.example/crossyard/impl.TlmJob,loop.example/crossyard/impl.TlmJob] -/
def ac_slices_Clone_ZTlmJob_TlmJob : AC :=
 (.seq (.region [rq 0 2 (.move (.kv (.slice none 0 0)))] 1 [0])
 (.seq (.seq (.region [rq 0 3 (.move (.tm 0)),
 rq 1 4 (.xop (.isnil false) [(.tm 3)])] 2 [0, 4])
 (.cond (.tm 4)
 (.seq (.region [rq 0 2 (.move (.kv (.slice none 0 0)))] 1 [2])
 .ret)
 .skip))
 (.seq (.region [rq 0 5 (.bslice 5 0 [(.v (.int .i64 0)), (.v (.int .i64 0)), (.v (.int .i64 0)), (.v (.int .i64 0)), (.osl 0 0 0 0 0)] []),
 rq 1 6 (.move (.tm 0)),
 rq 2 7 (.append 5 (.tm 5) (.tm 6)),
 rq 3 2 (.move (.tm 7))] 4 [2])
 .ret)))
def ct_slices_Clone_ZTlmJob_TlmJob : List Cert := [⟨[], [0]⟩, ⟨[], [0, 4]⟩, ⟨[], [2]⟩, ⟨[], [2]⟩]
def rs_slices_Clone_ZTlmJob_TlmJob : List ResV := [.tm 2]
theorem ok_slices_Clone_ZTlmJob_TlmJob : compF Tryz.prog Tryz.f123 ct_slices_Clone_ZTlmJob_TlmJob = some (ac_slices_Clone_ZTlmJob_TlmJob, rs_slices_Clone_ZTlmJob_TlmJob) := by kernel_rfl
theorem en_slices_Clone_ZTlmJob_TlmJob : EnTy Tryz.prog n_slices_Clone_ZTlmJob_TlmJob Tryz.f123 ac_slices_Clone_ZTlmJob_TlmJob rs_slices_Clone_ZTlmJob_TlmJob :=
  EnTy.mk Tryz.func123 (by kernel_rfl) ok_slices_Clone_ZTlmJob_TlmJob

/- loop.example/crossyard/impl.AdrBurst -/
def ac_impl_AdrBurst : AC :=
 (.seq (.region [rq 0 6 (.move (.kv (.slice none 0 0)))] 1 [0, 1, 2])
 (.seq (.seq (.region [rq 0 9 (.move (.tm 0)),
 rq 1 10 (.move (.tm 1)),
 rq 2 11 (.move (.tm 2)),
 rq 3 12 (.call n_impl_AdrOk [(.tm 9), (.tm 10), (.tm 11)]),
 rq 4 13 (.un .not (.tm 12))] 5 [0, 1, 2, 13])
 (.cond (.tm 13)
 (.seq (.region [rq 0 6 (.move (.kv (.slice none 0 0)))] 1 [6])
 .ret)
 .skip))
 (.seq (.region [rq 0 14 (.move (.tm 1)),
 rq 1 15 (.mkslice 1 [(.v (.int .i64 0))] (.tm 14) (.tm 14)),
 rq 2 7 (.move (.tm 15))] 3 [0, 1, 2, 7])
 (.seq (.seq (.region [rq 0 16 (.move (.tm 7)),
 rq 1 17 (.len false (.tm 16)),
 rq 2 18 (.move (ki 0))] 3 [0, 1, 2, 7, 17, 18])
 (.block 0
 (.loop
 (.seq (.region [rq 0 19 (.bin .lss (.tm 18) (.tm 17))] 1 [0, 1, 2, 7, 17, 18, 19])
 (.seq (.cond (.tm 19)
 .skip
 (.exit 0))
 (.seq (.block 1
 (.seq (.region [rq 0 20 (.move (.tm 18)),
 rq 1 8 (.move (.tm 20))] 2 [0, 1, 2, 7, 8, 17, 18])
 (.seq (.region [rq 0 21 (.move (.tm 7)),
 rq 1 22 (.move (.tm 8)),
 rq 2 23 (.move (.tm 0)),
 rq 3 24 (.move (.tm 8)),
 rq 4 25 (.bin .add (.tm 23) (.tm 24)),
 rq 5 26 (.idx 1 (.tm 21) (.tm 22)),
 rn 6 (.store 1 false (.tm 26) (.tm 25))] 7 [0, 1, 2, 7, 8, 17, 18])
 (.seq (.region [rq 0 27 (.move (.tm 2))] 1 [0, 1, 2, 7, 8, 17, 18, 27])
 (.cond (.tm 27)
 (.region [rq 0 28 (.move (.tm 7)),
 rq 1 29 (.move (.tm 8)),
 rq 2 30 (.move (.tm 0)),
 rq 3 31 (.move (.tm 0)),
 rq 4 32 (.move (.tm 1)),
 rq 5 33 (.bin .rem (.tm 31) (.tm 32)),
 rq 6 34 (.bin .sub (.tm 30) (.tm 33)),
 rq 7 35 (.move (.tm 0)),
 rq 8 36 (.move (.tm 8)),
 rq 9 37 (.bin .add (.tm 35) (.tm 36)),
 rq 10 38 (.move (.tm 1)),
 rq 11 39 (.bin .rem (.tm 37) (.tm 38)),
 rq 12 40 (.bin .add (.tm 34) (.tm 39)),
 rq 13 41 (.idx 1 (.tm 28) (.tm 29)),
 rn 14 (.store 1 false (.tm 41) (.tm 40))] 15 [0, 1, 2, 7, 17, 18])
 .skip)))))
 (.region [rq 0 42 (.bin .add (.tm 18) (ki 1)),
 rq 1 18 (.move (.tm 42))] 2 [0, 1, 2, 7, 17, 18])))))))
 (.seq (.region [rq 0 43 (.move (.tm 7)),
 rq 1 6 (.move (.tm 43))] 2 [6])
 .ret)))))
def ct_impl_AdrBurst : List Cert := [⟨[], [0, 1, 2]⟩, ⟨[], [0, 1, 2, 13]⟩, ⟨[], [6]⟩, ⟨[], [0, 1, 2, 7]⟩, ⟨[], [0, 1, 2, 7, 17, 18]⟩, ⟨[], [0, 1, 2, 7, 17, 18, 19]⟩, ⟨[], [0, 1, 2, 7, 8, 17, 18]⟩, ⟨[], [0, 1, 2, 7, 8, 17, 18]⟩, ⟨[], [0, 1, 2, 7, 8, 17, 18, 27]⟩, ⟨[cz 0, cz 1, cz 2, cz 3, cz 4, cz 5, cz 6, cz 7, cz 8, cz 9, cz 10, cz 11, cz 12, cz 13, cz 14], [0, 1, 2, 7, 17, 18]⟩, ⟨[], [0, 1, 2, 7, 17, 18]⟩, ⟨[], [6]⟩]
def rs_impl_AdrBurst : List ResV := [.tm 6]
theorem ok_impl_AdrBurst : compF Tryz.prog Tryz.f124 ct_impl_AdrBurst = some (ac_impl_AdrBurst, rs_impl_AdrBurst) := by kernel_rfl
theorem en_impl_AdrBurst : EnTy Tryz.prog n_impl_AdrBurst Tryz.f124 ac_impl_AdrBurst rs_impl_AdrBurst :=
  EnTy.mk Tryz.func124 (by kernel_rfl) ok_impl_AdrBurst

/- slices.Index[[]int,int] -/
def ac_slices_Index_Zint_int : AC :=
 (.seq (.region [rq 0 4 (.move (ki 0))] 1 [0, 1])
 (.seq (.seq (.region [rq 0 6 (.move (.tm 0)),
 rq 1 7 (.len false (.tm 6)),
 rq 2 8 (.move (ki 0))] 3 [0, 1, 7, 8])
 (.block 0
 (.loop
 (.seq (.region [rq 0 9 (.bin .lss (.tm 8) (.tm 7))] 1 [0, 1, 7, 8, 9])
 (.seq (.cond (.tm 9)
 .skip
 (.exit 0))
 (.seq (.block 1
 (.seq (.region [rq 0 10 (.move (.tm 8)),
 rq 1 5 (.move (.tm 10))] 2 [0, 1, 5, 7, 8])
 (.seq (.region [rq 0 11 (.move (.tm 1)),
 rq 1 12 (.move (.tm 0)),
 rq 2 13 (.move (.tm 5)),
 rq 3 14 (.idx 1 (.tm 12) (.tm 13)),
 rq 4 15 (.load 1 false (.tm 14)),
 rq 5 16 (.bin .eql (.tm 11) (.tm 15))] 6 [0, 1, 5, 7, 8, 16])
 (.cond (.tm 16)
 (.seq (.region [rq 0 17 (.move (.tm 5)),
 rq 1 4 (.move (.tm 17))] 2 [4])
 .ret)
 .skip))))
 (.region [rq 0 18 (.bin .add (.tm 8) (ki 1)),
 rq 1 8 (.move (.tm 18))] 2 [0, 1, 7, 8])))))))
 (.seq (.region [rq 0 4 (.move (.kv (.int .i64 (-1))))] 1 [4])
 .ret)))
def ct_slices_Index_Zint_int : List Cert := [⟨[], [0, 1]⟩, ⟨[], [0, 1, 7, 8]⟩, ⟨[], [0, 1, 7, 8, 9]⟩, ⟨[], [0, 1, 5, 7, 8]⟩, ⟨[], [0, 1, 5, 7, 8, 16]⟩, ⟨[], [4]⟩, ⟨[], [0, 1, 7, 8]⟩, ⟨[], [4]⟩]
def rs_slices_Index_Zint_int : List ResV := [.tm 4]
theorem ok_slices_Index_Zint_int : compF Tryz.prog Tryz.f125 ct_slices_Index_Zint_int = some (ac_slices_Index_Zint_int, rs_slices_Index_Zint_int) := by kernel_rfl
theorem en_slices_Index_Zint_int : EnTy Tryz.prog n_slices_Index_Zint_int Tryz.f125 ac_slices_Index_Zint_int rs_slices_Index_Zint_int :=
  EnTy.mk Tryz.func125 (by kernel_rfl) ok_slices_Index_Zint_int

/- loop.example/crossyard/impl.rangeOf -/
def ac_impl_rangeOf : AC :=
 (.seq (.region [rq 0 3 (.box false (.tm 1)),
 rq 1 4 (.move (ki 0))] 2 [0, 3])
 (.seq (.region [rq 0 5 (.move (.tm 0)),
 rq 1 6 (.xop (.mkclo n_impl_rangeOf_1) [(.tm 3)]),
 rq 2 7 (.call n_slices_IndexFunc_ZMapRange_MapRange [(.tm 5), (.tm 6)]),
 rq 3 4 (.move (.tm 7))] 4 [4])
 .ret))
def ct_impl_rangeOf : List Cert := [⟨[], [0, 3]⟩, ⟨[], [4]⟩]
def rs_impl_rangeOf : List ResV := [.tm 4]
theorem ok_impl_rangeOf : compF Tryz.prog Tryz.f126 ct_impl_rangeOf = some (ac_impl_rangeOf, rs_impl_rangeOf) := by kernel_rfl
theorem en_impl_rangeOf : EnTy Tryz.prog n_impl_rangeOf Tryz.f126 ac_impl_rangeOf rs_impl_rangeOf :=
  EnTy.mk Tryz.func126 (by kernel_rfl) ok_impl_rangeOf

/- loop.example/crossyard/spec.AdrBurst -/
def ac_spec_AdrBurst : AC :=
 (.seq (.region [rq 0 6 (.move (.kv (.slice none 0 0)))] 1 [0, 1, 2])
 (.seq (.region [rq 0 10 (.bslice 1 0 [(.v (.int .i64 0))] []),
 rq 1 7 (.move (.tm 10))] 2 [0, 1, 2, 7])
 (.seq (.seq (.region [rq 0 11 (.move (.tm 0)),
 rq 1 12 (.move (.tm 1)),
 rq 2 13 (.move (.tm 2)),
 rq 3 14 (.call n_spec_AdrOk [(.tm 11), (.tm 12), (.tm 13)]),
 rq 4 15 (.un .not (.tm 14))] 5 [0, 1, 2, 7, 15])
 (.cond (.tm 15)
 (.seq (.region [rq 0 16 (.move (.tm 7)),
 rq 1 6 (.move (.tm 16))] 2 [6])
 .ret)
 .skip))
 (.seq (.region [rq 0 17 (.move (.tm 0)),
 rq 1 18 (.move (.tm 0)),
 rq 2 19 (.move (.tm 1)),
 rq 3 20 (.bin .rem (.tm 18) (.tm 19)),
 rq 4 21 (.bin .sub (.tm 17) (.tm 20)),
 rq 5 8 (.move (.tm 21))] 6 [0, 1, 2, 7, 8])
 (.seq (.seq (.region [rq 0 9 (.move (ki 0))] 1 [0, 1, 2, 7, 8, 9])
 (.block 0
 (.loop
 (.seq (.seq (.region [rq 0 22 (.move (.tm 9)),
 rq 1 23 (.move (.tm 1)),
 rq 2 24 (.bin .lss (.tm 22) (.tm 23))] 3 [0, 1, 2, 7, 8, 9, 24])
 (.cond (.tm 24)
 .skip
 (.exit 0)))
 (.seq (.block 1
 (.seq (.region [rq 0 27 (.move (.tm 2))] 1 [0, 1, 2, 7, 8, 9, 27])
 (.cond (.tm 27)
 (.region [rq 0 28 (.move (.tm 7)),
 rq 1 29 (.move (.tm 8)),
 rq 2 30 (.move (.tm 0)),
 rq 3 31 (.move (.tm 8)),
 rq 4 32 (.bin .sub (.tm 30) (.tm 31)),
 rq 5 33 (.move (.tm 9)),
 rq 6 34 (.bin .add (.tm 32) (.tm 33)),
 rq 7 35 (.move (.tm 1)),
 rq 8 36 (.bin .rem (.tm 34) (.tm 35)),
 rq 9 37 (.bin .add (.tm 29) (.tm 36)),
 rq 10 38 (.bslice 1 1 [(.v (.int .i64 0))] [(0, 1, (.tm 37))]),
 rq 11 39 (.append 1 (.tm 28) (.tm 38)),
 rq 12 7 (.move (.tm 39))] 13 [0, 1, 2, 7, 8, 9])
 (.region [rq 0 40 (.move (.tm 7)),
 rq 1 41 (.move (.tm 0)),
 rq 2 42 (.move (.tm 9)),
 rq 3 43 (.bin .add (.tm 41) (.tm 42)),
 rq 4 44 (.bslice 1 1 [(.v (.int .i64 0))] [(0, 1, (.tm 43))]),
 rq 5 45 (.append 1 (.tm 40) (.tm 44)),
 rq 6 7 (.move (.tm 45))] 7 [0, 1, 2, 7, 8, 9]))))
 (.region [rq 0 25 (.move (.tm 9)),
 rq 1 26 (.bin .add (.tm 25) (ki 1)),
 rq 2 9 (.move (.tm 26))] 3 [0, 1, 2, 7, 8, 9]))))))
 (.seq (.region [rq 0 46 (.move (.tm 7)),
 rq 1 6 (.move (.tm 46))] 2 [6])
 .ret))))))
def ct_spec_AdrBurst : List Cert := [⟨[], [0, 1, 2]⟩, ⟨[], [0, 1, 2, 7]⟩, ⟨[], [0, 1, 2, 7, 15]⟩, ⟨[], [6]⟩, ⟨[], [0, 1, 2, 7, 8]⟩, ⟨[], [0, 1, 2, 7, 8, 9]⟩, ⟨[], [0, 1, 2, 7, 8, 9, 24]⟩, ⟨[], [0, 1, 2, 7, 8, 9, 27]⟩, ⟨[], [0, 1, 2, 7, 8, 9]⟩, ⟨[], [0, 1, 2, 7, 8, 9]⟩, ⟨[], [0, 1, 2, 7, 8, 9]⟩, ⟨[], [6]⟩]
def rs_spec_AdrBurst : List ResV := [.tm 6]
theorem ok_spec_AdrBurst : compF Tryz.prog Tryz.f127 ct_spec_AdrBurst = some (ac_spec_AdrBurst, rs_spec_AdrBurst) := by kernel_rfl
theorem en_spec_AdrBurst : EnTy Tryz.prog n_spec_AdrBurst Tryz.f127 ac_spec_AdrBurst rs_spec_AdrBurst :=
  EnTy.mk Tryz.func127 (by kernel_rfl) ok_spec_AdrBurst

/- (*loop.example/crossyard/spec.l20Rd).odd -/
def ac_spec_l20Rd_odd : AC :=
 (.seq (.region [rq 0 4 (.move (.kv (.bool false)))] 1 [0, 1])
 (.seq (.region [rq 0 5 (.move (.tm 1)),
 rq 1 6 (.bin .lss (.tm 5) (ki 9000)),
 rq 2 7 (.move (.tm 6)),
 ⟨3, (some 8), .move (.tm 0), (some (7, true)), [], [], false⟩,
 ⟨4, (some 9), .move (.tm 1), (some (7, true)), [], [], false⟩,
 ⟨5, (some 10), .call n_spec_l20Rd_pick [(.tm 8), (.tm 9)], (some (7, true)), [], [], false⟩,
 ⟨6, (some 11), .move (.tm 1), (some (7, true)), [], [], false⟩,
 ⟨7, (some 12), .bin .sub (.tm 11) (ki 1), (some (7, true)), [], [], false⟩,
 ⟨8, (some 13), .bin .eql (.tm 10) (.tm 12), (some (7, true)), [], [], false⟩,
 rq 9 14 (.pick (.tm 7) (.tm 13) (.kv (.bool false))),
 rq 10 4 (.move (.tm 14))] 11 [4])
 .ret))
def ct_spec_l20Rd_odd : List Cert := [⟨[], [0, 1]⟩, ⟨[], [4]⟩]
def rs_spec_l20Rd_odd : List ResV := [.tm 4]
theorem ok_spec_l20Rd_odd : compF Tryz.prog Tryz.f128 ct_spec_l20Rd_odd = some (ac_spec_l20Rd_odd, rs_spec_l20Rd_odd) := by kernel_rfl
theorem en_spec_l20Rd_odd : EnTy Tryz.prog n_spec_l20Rd_odd Tryz.f128 ac_spec_l20Rd_odd rs_spec_l20Rd_odd :=
  EnTy.mk Tryz.func128 (by kernel_rfl) ok_spec_l20Rd_odd

/- loop.example/crossyard/spec.l20Addr -/
def ac_spec_l20Addr : AC :=
 (.seq (.region [rq 0 2 (.move (ki 0))] 1 [0])
 (.seq (.region [rq 0 3 (.move (.tm 0)),
 rq 1 4 (.call n_spec_l20Rd_pick [(.tm 3), (ki 4)]),
 rq 2 5 (.move (.tm 0)),
 rq 3 6 (.call n_spec_l20Rd_pick [(.tm 5), (ki 4)]),
 rq 4 7 (.bin .add (ki 16) (.tm 6)),
 rq 5 8 (.move (.tm 0)),
 rq 6 9 (.call n_spec_l20Rd_pick [(.tm 8), (ki 4)]),
 rq 7 10 (.bin .add (ki 32) (.tm 9)),
 rq 8 11 (.move (.tm 0)),
 rq 9 12 (.call n_spec_l20Rd_pick [(.tm 11), (ki 64)]),
 rq 10 13 (.move (.tm 0)),
 rq 11 14 (.call n_spec_l20Rd_pick [(.tm 13), (ki 5)]),
 rq 12 15 (.bin .add (ki 13) (.tm 14)),
 rq 13 16 (.move (.tm 0)),
 rq 14 17 (.call n_spec_l20Rd_pick [(.tm 16), (ki 4)]),
 rq 15 18 (.bin .add (ki 60) (.tm 17)),
 rq 16 19 (.bslice 1 6 [(.v (.int .i64 0))] [(0, 1, (.tm 4)), (1, 1, (.tm 7)), (2, 1, (.tm 10)), (3, 1, (.tm 12)), (4, 1, (.tm 15)), (5, 1, (.tm 18))]),
 rq 17 20 (.bslice 1 8 [(.v (.int .i64 0))] [(0, 1, (ki 0)), (1, 1, (ki 0)), (2, 1, (ki 1)), (3, 1, (ki 1)), (4, 1, (ki 2)), (5, 1, (ki 3)), (6, 1, (ki 4)), (7, 1, (ki 5))]),
 rq 18 21 (.move (.tm 0)),
 rq 19 22 (.call n_spec_l20Rd_pick [(.tm 21), (ki 8)]),
 rq 20 23 (.idx 1 (.tm 20) (.tm 22)),
 rq 21 24 (.load 1 false (.tm 23)),
 rq 22 25 (.idx 1 (.tm 19) (.tm 24)),
 rq 23 26 (.load 1 false (.tm 25)),
 rq 24 2 (.move (.tm 26))] 25 [2])
 .ret))
def ct_spec_l20Addr : List Cert := [⟨[], [0]⟩, ⟨[], [2]⟩]
def rs_spec_l20Addr : List ResV := [.tm 2]
theorem ok_spec_l20Addr : compF Tryz.prog Tryz.f129 ct_spec_l20Addr = some (ac_spec_l20Addr, rs_spec_l20Addr) := by kernel_rfl
theorem en_spec_l20Addr : EnTy Tryz.prog n_spec_l20Addr Tryz.f129 ac_spec_l20Addr rs_spec_l20Addr :=
  EnTy.mk Tryz.func129 (by kernel_rfl) ok_spec_l20Addr

/- loop.example/crossyard/spec.MemNew -/
def ac_spec_MemNew : AC :=
 (.seq (.region [rq 0 0 (.alloc [(.osl 0 0 0 0 0)])] 1 [0])
 (.seq (.region [rq 0 1 (.mkslice 1 [(.v (.int .i64 0))] (ki 64) (ki 64)),
 rq 1 2 (.build [(.osl 0 0 0 0 0)] [(0, 1, (.tm 1))]),
 rn 2 (.store 1 true (.tm 0) (.tm 2))] 3 [0])
 .ret))
def ct_spec_MemNew : List Cert := [⟨[], [0]⟩, ⟨[], [0]⟩]
def rs_spec_MemNew : List ResV := [.cell 0 1 true]
theorem ok_spec_MemNew : compF Tryz.prog Tryz.f130 ct_spec_MemNew = some (ac_spec_MemNew, rs_spec_MemNew) := by kernel_rfl
theorem en_spec_MemNew : EnTy Tryz.prog n_spec_MemNew Tryz.f130 ac_spec_MemNew rs_spec_MemNew :=
  EnTy.mk Tryz.func130 (by kernel_rfl) ok_spec_MemNew

/- loop.example/crossyard/spec.l5Before -/
def ac_spec_l5Before : AC :=
 (.seq (.region [rq 0 2 (.box true (.tm 0)),
 rq 1 3 (.box true (.tm 1)),
 rq 2 4 (.move (.kv (.bool false)))] 3 [2, 3])
 (.seq (.region [rq 0 5 (.fld 0 (.tm 2)),
 rq 1 6 (.load 1 false (.tm 5)),
 rq 2 7 (.fld 0 (.tm 3)),
 rq 3 8 (.load 1 false (.tm 7)),
 rq 4 9 (.bin .lss (.tm 6) (.tm 8)),
 rq 5 10 (.move (.tm 9)),
 ⟨6, (some 11), .fld 0 (.tm 2), (some (10, false)), [], [], false⟩,
 ⟨7, (some 12), .load 1 false (.tm 11), (some (10, false)), [], [], false⟩,
 ⟨8, (some 13), .fld 0 (.tm 3), (some (10, false)), [], [], false⟩,
 ⟨9, (some 14), .load 1 false (.tm 13), (some (10, false)), [], [], false⟩,
 ⟨10, (some 15), .bin .eql (.tm 12) (.tm 14), (some (10, false)), [], [], false⟩,
 ⟨11, (some 16), .move (.tm 15), (some (10, false)), [], [], false⟩,
 ⟨12, (some 17), .fld 1 (.tm 2), (some (16, true)), [], [], false⟩,
 ⟨13, (some 18), .load 1 false (.tm 17), (some (16, true)), [], [], false⟩,
 ⟨14, (some 19), .fld 1 (.tm 3), (some (16, true)), [], [], false⟩,
 ⟨15, (some 20), .load 1 false (.tm 19), (some (16, true)), [], [], false⟩,
 ⟨16, (some 21), .bin .lss (.tm 18) (.tm 20), (some (16, true)), [], [], false⟩,
 ⟨17, (some 22), .pick (.tm 16) (.tm 21) (.kv (.bool false)), (some (10, false)), [], [], false⟩,
 rq 18 23 (.pick (.tm 10) (.kv (.bool true)) (.tm 22)),
 rq 19 4 (.move (.tm 23))] 20 [4])
 .ret))
def ct_spec_l5Before : List Cert := [⟨[], [2, 3]⟩, ⟨[], [4]⟩]
def rs_spec_l5Before : List ResV := [.tm 4]
theorem ok_spec_l5Before : compF Tryz.prog Tryz.f131 ct_spec_l5Before = some (ac_spec_l5Before, rs_spec_l5Before) := by kernel_rfl
theorem en_spec_l5Before : EnTy Tryz.prog n_spec_l5Before Tryz.f131 ac_spec_l5Before rs_spec_l5Before :=
  EnTy.mk Tryz.func131 (by kernel_rfl) ok_spec_l5Before

/- loop.example/crossyard/spec.l1Whole -/
def ac_spec_l1Whole : AC :=
 (.seq (.region [rq 0 4 (.move (ki 0))] 1 [0, 1])
 (.seq (.seq (.region [rq 0 7 (.move (.tm 1)),
 rq 1 8 (.len false (.tm 7)),
 rq 2 9 (.bin .eql (.tm 8) (ki 0))] 3 [0, 1, 9])
 (.cond (.tm 9)
 (.seq (.region [rq 0 4 (.move (.kv (.int .i64 (-1))))] 1 [4])
 .ret)
 .skip))
 (.seq (.region [rq 0 10 (.move (.tm 0)),
 rq 1 11 (.move (.tm 1)),
 rq 2 12 (.idx 1 (.tm 11) (ki 0)),
 rq 3 13 (.load 1 false (.tm 12)),
 rq 4 14 (.call n_spec_l1Find [(.tm 10), (.tm 13)]),
 rq 5 5 (.move (.tm 14))] 6 [0, 1, 5])
 (.seq (.seq (.region [rq 0 6 (.move (ki 1))] 1 [0, 1, 5, 6])
 (.block 0
 (.loop
 (.seq (.seq (.region [rq 0 15 (.move (.tm 6)),
 rq 1 16 (.move (.tm 1)),
 rq 2 17 (.len false (.tm 16)),
 rq 3 18 (.bin .lss (.tm 15) (.tm 17))] 4 [0, 1, 5, 6, 18])
 (.cond (.tm 18)
 .skip
 (.exit 0)))
 (.seq (.block 1
 (.seq (.region [rq 0 21 (.move (.tm 0)),
 rq 1 22 (.move (.tm 1)),
 rq 2 23 (.move (.tm 6)),
 rq 3 24 (.idx 1 (.tm 22) (.tm 23)),
 rq 4 25 (.load 1 false (.tm 24)),
 rq 5 26 (.call n_spec_l1Find [(.tm 21), (.tm 25)]),
 rq 6 27 (.move (.tm 5)),
 rq 7 28 (.bin .neq (.tm 26) (.tm 27))] 8 [0, 1, 5, 6, 28])
 (.cond (.tm 28)
 (.seq (.region [rq 0 4 (.move (.kv (.int .i64 (-1))))] 1 [4])
 .ret)
 .skip)))
 (.region [rq 0 19 (.move (.tm 6)),
 rq 1 20 (.bin .add (.tm 19) (ki 1)),
 rq 2 6 (.move (.tm 20))] 3 [0, 1, 5, 6]))))))
 (.seq (.region [rq 0 29 (.move (.tm 5)),
 rq 1 4 (.move (.tm 29))] 2 [4])
 .ret)))))
def ct_spec_l1Whole : List Cert := [⟨[], [0, 1]⟩, ⟨[], [0, 1, 9]⟩, ⟨[], [4]⟩, ⟨[], [0, 1, 5]⟩, ⟨[], [0, 1, 5, 6]⟩, ⟨[], [0, 1, 5, 6, 18]⟩, ⟨[], [0, 1, 5, 6, 28]⟩, ⟨[], [4]⟩, ⟨[], [0, 1, 5, 6]⟩, ⟨[], [4]⟩]
def rs_spec_l1Whole : List ResV := [.tm 4]
theorem ok_spec_l1Whole : compF Tryz.prog Tryz.f132 ct_spec_l1Whole = some (ac_spec_l1Whole, rs_spec_l1Whole) := by kernel_rfl
theorem en_spec_l1Whole : EnTy Tryz.prog n_spec_l1Whole Tryz.f132 ac_spec_l1Whole rs_spec_l1Whole :=
  EnTy.mk Tryz.func132 (by kernel_rfl) ok_spec_l1Whole

/- loop.example/crossyard/spec.l3Writes -/
def ac_spec_l3Writes : AC :=
 (.seq (.region [rq 0 1 (.box true (.tm 0)),
 rq 1 2 (.move (.kv (.bool false)))] 2 [1])
 (.seq (.region [rq 0 3 (.fld 1 (.tm 1)),
 rq 1 4 (.load 1 false (.tm 3)),
 rq 2 5 (.bin .eql (.tm 4) (ki 2)),
 rq 3 6 (.move (.tm 5)),
 ⟨4, (some 7), .fld 1 (.tm 1), (some (6, false)), [], [], false⟩,
 ⟨5, (some 8), .load 1 false (.tm 7), (some (6, false)), [], [], false⟩,
 ⟨6, (some 9), .bin .eql (.tm 8) (ki 4), (some (6, false)), [], [], false⟩,
 rq 7 10 (.pick (.tm 6) (.kv (.bool true)) (.tm 9)),
 rq 8 2 (.move (.tm 10))] 9 [2])
 .ret))
def ct_spec_l3Writes : List Cert := [⟨[], [1]⟩, ⟨[], [2]⟩]
def rs_spec_l3Writes : List ResV := [.tm 2]
theorem ok_spec_l3Writes : compF Tryz.prog Tryz.f133 ct_spec_l3Writes = some (ac_spec_l3Writes, rs_spec_l3Writes) := by kernel_rfl
theorem en_spec_l3Writes : EnTy Tryz.prog n_spec_l3Writes Tryz.f133 ac_spec_l3Writes rs_spec_l3Writes :=
  EnTy.mk Tryz.func133 (by kernel_rfl) ok_spec_l3Writes

/- loop.example/crossyard/spec.l2Get -/
def ac_spec_l2Get : AC :=
 (.seq (.region [rq 0 2 (.box true (.tm 0)),
 rq 1 4 (.move (.kv (.slice none 0 0)))] 2 [1, 2])
 (.seq (.region [rq 0 7 (.bslice 1 0 [(.v (.int .i64 0))] []),
 rq 1 5 (.move (.tm 7))] 2 [1, 2, 5])
 (.seq (.seq (.region [rq 0 6 (.move (ki 0))] 1 [1, 2, 5, 6])
 (.block 0
 (.loop
 (.seq (.seq (.region [rq 0 8 (.move (.tm 6)),
 rq 1 9 (.move (.tm 1)),
 rq 2 10 (.len false (.tm 9)),
 rq 3 11 (.bin .lss (.tm 8) (.tm 10))] 4 [1, 2, 5, 6, 11])
 (.cond (.tm 11)
 .skip
 (.exit 0)))
 (.seq (.block 1
 (.region [rq 0 14 (.move (.tm 5)),
 rq 1 15 (.fld 0 (.tm 2)),
 rq 2 16 (.load 1 false (.tm 15)),
 rq 3 17 (.move (.tm 1)),
 rq 4 18 (.move (.tm 6)),
 rq 5 19 (.idx 1 (.tm 17) (.tm 18)),
 rq 6 20 (.load 1 false (.tm 19)),
 rq 7 21 (.idx 1 (.tm 16) (.tm 20)),
 rq 8 22 (.load 1 false (.tm 21)),
 rq 9 23 (.bslice 1 1 [(.v (.int .i64 0))] [(0, 1, (.tm 22))]),
 rq 10 24 (.append 1 (.tm 14) (.tm 23)),
 rq 11 5 (.move (.tm 24))] 12 [1, 2, 5, 6]))
 (.region [rq 0 12 (.move (.tm 6)),
 rq 1 13 (.bin .add (.tm 12) (ki 1)),
 rq 2 6 (.move (.tm 13))] 3 [1, 2, 5, 6]))))))
 (.seq (.region [rq 0 25 (.move (.tm 5)),
 rq 1 4 (.move (.tm 25))] 2 [4])
 .ret))))
def ct_spec_l2Get : List Cert := [⟨[], [1, 2]⟩, ⟨[], [1, 2, 5]⟩, ⟨[], [1, 2, 5, 6]⟩, ⟨[], [1, 2, 5, 6, 11]⟩, ⟨[cz 0, cz 1, cz 2, cz 3, cz 4, cz 5, cz 6, cz 7, cz 8, cz 9, cz 10, cz 11], [1, 2, 5, 6]⟩, ⟨[], [1, 2, 5, 6]⟩, ⟨[], [4]⟩]
def rs_spec_l2Get : List ResV := [.tm 4]
theorem ok_spec_l2Get : compF Tryz.prog Tryz.f134 ct_spec_l2Get = some (ac_spec_l2Get, rs_spec_l2Get) := by kernel_rfl
theorem en_spec_l2Get : EnTy Tryz.prog n_spec_l2Get Tryz.f134 ac_spec_l2Get rs_spec_l2Get :=
  EnTy.mk Tryz.func134 (by kernel_rfl) ok_spec_l2Get

/- loop.example/crossyard/spec.l2Put -/
def ac_spec_l2Put : AC :=
 (.seq (.region [rq 0 4 (.box true (.tm 0)),
 rq 1 8 (.alloc [(.osl 0 0 0 0 0)])] 2 [1, 2, 3, 4, 8])
 (.seq (.seq (.region [rq 0 9 (.move (ki 0))] 1 [1, 2, 3, 4, 8, 9])
 (.block 0
 (.loop
 (.seq (.seq (.region [rq 0 10 (.move (.tm 9)),
 rq 1 11 (.move (.tm 1)),
 rq 2 12 (.len false (.tm 11)),
 rq 3 13 (.bin .lss (.tm 10) (.tm 12))] 4 [1, 2, 3, 4, 8, 9, 13])
 (.cond (.tm 13)
 .skip
 (.exit 0)))
 (.seq (.block 1
 (.region [rq 0 16 (.fld 0 (.tm 4)),
 ⟨1, (some 17), .load 1 false (.tm 16), none, [], [], true⟩,
 rq 2 18 (.move (.tm 1)),
 rq 3 19 (.move (.tm 9)),
 rq 4 20 (.idx 1 (.tm 18) (.tm 19)),
 ⟨5, (some 21), .load 1 false (.tm 20), none, [], [], true⟩,
 rq 6 22 (.fld 0 (.tm 4)),
 rq 7 23 (.load 1 false (.tm 22)),
 rq 8 24 (.move (.tm 1)),
 rq 9 25 (.move (.tm 9)),
 rq 10 26 (.idx 1 (.tm 24) (.tm 25)),
 rq 11 27 (.load 1 false (.tm 26)),
 rq 12 28 (.idx 1 (.tm 23) (.tm 27)),
 rq 13 29 (.load 1 false (.tm 28)),
 rq 14 30 (.move (.tm 2)),
 rq 15 31 (.move (.tm 9)),
 rq 16 32 (.idx 1 (.tm 30) (.tm 31)),
 rq 17 33 (.load 1 false (.tm 32)),
 rq 18 34 (.move (.tm 3)),
 rq 19 35 (.move (.tm 9)),
 rq 20 36 (.idx 1 (.tm 34) (.tm 35)),
 rq 21 37 (.load 1 false (.tm 36)),
 ⟨22, (some 38), .call n_spec_WrdPut [(.tm 29), (.tm 33), (.tm 37)], none, [], [1, 5], false⟩,
 rq 23 39 (.idx 1 (.tm 17) (.tm 21)),
 rn 24 (.store 1 false (.tm 39) (.tm 38))] 25 [1, 2, 3, 4, 8, 9]))
 (.region [rq 0 14 (.move (.tm 9)),
 rq 1 15 (.bin .add (.tm 14) (ki 1)),
 rq 2 9 (.move (.tm 15))] 3 [1, 2, 3, 4, 8, 9]))))))
 (.seq (.region [rq 0 40 (.load 1 true (.tm 4)),
 rn 1 (.store 1 true (.tm 8) (.tm 40))] 2 [8])
 .ret)))
def ct_spec_l2Put : List Cert := [⟨[], [1, 2, 3, 4, 8]⟩, ⟨[], [1, 2, 3, 4, 8, 9]⟩, ⟨[], [1, 2, 3, 4, 8, 9, 13]⟩, ⟨[cz 0, (1, [], [], true), cz 2, cz 3, cz 4, (5, [], [], true), cz 6, cz 7, cz 8, cz 9, cz 10, cz 11, cz 12, cz 13, cz 14, cz 15, cz 16, cz 17, cz 18, cz 19, cz 20, cz 21, (22, [], [1, 5], false), cz 23, cz 24], [1, 2, 3, 4, 8, 9]⟩, ⟨[], [1, 2, 3, 4, 8, 9]⟩, ⟨[], [8]⟩]
def rs_spec_l2Put : List ResV := [.cell 8 1 true]
theorem ok_spec_l2Put : compF Tryz.prog Tryz.f135 ct_spec_l2Put = some (ac_spec_l2Put, rs_spec_l2Put) := by kernel_rfl
theorem en_spec_l2Put : EnTy Tryz.prog n_spec_l2Put Tryz.f135 ac_spec_l2Put rs_spec_l2Put :=
  EnTy.mk Tryz.func135 (by kernel_rfl) ok_spec_l2Put

/- loop.example/crossyard/spec.l4Free -/
def ac_spec_l4Free : AC :=
 (.seq (.region [rq 0 2 (.box true (.tm 0)),
 rq 1 4 (.alloc [(.osl 0 0 0 0 0), (.osl 0 0 0 0 0)])] 2 [1, 2, 4])
 (.seq (.seq (.region [rq 0 5 (.move (ki 0))] 1 [1, 2, 4, 5])
 (.block 0
 (.loop
 (.seq (.seq (.region [rq 0 7 (.move (.tm 5)),
 rq 1 8 (.fld 1 (.tm 2)),
 rq 2 9 (.load 1 false (.tm 8)),
 rq 3 10 (.len false (.tm 9)),
 rq 4 11 (.bin .lss (.tm 7) (.tm 10))] 5 [1, 2, 4, 5, 11])
 (.cond (.tm 11)
 .skip
 (.exit 0)))
 (.seq (.block 1
 (.seq (.region [rq 0 6 (.move (ki 0))] 1 [1, 2, 4, 5, 6])
 (.block 2
 (.loop
 (.seq (.seq (.region [rq 0 14 (.move (.tm 6)),
 rq 1 15 (.move (.tm 1)),
 rq 2 16 (.len false (.tm 15)),
 rq 3 17 (.bin .lss (.tm 14) (.tm 16))] 4 [1, 2, 4, 5, 6, 17])
 (.cond (.tm 17)
 .skip
 (.exit 2)))
 (.seq (.block 3
 (.seq (.region [rq 0 20 (.fld 1 (.tm 2)),
 rq 1 21 (.load 1 false (.tm 20)),
 rq 2 22 (.move (.tm 5)),
 rq 3 23 (.idx 1 (.tm 21) (.tm 22)),
 rq 4 24 (.load 1 false (.tm 23)),
 rq 5 25 (.move (.tm 1)),
 rq 6 26 (.move (.tm 6)),
 rq 7 27 (.idx 1 (.tm 25) (.tm 26)),
 rq 8 28 (.load 1 false (.tm 27)),
 rq 9 29 (.bin .eql (.tm 24) (.tm 28))] 10 [1, 2, 4, 5, 6, 29])
 (.cond (.tm 29)
 (.region [rq 0 30 (.fld 1 (.tm 2)),
 rq 1 31 (.load 1 false (.tm 30)),
 rq 2 32 (.move (.tm 5)),
 rq 3 33 (.idx 1 (.tm 31) (.tm 32)),
 rn 4 (.store 1 false (.tm 33) (.kv (.int .i64 (-1))))] 5 [1, 2, 4, 5, 6])
 .skip)))
 (.region [rq 0 18 (.move (.tm 6)),
 rq 1 19 (.bin .add (.tm 18) (ki 1)),
 rq 2 6 (.move (.tm 19))] 3 [1, 2, 4, 5, 6])))))))
 (.region [rq 0 12 (.move (.tm 5)),
 rq 1 13 (.bin .add (.tm 12) (ki 1)),
 rq 2 5 (.move (.tm 13))] 3 [1, 2, 4, 5]))))))
 (.seq (.region [rq 0 34 (.load 2 true (.tm 2)),
 rn 1 (.store 2 true (.tm 4) (.tm 34))] 2 [4])
 .ret)))
def ct_spec_l4Free : List Cert := [⟨[], [1, 2, 4]⟩, ⟨[], [1, 2, 4, 5]⟩, ⟨[], [1, 2, 4, 5, 11]⟩, ⟨[], [1, 2, 4, 5, 6]⟩, ⟨[], [1, 2, 4, 5, 6, 17]⟩, ⟨[cz 0, cz 1, cz 2, cz 3, cz 4, cz 5, cz 6, cz 7, cz 8, cz 9], [1, 2, 4, 5, 6, 29]⟩, ⟨[], [1, 2, 4, 5, 6]⟩, ⟨[], [1, 2, 4, 5, 6]⟩, ⟨[], [1, 2, 4, 5]⟩, ⟨[], [4]⟩]
def rs_spec_l4Free : List ResV := [.cell 4 2 true]
theorem ok_spec_l4Free : compF Tryz.prog Tryz.f136 ct_spec_l4Free = some (ac_spec_l4Free, rs_spec_l4Free) := by kernel_rfl
theorem en_spec_l4Free : EnTy Tryz.prog n_spec_l4Free Tryz.f136 ac_spec_l4Free rs_spec_l4Free :=
  EnTy.mk Tryz.func136 (by kernel_rfl) ok_spec_l4Free

/- loop.example/crossyard/spec.l2Copy -/
def ac_spec_l2Copy : AC :=
 (.seq (.region [rq 0 1 (.box true (.tm 0)),
 rq 1 2 (.alloc [(.osl 0 0 0 0 0)])] 2 [1, 2])
 (.seq (.region [rq 0 3 (.bslice 1 0 [(.v (.int .i64 0))] []),
 rq 1 4 (.fld 0 (.tm 1)),
 rq 2 5 (.load 1 false (.tm 4)),
 rq 3 6 (.append 1 (.tm 3) (.tm 5)),
 rq 4 7 (.build [(.osl 0 0 0 0 0)] [(0, 1, (.tm 6))]),
 rn 5 (.store 1 true (.tm 2) (.tm 7))] 6 [2])
 .ret))
def ct_spec_l2Copy : List Cert := [⟨[], [1, 2]⟩, ⟨[], [2]⟩]
def rs_spec_l2Copy : List ResV := [.cell 2 1 true]
theorem ok_spec_l2Copy : compF Tryz.prog Tryz.f137 ct_spec_l2Copy = some (ac_spec_l2Copy, rs_spec_l2Copy) := by kernel_rfl
theorem en_spec_l2Copy : EnTy Tryz.prog n_spec_l2Copy Tryz.f137 ac_spec_l2Copy rs_spec_l2Copy :=
  EnTy.mk Tryz.func137 (by kernel_rfl) ok_spec_l2Copy

/- loop.example/crossyard/spec.l5Rsp -/
def ac_spec_l5Rsp : AC :=
 (.seq (.region [rq 0 1 (.box true (.tm 0)),
 rq 1 2 (.alloc [(.v (.int .i64 0)), (.v (.int .i64 0)), (.osl 0 0 0 0 0)])] 2 [1, 2])
 (.seq (.region [rq 0 3 (.fld 0 (.tm 1)),
 ⟨1, (some 4), .load 1 false (.tm 3), none, [4], [], true⟩,
 rq 2 5 (.fld 1 (.tm 1)),
 ⟨3, (some 6), .load 1 false (.tm 5), none, [4], [], true⟩,
 rq 4 7 (.bslice 1 0 [(.v (.int .i64 0))] []),
 rq 5 8 (.fld 2 (.tm 1)),
 ⟨6, (some 9), .load 1 false (.tm 8), none, [4], [], false⟩,
 ⟨7, (some 10), .append 1 (.tm 7) (.tm 9), none, [], [1, 3], false⟩,
 rq 8 11 (.build [(.v (.int .i64 0)), (.v (.int .i64 0)), (.osl 0 0 0 0 0)] [(0, 1, (.tm 4)), (1, 1, (.tm 6)), (2, 1, (.tm 10))]),
 rn 9 (.store 3 true (.tm 2) (.tm 11))] 10 [2])
 .ret))
def ct_spec_l5Rsp : List Cert := [⟨[], [1, 2]⟩, ⟨[cz 0, (1, [4], [], true), cz 2, (3, [4], [], true), cz 4, cz 5, (6, [4], [], false), (7, [], [1, 3], false), cz 8, cz 9], [2]⟩]
def rs_spec_l5Rsp : List ResV := [.cell 2 3 true]
theorem ok_spec_l5Rsp : compF Tryz.prog Tryz.f138 ct_spec_l5Rsp = some (ac_spec_l5Rsp, rs_spec_l5Rsp) := by kernel_rfl
theorem en_spec_l5Rsp : EnTy Tryz.prog n_spec_l5Rsp Tryz.f138 ac_spec_l5Rsp rs_spec_l5Rsp :=
  EnTy.mk Tryz.func138 (by kernel_rfl) ok_spec_l5Rsp

/- loop.example/crossyard/impl.MemOk -/
def ac_impl_MemOk : AC :=
 (.seq (.region [rq 0 1 (.box true (.tm 0)),
 rq 1 2 (.move (.kv (.bool false)))] 2 [1])
 (.seq (.region [rq 0 3 (.fld 0 (.tm 1)),
 rq 1 4 (.load 1 false (.tm 3)),
 rq 2 5 (.len false (.tm 4)),
 rq 3 6 (.bin .eql (.tm 5) (ki 64)),
 rq 4 7 (.move (.tm 6)),
 ⟨5, (some 8), .fld 0 (.tm 1), (some (7, true)), [], [], false⟩,
 ⟨6, (some 9), .load 1 false (.tm 8), (some (7, true)), [], [], false⟩,
 ⟨7, (some 10), .call n_impl_areWords [(.tm 9)], (some (7, true)), [], [], false⟩,
 rq 8 11 (.pick (.tm 7) (.tm 10) (.kv (.bool false))),
 rq 9 2 (.move (.tm 11))] 10 [2])
 .ret))
def ct_impl_MemOk : List Cert := [⟨[], [1]⟩, ⟨[], [2]⟩]
def rs_impl_MemOk : List ResV := [.tm 2]
theorem ok_impl_MemOk : compF Tryz.prog Tryz.f139 ct_impl_MemOk = some (ac_impl_MemOk, rs_impl_MemOk) := by kernel_rfl
theorem en_impl_MemOk : EnTy Tryz.prog n_impl_MemOk Tryz.f139 ac_impl_MemOk rs_impl_MemOk :=
  EnTy.mk Tryz.func139 (by kernel_rfl) ok_impl_MemOk

/- loop.example/crossyard/impl.AtmOk$1 -/
def ac_impl_AtmOk_1 : AC :=
 (.seq (.region [rq 0 2 (.move (.kv (.bool false)))] 1 [0])
 (.seq (.region [rq 0 3 (.move (.tm 0)),
 rq 1 4 (.call n_impl_in [(.tm 3), (.kv (.int .i64 (-1))), (ki 63)]),
 rq 2 5 (.un .not (.tm 4)),
 rq 3 2 (.move (.tm 5))] 4 [2])
 .ret))
def ct_impl_AtmOk_1 : List Cert := [⟨[], [0]⟩, ⟨[], [2]⟩]
def rs_impl_AtmOk_1 : List ResV := [.tm 2]
theorem ok_impl_AtmOk_1 : compF Tryz.prog Tryz.f140 ct_impl_AtmOk_1 = some (ac_impl_AtmOk_1, rs_impl_AtmOk_1) := by kernel_rfl
theorem en_impl_AtmOk_1 : EnTy Tryz.prog n_impl_AtmOk_1 Tryz.f140 ac_impl_AtmOk_1 rs_impl_AtmOk_1 :=
  EnTy.mk Tryz.func140 (by kernel_rfl) ok_impl_AtmOk_1

/- cmp.Or[int] -/
def ac_cmp_Or_int : AC :=
 (.seq (.region [rq 0 2 (.move (ki 0))] 1 [0])
 (.seq (.region [rq 0 3 (.move (ki 0))] 1 [0, 3])
 (.seq (.seq (.region [rq 0 6 (.move (.tm 0)),
 rq 1 7 (.len false (.tm 6)),
 rq 2 8 (.move (ki 0))] 3 [3, 6, 7, 8])
 (.block 0
 (.loop
 (.seq (.region [rq 0 9 (.bin .lss (.tm 8) (.tm 7))] 1 [3, 6, 7, 8, 9])
 (.seq (.cond (.tm 9)
 .skip
 (.exit 0))
 (.seq (.block 1
 (.seq (.region [rq 0 10 (.idx 1 (.tm 6) (.tm 8)),
 rq 1 11 (.load 1 false (.tm 10)),
 rq 2 5 (.move (.tm 11))] 3 [3, 5, 6, 7, 8])
 (.seq (.region [rq 0 12 (.move (.tm 5)),
 rq 1 13 (.move (.tm 3)),
 rq 2 14 (.bin .neq (.tm 12) (.tm 13))] 3 [3, 5, 6, 7, 8, 14])
 (.cond (.tm 14)
 (.seq (.region [rq 0 15 (.move (.tm 5)),
 rq 1 2 (.move (.tm 15))] 2 [2])
 .ret)
 .skip))))
 (.region [rq 0 16 (.bin .add (.tm 8) (ki 1)),
 rq 1 8 (.move (.tm 16))] 2 [3, 6, 7, 8])))))))
 (.seq (.region [rq 0 17 (.move (.tm 3)),
 rq 1 2 (.move (.tm 17))] 2 [2])
 .ret))))
def ct_cmp_Or_int : List Cert := [⟨[], [0]⟩, ⟨[], [0, 3]⟩, ⟨[], [3, 6, 7, 8]⟩, ⟨[], [3, 6, 7, 8, 9]⟩, ⟨[], [3, 5, 6, 7, 8]⟩, ⟨[], [3, 5, 6, 7, 8, 14]⟩, ⟨[], [2]⟩, ⟨[], [3, 6, 7, 8]⟩, ⟨[], [2]⟩]
def rs_cmp_Or_int : List ResV := [.tm 2]
theorem ok_cmp_Or_int : compF Tryz.prog Tryz.f141 ct_cmp_Or_int = some (ac_cmp_Or_int, rs_cmp_Or_int) := by kernel_rfl
theorem en_cmp_Or_int : EnTy Tryz.prog n_cmp_Or_int Tryz.f141 ac_cmp_Or_int rs_cmp_Or_int :=
  EnTy.mk Tryz.func141 (by kernel_rfl) ok_cmp_Or_int

/- cmp.Compare[int] -/
def ac_cmp_Compare_int : AC :=
 (.seq (.region [rq 0 4 (.move (ki 0))] 1 [0, 1])
 (.seq (.region [rq 0 7 (.move (.tm 0)),
 rq 1 8 (.call n_cmp_isNaN_int [(.tm 7)]),
 rq 2 5 (.move (.tm 8))] 3 [0, 1, 5])
 (.seq (.region [rq 0 9 (.move (.tm 1)),
 rq 1 10 (.call n_cmp_isNaN_int [(.tm 9)]),
 rq 2 6 (.move (.tm 10))] 3 [0, 1, 5, 6])
 (.seq (.seq (.region [rq 0 11 (.move (.tm 5))] 1 [0, 1, 6, 11])
 (.cond (.tm 11)
 (.seq (.seq (.region [rq 0 12 (.move (.tm 6))] 1 [12])
 (.cond (.tm 12)
 (.seq (.region [rq 0 4 (.move (ki 0))] 1 [4])
 .ret)
 .skip))
 (.seq (.region [rq 0 4 (.move (.kv (.int .i64 (-1))))] 1 [4])
 .ret))
 .skip))
 (.seq (.seq (.region [rq 0 13 (.move (.tm 6))] 1 [0, 1, 13])
 (.cond (.tm 13)
 (.seq (.region [rq 0 4 (.move (ki 1))] 1 [4])
 .ret)
 .skip))
 (.seq (.seq (.region [rq 0 14 (.move (.tm 0)),
 rq 1 15 (.move (.tm 1)),
 rq 2 16 (.bin .lss (.tm 14) (.tm 15))] 3 [0, 1, 16])
 (.cond (.tm 16)
 (.seq (.region [rq 0 4 (.move (.kv (.int .i64 (-1))))] 1 [4])
 .ret)
 .skip))
 (.seq (.seq (.region [rq 0 17 (.move (.tm 0)),
 rq 1 18 (.move (.tm 1)),
 rq 2 19 (.bin .gtr (.tm 17) (.tm 18))] 3 [19])
 (.cond (.tm 19)
 (.seq (.region [rq 0 4 (.move (ki 1))] 1 [4])
 .ret)
 .skip))
 (.seq (.region [rq 0 4 (.move (ki 0))] 1 [4])
 .ret))))))))
def ct_cmp_Compare_int : List Cert := [⟨[], [0, 1]⟩, ⟨[], [0, 1, 5]⟩, ⟨[], [0, 1, 5, 6]⟩, ⟨[], [0, 1, 6, 11]⟩, ⟨[], [12]⟩, ⟨[], [4]⟩, ⟨[], [4]⟩, ⟨[], [0, 1, 13]⟩, ⟨[], [4]⟩, ⟨[], [0, 1, 16]⟩, ⟨[], [4]⟩, ⟨[], [19]⟩, ⟨[], [4]⟩, ⟨[], [4]⟩]
def rs_cmp_Compare_int : List ResV := [.tm 4]
theorem ok_cmp_Compare_int : compF Tryz.prog Tryz.f142 ct_cmp_Compare_int = some (ac_cmp_Compare_int, rs_cmp_Compare_int) := by kernel_rfl
theorem en_cmp_Compare_int : EnTy Tryz.prog n_cmp_Compare_int Tryz.f142 ac_cmp_Compare_int rs_cmp_Compare_int :=
  EnTy.mk Tryz.func142 (by kernel_rfl) ok_cmp_Compare_int

/- math/bits.Mul64 -/
def ac_math_bits_Mul64 : AC :=
 (.seq (.region [rq 0 4 (.move (.kv (.int .u64 0))),
 rq 1 5 (.move (.kv (.int .u64 0)))] 2 [0, 1])
 (.seq (.region [rq 0 14 (.move (.tm 0)),
 rq 1 15 (.bin .and (.tm 14) (.kv (.int .u64 4294967295))),
 rq 2 6 (.move (.tm 15))] 3 [0, 1, 6])
 (.seq (.region [rq 0 16 (.move (.tm 0)),
 rq 1 17 (.bin .shr (.tm 16) (.kv (.int .u64 32))),
 rq 2 7 (.move (.tm 17))] 3 [0, 1, 6, 7])
 (.seq (.region [rq 0 18 (.move (.tm 1)),
 rq 1 19 (.bin .and (.tm 18) (.kv (.int .u64 4294967295))),
 rq 2 8 (.move (.tm 19))] 3 [0, 1, 6, 7, 8])
 (.seq (.region [rq 0 20 (.move (.tm 1)),
 rq 1 21 (.bin .shr (.tm 20) (.kv (.int .u64 32))),
 rq 2 9 (.move (.tm 21))] 3 [0, 1, 6, 7, 8, 9])
 (.seq (.region [rq 0 22 (.move (.tm 6)),
 rq 1 23 (.move (.tm 8)),
 rq 2 24 (.bin .mul (.tm 22) (.tm 23)),
 rq 3 10 (.move (.tm 24))] 4 [0, 1, 6, 7, 8, 9, 10])
 (.seq (.region [rq 0 25 (.move (.tm 7)),
 rq 1 26 (.move (.tm 8)),
 rq 2 27 (.bin .mul (.tm 25) (.tm 26)),
 rq 3 28 (.move (.tm 10)),
 rq 4 29 (.bin .shr (.tm 28) (.kv (.int .u64 32))),
 rq 5 30 (.bin .add (.tm 27) (.tm 29)),
 rq 6 11 (.move (.tm 30))] 7 [0, 1, 6, 7, 9, 11])
 (.seq (.region [rq 0 31 (.move (.tm 11)),
 rq 1 32 (.bin .and (.tm 31) (.kv (.int .u64 4294967295))),
 rq 2 12 (.move (.tm 32))] 3 [0, 1, 6, 7, 9, 11, 12])
 (.seq (.region [rq 0 33 (.move (.tm 11)),
 rq 1 34 (.bin .shr (.tm 33) (.kv (.int .u64 32))),
 rq 2 13 (.move (.tm 34))] 3 [0, 1, 6, 7, 9, 12, 13])
 (.seq (.region [rq 0 35 (.move (.tm 12)),
 rq 1 36 (.move (.tm 6)),
 rq 2 37 (.move (.tm 9)),
 rq 3 38 (.bin .mul (.tm 36) (.tm 37)),
 rq 4 39 (.bin .add (.tm 35) (.tm 38)),
 rq 5 12 (.move (.tm 39))] 6 [0, 1, 7, 9, 12, 13])
 (.seq (.region [rq 0 40 (.move (.tm 7)),
 rq 1 41 (.move (.tm 9)),
 rq 2 42 (.bin .mul (.tm 40) (.tm 41)),
 rq 3 43 (.move (.tm 13)),
 rq 4 44 (.bin .add (.tm 42) (.tm 43)),
 rq 5 45 (.move (.tm 12)),
 rq 6 46 (.bin .shr (.tm 45) (.kv (.int .u64 32))),
 rq 7 47 (.bin .add (.tm 44) (.tm 46)),
 rq 8 4 (.move (.tm 47))] 9 [0, 1, 4])
 (.seq (.region [rq 0 48 (.move (.tm 0)),
 rq 1 49 (.move (.tm 1)),
 rq 2 50 (.bin .mul (.tm 48) (.tm 49)),
 rq 3 5 (.move (.tm 50))] 4 [4, 5])
 .ret))))))))))))
def ct_math_bits_Mul64 : List Cert := [⟨[], [0, 1]⟩, ⟨[], [0, 1, 6]⟩, ⟨[], [0, 1, 6, 7]⟩, ⟨[], [0, 1, 6, 7, 8]⟩, ⟨[], [0, 1, 6, 7, 8, 9]⟩, ⟨[], [0, 1, 6, 7, 8, 9, 10]⟩, ⟨[], [0, 1, 6, 7, 9, 11]⟩, ⟨[], [0, 1, 6, 7, 9, 11, 12]⟩, ⟨[], [0, 1, 6, 7, 9, 12, 13]⟩, ⟨[], [0, 1, 7, 9, 12, 13]⟩, ⟨[], [0, 1, 4]⟩, ⟨[], [4, 5]⟩]
def rs_math_bits_Mul64 : List ResV := [.tm 4, .tm 5]
theorem ok_math_bits_Mul64 : compF Tryz.prog Tryz.f146 ct_math_bits_Mul64 = some (ac_math_bits_Mul64, rs_math_bits_Mul64) := by kernel_rfl
theorem en_math_bits_Mul64 : EnTy Tryz.prog n_math_bits_Mul64 Tryz.f146 ac_math_bits_Mul64 rs_math_bits_Mul64 :=
  EnTy.mk Tryz.func146 (by kernel_rfl) ok_math_bits_Mul64

/- slices.IndexFunc[[]loop.example/crossyard/impl.MapRange,loop.example/crossyard/impl.MapRange] -/
def ac_slices_IndexFunc_ZMapRange_MapRange : AC :=
 (.seq (.region [rq 0 4 (.move (ki 0))] 1 [0, 1])
 (.seq (.seq (.region [rq 0 6 (.move (.tm 0)),
 rq 1 7 (.len false (.tm 6)),
 rq 2 8 (.move (ki 0))] 3 [0, 1, 7, 8])
 (.block 0
 (.loop
 (.seq (.region [rq 0 9 (.bin .lss (.tm 8) (.tm 7))] 1 [0, 1, 7, 8, 9])
 (.seq (.cond (.tm 9)
 .skip
 (.exit 0))
 (.seq (.block 1
 (.seq (.region [rq 0 10 (.move (.tm 8)),
 rq 1 5 (.move (.tm 10))] 2 [0, 1, 5, 7, 8])
 (.seq (.region [rq 0 11 (.move (.tm 1)),
 rq 1 12 (.move (.tm 0)),
 rq 2 13 (.move (.tm 5)),
 rq 3 14 (.idx 4 (.tm 12) (.tm 13)),
 rq 4 15 (.load 4 true (.tm 14)),
 rq 5 16 (.callv (.tm 11) [(.tm 15)])] 6 [0, 1, 5, 7, 8, 16])
 (.cond (.tm 16)
 (.seq (.region [rq 0 17 (.move (.tm 5)),
 rq 1 4 (.move (.tm 17))] 2 [4])
 .ret)
 .skip))))
 (.region [rq 0 18 (.bin .add (.tm 8) (ki 1)),
 rq 1 8 (.move (.tm 18))] 2 [0, 1, 7, 8])))))))
 (.seq (.region [rq 0 4 (.move (.kv (.int .i64 (-1))))] 1 [4])
 .ret)))
def ct_slices_IndexFunc_ZMapRange_MapRange : List Cert := [⟨[], [0, 1]⟩, ⟨[], [0, 1, 7, 8]⟩, ⟨[], [0, 1, 7, 8, 9]⟩, ⟨[], [0, 1, 5, 7, 8]⟩, ⟨[], [0, 1, 5, 7, 8, 16]⟩, ⟨[], [4]⟩, ⟨[], [0, 1, 7, 8]⟩, ⟨[], [4]⟩]
def rs_slices_IndexFunc_ZMapRange_MapRange : List ResV := [.tm 4]
theorem ok_slices_IndexFunc_ZMapRange_MapRange : compF Tryz.prog Tryz.f147 ct_slices_IndexFunc_ZMapRange_MapRange = some (ac_slices_IndexFunc_ZMapRange_MapRange, rs_slices_IndexFunc_ZMapRange_MapRange) := by kernel_rfl
theorem en_slices_IndexFunc_ZMapRange_MapRange : EnTy Tryz.prog n_slices_IndexFunc_ZMapRange_MapRange Tryz.f147 ac_slices_IndexFunc_ZMapRange_MapRange rs_slices_IndexFunc_ZMapRange_MapRange :=
  EnTy.mk Tryz.func147 (by kernel_rfl) ok_slices_IndexFunc_ZMapRange_MapRange

/- loop.example/crossyard/impl.areWords$1 -/
def ac_impl_areWords_1 : AC :=
 (.seq (.region [rq 0 2 (.move (.kv (.bool false)))] 1 [0])
 (.seq (.region [rq 0 3 (.move (.tm 0)),
 rq 1 4 (.call n_impl_isWord [(.tm 3)]),
 rq 2 5 (.un .not (.tm 4)),
 rq 3 2 (.move (.tm 5))] 4 [2])
 .ret))
def ct_impl_areWords_1 : List Cert := [⟨[], [0]⟩, ⟨[], [2]⟩]
def rs_impl_areWords_1 : List ResV := [.tm 2]
theorem ok_impl_areWords_1 : compF Tryz.prog Tryz.f148 ct_impl_areWords_1 = some (ac_impl_areWords_1, rs_impl_areWords_1) := by kernel_rfl
theorem en_impl_areWords_1 : EnTy Tryz.prog n_impl_areWords_1 Tryz.f148 ac_impl_areWords_1 rs_impl_areWords_1 :=
  EnTy.mk Tryz.func148 (by kernel_rfl) ok_impl_areWords_1

/- loop.example/crossyard/impl.isWord -/
def ac_impl_isWord : AC :=
 (.seq (.region [rq 0 2 (.move (.kv (.bool false)))] 1 [0])
 (.seq (.region [rq 0 3 (.move (.tm 0)),
 rq 1 4 (.call n_impl_in [(.tm 3), (ki 0), (ki 65535)]),
 rq 2 2 (.move (.tm 4))] 3 [2])
 .ret))
def ct_impl_isWord : List Cert := [⟨[], [0]⟩, ⟨[], [2]⟩]
def rs_impl_isWord : List ResV := [.tm 2]
theorem ok_impl_isWord : compF Tryz.prog Tryz.f149 ct_impl_isWord = some (ac_impl_isWord, rs_impl_isWord) := by kernel_rfl
theorem en_impl_isWord : EnTy Tryz.prog n_impl_isWord Tryz.f149 ac_impl_isWord rs_impl_isWord :=
  EnTy.mk Tryz.func149 (by kernel_rfl) ok_impl_isWord

/- loop.example/crossyard/impl.rangeOf$1 -/
def ac_impl_rangeOf_1 : AC :=
 (.seq (.region [rq 0 2 (.box true (.tm 0)),
 rq 1 3 (.move (.kv (.bool false)))] 2 [1, 2])
 (.seq (.region [rq 0 4 (.load 1 false (.tm 1)),
 rq 1 5 (.fld 0 (.tm 2)),
 rq 2 6 (.load 1 false (.tm 5)),
 rq 3 7 (.fld 1 (.tm 2)),
 rq 4 8 (.load 1 false (.tm 7)),
 rq 5 9 (.call n_impl_in [(.tm 4), (.tm 6), (.tm 8)]),
 rq 6 3 (.move (.tm 9))] 7 [3])
 .ret))
def ct_impl_rangeOf_1 : List Cert := [⟨[], [1, 2]⟩, ⟨[], [3]⟩]
def rs_impl_rangeOf_1 : List ResV := [.tm 3]
theorem ok_impl_rangeOf_1 : compF Tryz.prog Tryz.f150 ct_impl_rangeOf_1 = some (ac_impl_rangeOf_1, rs_impl_rangeOf_1) := by kernel_rfl
theorem en_impl_rangeOf_1 : EnTy Tryz.prog n_impl_rangeOf_1 Tryz.f150 ac_impl_rangeOf_1 rs_impl_rangeOf_1 :=
  EnTy.mk Tryz.func150 (by kernel_rfl) ok_impl_rangeOf_1

/- loop.example/crossyard/spec.AdrOk -/
def ac_spec_AdrOk : AC :=
 (.seq (.region [rq 0 6 (.move (.kv (.bool false)))] 1 [0, 1, 2])
 (.seq (.seq (.region [rq 0 7 (.move (.tm 0)),
 rq 1 8 (.call n_spec_l1In [(.tm 7), (ki 0), (ki 63)]),
 rq 2 9 (.un .not (.tm 8)),
 rq 3 10 (.move (.tm 9)),
 ⟨4, (some 11), .move (.tm 1), (some (10, false)), [], [], false⟩,
 ⟨5, (some 12), .bin .neq (.tm 11) (ki 1), (some (10, false)), [], [], false⟩,
 ⟨6, (some 13), .move (.tm 12), (some (10, false)), [], [], false⟩,
 ⟨7, (some 14), .move (.tm 1), (some (13, true)), [], [], false⟩,
 ⟨8, (some 15), .bin .neq (.tm 14) (ki 2), (some (13, true)), [], [], false⟩,
 ⟨9, (some 16), .pick (.tm 13) (.tm 15) (.kv (.bool false)), (some (10, false)), [], [], false⟩,
 ⟨10, (some 17), .move (.tm 16), (some (10, false)), [], [], false⟩,
 ⟨11, (some 18), .move (.tm 1), (some (17, true)), [], [], false⟩,
 ⟨12, (some 19), .bin .neq (.tm 18) (ki 4), (some (17, true)), [], [], false⟩,
 ⟨13, (some 20), .pick (.tm 17) (.tm 19) (.kv (.bool false)), (some (10, false)), [], [], false⟩,
 rq 14 21 (.pick (.tm 10) (.kv (.bool true)) (.tm 20))] 15 [0, 1, 2, 21])
 (.cond (.tm 21)
 (.seq (.region [rq 0 6 (.move (.kv (.bool false)))] 1 [6])
 .ret)
 .skip))
 (.seq (.region [rq 0 22 (.move (.tm 2)),
 rq 1 23 (.move (.tm 22)),
 ⟨2, (some 24), .move (.tm 0), (some (23, false)), [], [], false⟩,
 ⟨3, (some 25), .move (.tm 1), (some (23, false)), [], [], false⟩,
 ⟨4, (some 26), .bin .add (.tm 24) (.tm 25), (some (23, false)), [], [], false⟩,
 ⟨5, (some 27), .bin .sub (.tm 26) (ki 1), (some (23, false)), [], [], false⟩,
 ⟨6, (some 28), .bin .leq (.tm 27) (ki 63), (some (23, false)), [], [], false⟩,
 rq 7 29 (.pick (.tm 23) (.kv (.bool true)) (.tm 28)),
 rq 8 6 (.move (.tm 29))] 9 [6])
 .ret)))
def ct_spec_AdrOk : List Cert := [⟨[], [0, 1, 2]⟩, ⟨[], [0, 1, 2, 21]⟩, ⟨[], [6]⟩, ⟨[], [6]⟩]
def rs_spec_AdrOk : List ResV := [.tm 6]
theorem ok_spec_AdrOk : compF Tryz.prog Tryz.f151 ct_spec_AdrOk = some (ac_spec_AdrOk, rs_spec_AdrOk) := by kernel_rfl
theorem en_spec_AdrOk : EnTy Tryz.prog n_spec_AdrOk Tryz.f151 ac_spec_AdrOk rs_spec_AdrOk :=
  EnTy.mk Tryz.func151 (by kernel_rfl) ok_spec_AdrOk

/- loop.example/crossyard/spec.l1Find -/
def ac_spec_l1Find : AC :=
 (.seq (.region [rq 0 4 (.move (ki 0))] 1 [0, 1])
 (.seq (.seq (.region [rq 0 5 (.move (ki 0))] 1 [0, 1, 5])
 (.block 0
 (.loop
 (.seq (.seq (.region [rq 0 6 (.move (.tm 5)),
 rq 1 7 (.move (.tm 0)),
 rq 2 8 (.len false (.tm 7)),
 rq 3 9 (.bin .lss (.tm 6) (.tm 8))] 4 [0, 1, 5, 9])
 (.cond (.tm 9)
 .skip
 (.exit 0)))
 (.seq (.block 1
 (.seq (.region [rq 0 12 (.move (.tm 1)),
 rq 1 13 (.move (.tm 0)),
 rq 2 14 (.move (.tm 5)),
 rq 3 15 (.idx 4 (.tm 13) (.tm 14)),
 rq 4 16 (.fld 0 (.tm 15)),
 rq 5 17 (.load 1 false (.tm 16)),
 rq 6 18 (.move (.tm 0)),
 rq 7 19 (.move (.tm 5)),
 rq 8 20 (.idx 4 (.tm 18) (.tm 19)),
 rq 9 21 (.fld 1 (.tm 20)),
 rq 10 22 (.load 1 false (.tm 21)),
 rq 11 23 (.call n_spec_l1In [(.tm 12), (.tm 17), (.tm 22)])] 12 [0, 1, 5, 23])
 (.cond (.tm 23)
 (.seq (.region [rq 0 24 (.move (.tm 5)),
 rq 1 4 (.move (.tm 24))] 2 [4])
 .ret)
 .skip)))
 (.region [rq 0 10 (.move (.tm 5)),
 rq 1 11 (.bin .add (.tm 10) (ki 1)),
 rq 2 5 (.move (.tm 11))] 3 [0, 1, 5]))))))
 (.seq (.region [rq 0 4 (.move (.kv (.int .i64 (-1))))] 1 [4])
 .ret)))
def ct_spec_l1Find : List Cert := [⟨[], [0, 1]⟩, ⟨[], [0, 1, 5]⟩, ⟨[], [0, 1, 5, 9]⟩, ⟨[cz 0, cz 1, cz 2, cz 3, cz 4, cz 5, cz 6, cz 7, cz 8, cz 9, cz 10, cz 11], [0, 1, 5, 23]⟩, ⟨[], [4]⟩, ⟨[], [0, 1, 5]⟩, ⟨[], [4]⟩]
def rs_spec_l1Find : List ResV := [.tm 4]
theorem ok_spec_l1Find : compF Tryz.prog Tryz.f152 ct_spec_l1Find = some (ac_spec_l1Find, rs_spec_l1Find) := by kernel_rfl
theorem en_spec_l1Find : EnTy Tryz.prog n_spec_l1Find Tryz.f152 ac_spec_l1Find rs_spec_l1Find :=
  EnTy.mk Tryz.func152 (by kernel_rfl) ok_spec_l1Find

/- loop.example/crossyard/spec.WrdPut -/
def ac_spec_WrdPut : AC :=
 (.seq (.region [rq 0 6 (.move (ki 0))] 1 [0, 1, 2])
 (.seq (.seq (.region [rq 0 9 (.move (.tm 0)),
 rq 1 10 (.call n_spec_l1In [(.tm 9), (ki 0), (ki 65535)]),
 rq 2 11 (.un .not (.tm 10)),
 rq 3 12 (.move (.tm 11)),
 ⟨4, (some 13), .move (.tm 1), (some (12, false)), [], [], false⟩,
 ⟨5, (some 14), .call n_spec_l1In [(.tm 13), (ki 0), (ki 65535)], (some (12, false)), [], [], false⟩,
 ⟨6, (some 15), .un .not (.tm 14), (some (12, false)), [], [], false⟩,
 rq 7 16 (.pick (.tm 12) (.kv (.bool true)) (.tm 15)),
 rq 8 17 (.move (.tm 16)),
 ⟨9, (some 18), .move (.tm 2), (some (17, false)), [], [], false⟩,
 ⟨10, (some 19), .call n_spec_l1In [(.tm 18), (ki 0), (ki 3)], (some (17, false)), [], [], false⟩,
 ⟨11, (some 20), .un .not (.tm 19), (some (17, false)), [], [], false⟩,
 rq 12 21 (.pick (.tm 17) (.kv (.bool true)) (.tm 20))] 13 [0, 1, 2, 21])
 (.cond (.tm 21)
 (.seq (.region [rq 0 6 (.move (.kv (.int .i64 (-1))))] 1 [6])
 .ret)
 .skip))
 (.seq (.region [rq 0 22 (.move (.tm 0)),
 rq 1 23 (.bin .rem (.tm 22) (ki 256)),
 rq 2 7 (.move (.tm 23))] 3 [0, 1, 2, 7])
 (.seq (.region [rq 0 24 (.move (.tm 0)),
 rq 1 25 (.bin .quo (.tm 24) (ki 256)),
 rq 2 8 (.move (.tm 25))] 3 [1, 2, 7, 8])
 (.seq (.seq (.region [rq 0 26 (.move (.tm 2)),
 rq 1 27 (.bin .rem (.tm 26) (ki 2)),
 rq 2 28 (.bin .eql (.tm 27) (ki 1))] 3 [1, 2, 7, 8, 28])
 (.cond (.tm 28)
 (.region [rq 0 29 (.move (.tm 1)),
 rq 1 30 (.bin .rem (.tm 29) (ki 256)),
 rq 2 7 (.move (.tm 30))] 3 [1, 2, 7, 8])
 .skip))
 (.seq (.seq (.region [rq 0 31 (.move (.tm 2)),
 rq 1 32 (.bin .quo (.tm 31) (ki 2)),
 rq 2 33 (.bin .eql (.tm 32) (ki 1))] 3 [1, 7, 8, 33])
 (.cond (.tm 33)
 (.region [rq 0 34 (.move (.tm 1)),
 rq 1 35 (.bin .quo (.tm 34) (ki 256)),
 rq 2 8 (.move (.tm 35))] 3 [7, 8])
 .skip))
 (.seq (.region [rq 0 36 (.move (.tm 8)),
 rq 1 37 (.bin .mul (.tm 36) (ki 256)),
 rq 2 38 (.move (.tm 7)),
 rq 3 39 (.bin .add (.tm 37) (.tm 38)),
 rq 4 6 (.move (.tm 39))] 5 [6])
 .ret)))))))
def ct_spec_WrdPut : List Cert := [⟨[], [0, 1, 2]⟩, ⟨[], [0, 1, 2, 21]⟩, ⟨[], [6]⟩, ⟨[], [0, 1, 2, 7]⟩, ⟨[], [1, 2, 7, 8]⟩, ⟨[], [1, 2, 7, 8, 28]⟩, ⟨[], [1, 2, 7, 8]⟩, ⟨[], [1, 7, 8, 33]⟩, ⟨[], [7, 8]⟩, ⟨[], [6]⟩]
def rs_spec_WrdPut : List ResV := [.tm 6]
theorem ok_spec_WrdPut : compF Tryz.prog Tryz.f153 ct_spec_WrdPut = some (ac_spec_WrdPut, rs_spec_WrdPut) := by kernel_rfl
theorem en_spec_WrdPut : EnTy Tryz.prog n_spec_WrdPut Tryz.f153 ac_spec_WrdPut rs_spec_WrdPut :=
  EnTy.mk Tryz.func153 (by kernel_rfl) ok_spec_WrdPut

/- cmp.isNaN[int] -/
def ac_cmp_isNaN_int : AC :=
 (.seq (.region [rq 0 2 (.move (.kv (.bool false)))] 1 [0])
 (.seq (.region [rq 0 3 (.move (.tm 0)),
 rq 1 4 (.move (.tm 0)),
 rq 2 5 (.bin .neq (.tm 3) (.tm 4)),
 rq 3 2 (.move (.tm 5))] 4 [2])
 .ret))
def ct_cmp_isNaN_int : List Cert := [⟨[], [0]⟩, ⟨[], [2]⟩]
def rs_cmp_isNaN_int : List ResV := [.tm 2]
theorem ok_cmp_isNaN_int : compF Tryz.prog Tryz.f154 ct_cmp_isNaN_int = some (ac_cmp_isNaN_int, rs_cmp_isNaN_int) := by kernel_rfl
theorem en_cmp_isNaN_int : EnTy Tryz.prog n_cmp_isNaN_int Tryz.f154 ac_cmp_isNaN_int rs_cmp_isNaN_int :=
  EnTy.mk Tryz.func154 (by kernel_rfl) ok_cmp_isNaN_int

end Go.Proofs.YtiimjokpcbapeaaGreat
