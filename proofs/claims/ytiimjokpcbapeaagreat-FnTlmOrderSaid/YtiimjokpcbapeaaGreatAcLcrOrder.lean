/- The code of the functions with types resolved, checked against the program. Printed by a program (gen.py). -/
import Derived.Test.YtiimjokpcbapeaaGreatAcN
namespace Go.Proofs.YtiimjokpcbapeaaGreat
open Go Go.AM
set_option maxRecDepth 100000

/- loop.example/crossyard/laws.crOrder -/
def ac_laws_crOrder : AC :=
 (.seq (.region [rq 0 2 (.box true (.tm 0)),
 rq 1 4 (.move (.kv (.bool false)))] 2 [1, 2])
 (.seq (.seq (.region [rq 0 5 (.move (ki 0))] 1 [1, 2, 5])
 (.block 0
 (.loop
 (.seq (.seq (.region [rq 0 9 (.move (.tm 5)),
 rq 1 10 (.move (.tm 1)),
 rq 2 11 (.len false (.tm 10)),
 rq 3 12 (.bin .lss (.tm 9) (.tm 11))] 4 [1, 2, 5, 12])
 (.cond (.tm 12)
 .skip
 (.exit 0)))
 (.seq (.block 1
 (.seq (.region [rq 0 6 (.move (ki 0))] 1 [1, 2, 5, 6])
 (.block 2
 (.loop
 (.seq (.seq (.region [rq 0 15 (.move (.tm 6)),
 rq 1 16 (.move (.tm 5)),
 rq 2 17 (.bin .lss (.tm 15) (.tm 16))] 3 [1, 2, 5, 6, 17])
 (.cond (.tm 17)
 .skip
 (.exit 2)))
 (.seq (.block 3
 (.seq (.region [rq 0 20 (.move (.tm 1)),
 rq 1 21 (.move (.tm 6)),
 rq 2 22 (.idx 5 (.tm 20) (.tm 21)),
 rq 3 23 (.load 5 true (.tm 22)),
 rq 4 7 (.alloc [(.v (.int .i64 0)), (.v (.int .i64 0)), (.v (.int .i64 0)), (.v (.int .i64 0)), (.osl 0 0 0 0 0)]),
 rn 5 (.store 5 true (.tm 7) (.tm 23))] 6 [1, 2, 5, 6, 7])
 (.seq (.region [rq 0 24 (.move (.tm 1)),
 rq 1 25 (.move (.tm 5)),
 rq 2 26 (.idx 5 (.tm 24) (.tm 25)),
 rq 3 27 (.load 5 true (.tm 26)),
 rq 4 8 (.alloc [(.v (.int .i64 0)), (.v (.int .i64 0)), (.v (.int .i64 0)), (.v (.int .i64 0)), (.osl 0 0 0 0 0)]),
 rn 5 (.store 5 true (.tm 8) (.tm 27))] 6 [1, 2, 5, 6, 7, 8])
 (.seq (.region [rq 0 28 (.fld 0 (.tm 7)),
 rq 1 29 (.load 1 false (.tm 28)),
 rq 2 30 (.fld 0 (.tm 8)),
 rq 3 31 (.load 1 false (.tm 30)),
 rq 4 32 (.bin .eql (.tm 29) (.tm 31)),
 rq 5 33 (.move (.tm 32)),
 ⟨6, (some 34), .fld 1 (.tm 7), (some (33, true)), [], [], false⟩,
 ⟨7, (some 35), .load 1 false (.tm 34), (some (33, true)), [], [], false⟩,
 ⟨8, (some 36), .fld 1 (.tm 8), (some (33, true)), [], [], false⟩,
 ⟨9, (some 37), .load 1 false (.tm 36), (some (33, true)), [], [], false⟩,
 ⟨10, (some 38), .bin .geq (.tm 35) (.tm 37), (some (33, true)), [], [], false⟩,
 rq 11 39 (.pick (.tm 33) (.tm 38) (.kv (.bool false))),
 rq 12 40 (.move (.tm 39)),
 ⟨13, (some 41), .fld 2 (.tm 2), (some (40, true)), [], [], false⟩,
 ⟨14, (some 42), .load 1 false (.tm 41), (some (40, true)), [], [], false⟩,
 ⟨15, (some 43), .fld 0 (.tm 7), (some (40, true)), [], [], false⟩,
 ⟨16, (some 44), .load 1 false (.tm 43), (some (40, true)), [], [], false⟩,
 ⟨17, (some 45), .idx 1 (.tm 42) (.tm 44), (some (40, true)), [], [], false⟩,
 ⟨18, (some 46), .load 1 false (.tm 45), (some (40, true)), [], [], false⟩,
 ⟨19, (some 47), .fld 1 (.tm 7), (some (40, true)), [], [], false⟩,
 ⟨20, (some 48), .load 1 false (.tm 47), (some (40, true)), [], [], false⟩,
 ⟨21, (some 49), .idx 7 (.tm 46) (.tm 48), (some (40, true)), [], [], false⟩,
 ⟨22, (some 50), .fld 0 (.tm 49), (some (40, true)), [], [], false⟩,
 ⟨23, (some 51), .load 1 false (.tm 50), (some (40, true)), [], [], false⟩,
 ⟨24, (some 52), .fld 2 (.tm 2), (some (40, true)), [], [], false⟩,
 ⟨25, (some 53), .load 1 false (.tm 52), (some (40, true)), [], [], false⟩,
 ⟨26, (some 54), .fld 0 (.tm 8), (some (40, true)), [], [], false⟩,
 ⟨27, (some 55), .load 1 false (.tm 54), (some (40, true)), [], [], false⟩,
 ⟨28, (some 56), .idx 1 (.tm 53) (.tm 55), (some (40, true)), [], [], false⟩,
 ⟨29, (some 57), .load 1 false (.tm 56), (some (40, true)), [], [], false⟩,
 ⟨30, (some 58), .fld 1 (.tm 8), (some (40, true)), [], [], false⟩,
 ⟨31, (some 59), .load 1 false (.tm 58), (some (40, true)), [], [], false⟩,
 ⟨32, (some 60), .idx 7 (.tm 57) (.tm 59), (some (40, true)), [], [], false⟩,
 ⟨33, (some 61), .fld 0 (.tm 60), (some (40, true)), [], [], false⟩,
 ⟨34, (some 62), .load 1 false (.tm 61), (some (40, true)), [], [], false⟩,
 ⟨35, (some 63), .bin .eql (.tm 51) (.tm 62), (some (40, true)), [], [], false⟩,
 rq 36 64 (.pick (.tm 40) (.tm 63) (.kv (.bool false)))] 37 [1, 2, 5, 6, 64])
 (.cond (.tm 64)
 (.seq (.region [rq 0 4 (.move (.kv (.bool false)))] 1 [4])
 .ret)
 .skip)))))
 (.region [rq 0 18 (.move (.tm 6)),
 rq 1 19 (.bin .add (.tm 18) (ki 1)),
 rq 2 6 (.move (.tm 19))] 3 [1, 2, 5, 6])))))))
 (.region [rq 0 13 (.move (.tm 5)),
 rq 1 14 (.bin .add (.tm 13) (ki 1)),
 rq 2 5 (.move (.tm 14))] 3 [1, 2, 5]))))))
 (.seq (.region [rq 0 4 (.move (.kv (.bool true)))] 1 [4])
 .ret)))
def ct_laws_crOrder : List Cert := [⟨[], [1, 2]⟩, ⟨[], [1, 2, 5]⟩, ⟨[], [1, 2, 5, 12]⟩, ⟨[], [1, 2, 5, 6]⟩, ⟨[], [1, 2, 5, 6, 17]⟩, ⟨[], [1, 2, 5, 6, 7]⟩, ⟨[], [1, 2, 5, 6, 7, 8]⟩, ⟨[cz 0, cz 1, cz 2, cz 3, cz 4, cz 5, cz 6, cz 7, cz 8, cz 9, cz 10, cz 11, cz 12, cz 13, cz 14, cz 15, cz 16, cz 17, cz 18, cz 19, cz 20, cz 21, cz 22, cz 23, cz 24, cz 25, cz 26, cz 27, cz 28, cz 29, cz 30, cz 31, cz 32, cz 33, cz 34, cz 35, cz 36], [1, 2, 5, 6, 64]⟩, ⟨[], [4]⟩, ⟨[], [1, 2, 5, 6]⟩, ⟨[], [1, 2, 5]⟩, ⟨[], [4]⟩]
def rs_laws_crOrder : List ResV := [.tm 4]
theorem ok_laws_crOrder : compF Tryz.prog Tryz.f21 ct_laws_crOrder = some (ac_laws_crOrder, rs_laws_crOrder) := by kernel_rfl
theorem en_laws_crOrder : EnTy Tryz.prog n_laws_crOrder Tryz.f21 ac_laws_crOrder rs_laws_crOrder :=
  EnTy.mk Tryz.func21 (by kernel_rfl) ok_laws_crOrder

end Go.Proofs.YtiimjokpcbapeaaGreat
