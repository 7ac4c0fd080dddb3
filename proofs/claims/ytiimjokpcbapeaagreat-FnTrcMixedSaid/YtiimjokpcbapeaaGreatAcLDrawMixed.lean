/- The code of the functions with types resolved, checked against the program. Printed by a program (gen.py). -/
import Derived.Test.YtiimjokpcbapeaaGreatAcN
namespace Go.Proofs.YtiimjokpcbapeaaGreat
open Go Go.AM
set_option maxRecDepth 100000

/- loop.example/crossyard/spec.DrawMixed -/
def ac_spec_DrawMixed : AC :=
 (.seq (.region [rq 0 2 (.alloc [(.osl 0 0 0 0 0), (.osl 0 0 0 0 0), (.osl 0 0 0 0 0)]),
 rq 1 3 (.move (.kv (.slice none 0 0))),
 rq 2 4 (.move (.kv (.slice none 0 0)))] 3 [0, 2])
 (.seq (.region [rq 0 13 (.move (.tm 0)),
 rq 1 14 (.call n_spec_l20Open [(.tm 13)]),
 rq 2 5 (.move (.tm 14))] 3 [2, 5])
 (.seq (.region [rq 0 16 (.move (.tm 5)),
 rq 1 17 (.call n_spec_l20Tlm [(.tm 16), (ki 80)]),
 rq 2 15 (.move (.tm 17)),
 rq 3 18 (.ext (.tm 15) 0),
 rq 4 19 (.ext (.tm 15) 1),
 rq 5 20 (.ext (.tm 15) 2),
 rq 6 6 (.alloc [(.osl 0 0 0 0 0), (.osl 0 0 0 0 0), (.osl 0 0 0 0 0)]),
 rq 7 7 (.alloc [(.osl 0 0 0 0 0), (.osl 0 0 0 0 0), (.osl 0 0 0 0 0), (.osl 0 0 0 0 0), (.osl 0 0 0 0 0), (.osl 0 0 0 0 0)]),
 rn 8 (.store 3 true (.tm 6) (.tm 18)),
 rn 9 (.store 6 true (.tm 7) (.tm 19)),
 rq 10 8 (.move (.tm 20))] 11 [2, 5, 6, 8])
 (.seq (.region [rq 0 21 (.bslice 3 0 [(.v (.int .i64 0)), (.v (.int .i64 0)), (.v (.int .i64 0))] []),
 rq 1 22 (.move (.tm 8)),
 rq 2 23 (.append 3 (.tm 21) (.tm 22)),
 rq 3 9 (.move (.tm 23))] 4 [2, 5, 6, 8, 9])
 (.seq (.seq (.region [rq 0 24 (.move (.tm 9)),
 rq 1 25 (.len false (.tm 24)),
 rq 2 26 (.bin .mul (ki 3) (.tm 25)),
 rq 3 10 (.move (.tm 26))] 4 [2, 5, 6, 8, 9, 10])
 (.block 0
 (.loop
 (.seq (.seq (.region [rq 0 27 (.move (.tm 10)),
 rq 1 28 (.bin .gtr (.tm 27) (ki 0)),
 rq 2 29 (.move (.tm 28)),
 ⟨3, (some 30), .move (.tm 9), (some (29, true)), [], [], false⟩,
 ⟨4, (some 31), .len false (.tm 30), (some (29, true)), [], [], false⟩,
 ⟨5, (some 32), .bin .gtr (.tm 31) (ki 1), (some (29, true)), [], [], false⟩,
 rq 6 33 (.pick (.tm 29) (.tm 32) (.kv (.bool false)))] 7 [2, 5, 6, 8, 9, 10, 33])
 (.cond (.tm 33)
 .skip
 (.exit 0)))
 (.seq (.block 1
 (.seq (.region [rq 0 36 (.move (.tm 5)),
 rq 1 37 (.move (.tm 9)),
 rq 2 38 (.len false (.tm 37)),
 rq 3 39 (.bin .sub (.tm 38) (ki 1)),
 rq 4 40 (.call n_spec_l20Rd_pick [(.tm 36), (.tm 39)]),
 rq 5 41 (.bin .add (ki 1) (.tm 40)),
 rq 6 11 (.move (.tm 41))] 7 [2, 5, 6, 8, 9, 10, 11])
 (.seq (.region [rq 0 42 (.load 3 true (.tm 6)),
 rq 1 43 (.move (.tm 9)),
 rq 2 44 (.move (.tm 11)),
 rq 3 45 (.bin .sub (.tm 44) (ki 1)),
 rq 4 46 (.idx 3 (.tm 43) (.tm 45)),
 rq 5 47 (.load 3 true (.tm 46)),
 rq 6 48 (.move (.tm 9)),
 rq 7 49 (.move (.tm 11)),
 rq 8 50 (.idx 3 (.tm 48) (.tm 49)),
 rq 9 51 (.load 3 true (.tm 50)),
 rq 10 52 (.call n_spec_l9Apart [(.tm 42), (.tm 47), (.tm 51)])] 11 [2, 5, 6, 8, 9, 10, 11, 52])
 (.cond (.tm 52)
 (.seq (.region [rq 0 53 (.move (.tm 9)),
 rq 1 54 (.move (.tm 11)),
 rq 2 55 (.idx 3 (.tm 53) (.tm 54)),
 rq 3 56 (.load 3 true (.tm 55)),
 rq 4 12 (.alloc [(.v (.int .i64 0)), (.v (.int .i64 0)), (.v (.int .i64 0))]),
 rn 5 (.store 3 true (.tm 12) (.tm 56))] 6 [2, 5, 6, 8, 9, 10, 11, 12])
 (.seq (.region [rq 0 57 (.move (.tm 9)),
 rq 1 58 (.move (.tm 11)),
 rq 2 59 (.move (.tm 9)),
 rq 3 60 (.move (.tm 11)),
 rq 4 61 (.bin .sub (.tm 60) (ki 1)),
 rq 5 62 (.idx 3 (.tm 59) (.tm 61)),
 rq 6 63 (.load 3 true (.tm 62)),
 rq 7 64 (.idx 3 (.tm 57) (.tm 58)),
 rn 8 (.store 3 true (.tm 64) (.tm 63))] 9 [2, 5, 6, 8, 9, 10, 11, 12])
 (.region [rq 0 65 (.move (.tm 9)),
 rq 1 66 (.move (.tm 11)),
 rq 2 67 (.bin .sub (.tm 66) (ki 1)),
 rq 3 68 (.load 3 true (.tm 12)),
 rq 4 69 (.idx 3 (.tm 65) (.tm 67)),
 rn 5 (.store 3 true (.tm 69) (.tm 68))] 6 [2, 5, 6, 8, 9, 10])))
 .skip))))
 (.region [rq 0 34 (.move (.tm 10)),
 rq 1 35 (.bin .sub (.tm 34) (ki 1)),
 rq 2 10 (.move (.tm 35))] 3 [2, 5, 6, 8, 9, 10]))))))
 (.seq (.region [rq 0 70 (.load 3 true (.tm 6)),
 rq 1 71 (.move (.tm 8)),
 rq 2 72 (.move (.tm 9)),
 rn 3 (.store 3 true (.tm 2) (.tm 70)),
 rq 4 3 (.move (.tm 71)),
 rq 5 4 (.move (.tm 72))] 6 [2, 3, 4])
 .ret))))))
def ct_spec_DrawMixed : List Cert := [⟨[], [0, 2]⟩, ⟨[], [2, 5]⟩, ⟨[], [2, 5, 6, 8]⟩, ⟨[], [2, 5, 6, 8, 9]⟩, ⟨[], [2, 5, 6, 8, 9, 10]⟩, ⟨[], [2, 5, 6, 8, 9, 10, 33]⟩, ⟨[], [2, 5, 6, 8, 9, 10, 11]⟩, ⟨[cz 0, cz 1, cz 2, cz 3, cz 4, cz 5, cz 6, cz 7, cz 8, cz 9, cz 10], [2, 5, 6, 8, 9, 10, 11, 52]⟩, ⟨[], [2, 5, 6, 8, 9, 10, 11, 12]⟩, ⟨[], [2, 5, 6, 8, 9, 10, 11, 12]⟩, ⟨[], [2, 5, 6, 8, 9, 10]⟩, ⟨[], [2, 5, 6, 8, 9, 10]⟩, ⟨[], [2, 3, 4]⟩]
def rs_spec_DrawMixed : List ResV := [.cell 2 3 true, .tm 3, .tm 4]
theorem ok_spec_DrawMixed : compF Tryz.prog Tryz.f31 ct_spec_DrawMixed = some (ac_spec_DrawMixed, rs_spec_DrawMixed) := by kernel_rfl
theorem en_spec_DrawMixed : EnTy Tryz.prog n_spec_DrawMixed Tryz.f31 ac_spec_DrawMixed rs_spec_DrawMixed :=
  EnTy.mk Tryz.func31 (by kernel_rfl) ok_spec_DrawMixed

/- loop.example/crossyard/spec.l9Apart -/
def ac_spec_l9Apart : AC :=
 (.seq (.region [rq 0 3 (.box true (.tm 0)),
 rq 1 4 (.box true (.tm 1)),
 rq 2 5 (.box true (.tm 2)),
 rq 3 6 (.move (.kv (.bool false)))] 4 [3, 4, 5])
 (.seq (.seq (.region [rq 0 7 (.fld 1 (.tm 4)),
 rq 1 8 (.load 1 false (.tm 7)),
 rq 2 9 (.fld 1 (.tm 5)),
 rq 3 10 (.load 1 false (.tm 9)),
 rq 4 11 (.bin .eql (.tm 8) (.tm 10)),
 rq 5 12 (.move (.tm 11)),
 ⟨6, (some 13), .fld 0 (.tm 4), (some (12, false)), [], [], false⟩,
 ⟨7, (some 14), .load 1 false (.tm 13), (some (12, false)), [], [], false⟩,
 ⟨8, (some 15), .bin .eql (.tm 14) (ki 3), (some (12, false)), [], [], false⟩,
 ⟨9, (some 16), .move (.tm 15), (some (12, false)), [], [], false⟩,
 ⟨10, (some 17), .fld 0 (.tm 5), (some (16, true)), [], [], false⟩,
 ⟨11, (some 18), .load 1 false (.tm 17), (some (16, true)), [], [], false⟩,
 ⟨12, (some 19), .bin .eql (.tm 18) (ki 3), (some (16, true)), [], [], false⟩,
 ⟨13, (some 20), .pick (.tm 16) (.tm 19) (.kv (.bool false)), (some (12, false)), [], [], false⟩,
 rq 14 21 (.pick (.tm 12) (.kv (.bool true)) (.tm 20))] 15 [3, 4, 5, 21])
 (.cond (.tm 21)
 (.seq (.region [rq 0 6 (.move (.kv (.bool false)))] 1 [6])
 .ret)
 .skip))
 (.seq (.region [rq 0 22 (.fld 0 (.tm 4)),
 rq 1 23 (.load 1 false (.tm 22)),
 rq 2 24 (.bin .neq (.tm 23) (ki 2)),
 rq 3 25 (.move (.tm 24)),
 ⟨4, (some 26), .fld 0 (.tm 5), (some (25, false)), [], [], false⟩,
 ⟨5, (some 27), .load 1 false (.tm 26), (some (25, false)), [], [], false⟩,
 ⟨6, (some 28), .bin .neq (.tm 27) (ki 2), (some (25, false)), [], [], false⟩,
 rq 7 29 (.pick (.tm 25) (.kv (.bool true)) (.tm 28)),
 rq 8 30 (.move (.tm 29)),
 ⟨9, (some 31), .fld 2 (.tm 3), (some (30, false)), [], [], false⟩,
 ⟨10, (some 32), .load 1 false (.tm 31), (some (30, false)), [], [], false⟩,
 ⟨11, (some 33), .fld 1 (.tm 4), (some (30, false)), [], [], false⟩,
 ⟨12, (some 34), .load 1 false (.tm 33), (some (30, false)), [], [], false⟩,
 ⟨13, (some 35), .idx 1 (.tm 32) (.tm 34), (some (30, false)), [], [], false⟩,
 ⟨14, (some 36), .load 1 false (.tm 35), (some (30, false)), [], [], false⟩,
 ⟨15, (some 37), .fld 2 (.tm 4), (some (30, false)), [], [], false⟩,
 ⟨16, (some 38), .load 1 false (.tm 37), (some (30, false)), [], [], false⟩,
 ⟨17, (some 39), .idx 7 (.tm 36) (.tm 38), (some (30, false)), [], [], false⟩,
 ⟨18, (some 40), .load 7 true (.tm 39), (some (30, false)), [], [], false⟩,
 ⟨19, (some 41), .fld 2 (.tm 3), (some (30, false)), [], [], false⟩,
 ⟨20, (some 42), .load 1 false (.tm 41), (some (30, false)), [], [], false⟩,
 ⟨21, (some 43), .fld 1 (.tm 5), (some (30, false)), [], [], false⟩,
 ⟨22, (some 44), .load 1 false (.tm 43), (some (30, false)), [], [], false⟩,
 ⟨23, (some 45), .idx 1 (.tm 42) (.tm 44), (some (30, false)), [], [], false⟩,
 ⟨24, (some 46), .load 1 false (.tm 45), (some (30, false)), [], [], false⟩,
 ⟨25, (some 47), .fld 2 (.tm 5), (some (30, false)), [], [], false⟩,
 ⟨26, (some 48), .load 1 false (.tm 47), (some (30, false)), [], [], false⟩,
 ⟨27, (some 49), .idx 7 (.tm 46) (.tm 48), (some (30, false)), [], [], false⟩,
 ⟨28, (some 50), .load 7 true (.tm 49), (some (30, false)), [], [], false⟩,
 ⟨29, (some 51), .call n_spec_l9Meet [(.tm 40), (.tm 50)], (some (30, false)), [], [], false⟩,
 ⟨30, (some 52), .un .not (.tm 51), (some (30, false)), [], [], false⟩,
 rq 31 53 (.pick (.tm 30) (.kv (.bool true)) (.tm 52)),
 rq 32 6 (.move (.tm 53))] 33 [6])
 .ret)))
def ct_spec_l9Apart : List Cert := [⟨[], [3, 4, 5]⟩, ⟨[], [3, 4, 5, 21]⟩, ⟨[], [6]⟩, ⟨[cz 0, cz 1, cz 2, cz 3, cz 4, cz 5, cz 6, cz 7, cz 8, cz 9, cz 10, cz 11, cz 12, cz 13, cz 14, cz 15, cz 16, cz 17, cz 18, cz 19, cz 20, cz 21, cz 22, cz 23, cz 24, cz 25, cz 26, cz 27, cz 28, cz 29, cz 30, cz 31, cz 32], [6]⟩]
def rs_spec_l9Apart : List ResV := [.tm 6]
theorem ok_spec_l9Apart : compF Tryz.prog Tryz.f52 ct_spec_l9Apart = some (ac_spec_l9Apart, rs_spec_l9Apart) := by kernel_rfl
theorem en_spec_l9Apart : EnTy Tryz.prog n_spec_l9Apart Tryz.f52 ac_spec_l9Apart rs_spec_l9Apart :=
  EnTy.mk Tryz.func52 (by kernel_rfl) ok_spec_l9Apart

/- loop.example/crossyard/spec.l9Meet -/
def ac_spec_l9Meet : AC :=
 (.seq (.region [rq 0 2 (.box true (.tm 0)),
 rq 1 3 (.box true (.tm 1)),
 rq 2 4 (.move (.kv (.bool false)))] 3 [2, 3])
 (.seq (.region [rq 0 9 (.fld 2 (.tm 2)),
 rq 1 10 (.load 1 false (.tm 9)),
 rq 2 11 (.fld 3 (.tm 2)),
 rq 3 12 (.load 1 false (.tm 11)),
 rq 4 13 (.fld 4 (.tm 2)),
 rq 5 14 (.load 1 false (.tm 13)),
 rq 6 15 (.call n_spec_AdrBurst [(.tm 10), (.tm 12), (.tm 14)]),
 rq 7 5 (.move (.tm 15))] 8 [3, 5])
 (.seq (.region [rq 0 16 (.fld 2 (.tm 3)),
 rq 1 17 (.load 1 false (.tm 16)),
 rq 2 18 (.fld 3 (.tm 3)),
 rq 3 19 (.load 1 false (.tm 18)),
 rq 4 20 (.fld 4 (.tm 3)),
 rq 5 21 (.load 1 false (.tm 20)),
 rq 6 22 (.call n_spec_AdrBurst [(.tm 17), (.tm 19), (.tm 21)]),
 rq 7 6 (.move (.tm 22))] 8 [5, 6])
 (.seq (.seq (.region [rq 0 7 (.move (ki 0))] 1 [5, 6, 7])
 (.block 0
 (.loop
 (.seq (.seq (.region [rq 0 23 (.move (.tm 7)),
 rq 1 24 (.move (.tm 5)),
 rq 2 25 (.len false (.tm 24)),
 rq 3 26 (.bin .lss (.tm 23) (.tm 25))] 4 [5, 6, 7, 26])
 (.cond (.tm 26)
 .skip
 (.exit 0)))
 (.seq (.block 1
 (.seq (.region [rq 0 8 (.move (ki 0))] 1 [5, 6, 7, 8])
 (.block 2
 (.loop
 (.seq (.seq (.region [rq 0 29 (.move (.tm 8)),
 rq 1 30 (.move (.tm 6)),
 rq 2 31 (.len false (.tm 30)),
 rq 3 32 (.bin .lss (.tm 29) (.tm 31))] 4 [5, 6, 7, 8, 32])
 (.cond (.tm 32)
 .skip
 (.exit 2)))
 (.seq (.block 3
 (.seq (.region [rq 0 35 (.move (.tm 5)),
 rq 1 36 (.move (.tm 7)),
 rq 2 37 (.idx 1 (.tm 35) (.tm 36)),
 rq 3 38 (.load 1 false (.tm 37)),
 rq 4 39 (.move (.tm 6)),
 rq 5 40 (.move (.tm 8)),
 rq 6 41 (.idx 1 (.tm 39) (.tm 40)),
 rq 7 42 (.load 1 false (.tm 41)),
 rq 8 43 (.bin .eql (.tm 38) (.tm 42))] 9 [5, 6, 7, 8, 43])
 (.cond (.tm 43)
 (.seq (.region [rq 0 4 (.move (.kv (.bool true)))] 1 [4])
 .ret)
 .skip)))
 (.region [rq 0 33 (.move (.tm 8)),
 rq 1 34 (.bin .add (.tm 33) (ki 1)),
 rq 2 8 (.move (.tm 34))] 3 [5, 6, 7, 8])))))))
 (.region [rq 0 27 (.move (.tm 7)),
 rq 1 28 (.bin .add (.tm 27) (ki 1)),
 rq 2 7 (.move (.tm 28))] 3 [5, 6, 7]))))))
 (.seq (.region [rq 0 4 (.move (.kv (.bool false)))] 1 [4])
 .ret)))))
def ct_spec_l9Meet : List Cert := [⟨[], [2, 3]⟩, ⟨[], [3, 5]⟩, ⟨[], [5, 6]⟩, ⟨[], [5, 6, 7]⟩, ⟨[], [5, 6, 7, 26]⟩, ⟨[], [5, 6, 7, 8]⟩, ⟨[], [5, 6, 7, 8, 32]⟩, ⟨[cz 0, cz 1, cz 2, cz 3, cz 4, cz 5, cz 6, cz 7, cz 8], [5, 6, 7, 8, 43]⟩, ⟨[], [4]⟩, ⟨[], [5, 6, 7, 8]⟩, ⟨[], [5, 6, 7]⟩, ⟨[], [4]⟩]
def rs_spec_l9Meet : List ResV := [.tm 4]
theorem ok_spec_l9Meet : compF Tryz.prog Tryz.f87 ct_spec_l9Meet = some (ac_spec_l9Meet, rs_spec_l9Meet) := by kernel_rfl
theorem en_spec_l9Meet : EnTy Tryz.prog n_spec_l9Meet Tryz.f87 ac_spec_l9Meet rs_spec_l9Meet :=
  EnTy.mk Tryz.func87 (by kernel_rfl) ok_spec_l9Meet

end Go.Proofs.YtiimjokpcbapeaaGreat
