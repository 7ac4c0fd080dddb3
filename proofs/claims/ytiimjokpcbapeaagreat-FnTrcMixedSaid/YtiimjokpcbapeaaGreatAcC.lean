/- The code of the functions with types resolved, checked against the program. Printed by a program (gen.py). -/
import Derived.Test.YtiimjokpcbapeaaGreatAcN
namespace Go.Proofs.YtiimjokpcbapeaaGreat
open Go Go.AM
set_option maxRecDepth 100000

/- loop.example/crossyard/spec.l20Req -/
def ac_spec_l20Req : AC :=
 (.seq (.region [rq 0 4 (.alloc [(.v (.int .i64 0)), (.v (.int .i64 0)), (.v (.int .i64 0)), (.v (.int .i64 0)), (.v (.bool false)), (.osl 0 0 0 0 0), (.osl 0 0 0 0 0)])] 1 [0, 1, 4])
 (.seq (.region [rq 0 7 (.move (.tm 0)),
 rq 2 9 (.move (.tm 0)),
 rq 5 12 (.move (.tm 0)),
 rq 7 14 (.bslice 1 4 [(.v (.int .i64 0))] [(0, 1, (ki 1)), (1, 1, (ki 1)), (2, 1, (ki 2)), (3, 1, (ki 4))]),
 rq 8 15 (.move (.tm 0)),
 rq 12 19 (.move (.tm 0)),
 rq 16 5 (.alloc [(.v (.int .i64 0)), (.v (.int .i64 0)), (.v (.int .i64 0)), (.v (.int .i64 0)), (.v (.bool false)), (.osl 0 0 0 0 0), (.osl 0 0 0 0 0)]),
 ⟨1, (some 8), .call n_spec_l20Rd_pick [(.tm 7), (ki 2)], none, [7, 16], [], false⟩,
 ⟨3, (some 10), .call n_spec_l20Rd_pick [(.tm 9), (ki 4)], none, [7, 16], [], false⟩,
 rq 4 11 (.bin .add (ki 1) (.tm 10)),
 ⟨6, (some 13), .call n_spec_l20Addr [(.tm 12)], none, [7, 16], [], false⟩,
 ⟨9, (some 16), .call n_spec_l20Rd_pick [(.tm 15), (ki 4)], none, [7, 16], [], false⟩,
 rq 10 17 (.idx 1 (.tm 14) (.tm 16)),
 ⟨11, (some 18), .load 1 false (.tm 17), none, [16], [], true⟩,
 ⟨13, (some 20), .call n_spec_l20Rd_pick [(.tm 19), (ki 3)], none, [7, 16], [11], false⟩,
 rq 14 21 (.bin .eql (.tm 20) (ki 0)),
 rq 15 22 (.build [(.v (.int .i64 0)), (.v (.int .i64 0)), (.v (.int .i64 0)), (.v (.int .i64 0)), (.v (.bool false)), (.osl 0 0 0 0 0), (.osl 0 0 0 0 0)] [(0, 1, (.tm 8)), (1, 1, (.tm 11)), (2, 1, (.tm 13)), (3, 1, (.tm 18)), (4, 1, (.tm 21))]),
 rn 17 (.store 7 true (.tm 5) (.tm 22))] 18 [0, 1, 4, 5])
 (.seq (.seq (.region [rq 0 23 (.fld 1 (.tm 5)),
 rq 1 24 (.load 1 false (.tm 23)),
 rq 2 25 (.bin .geq (.tm 24) (ki 3))] 3 [0, 1, 4, 5, 25])
 (.cond (.tm 25)
 (.seq (.region [rq 0 26 (.fld 3 (.tm 5)),
 rn 1 (.store 1 false (.tm 26) (ki 1))] 2 [0, 1, 4, 5])
 (.region [rq 0 27 (.bslice 1 4 [(.v (.int .i64 0))] [(0, 1, (ki 0)), (1, 1, (ki 1)), (2, 1, (ki 16)), (3, 1, (ki 32))]),
 rq 1 28 (.move (.tm 0)),
 rq 2 29 (.call n_spec_l20Rd_pick [(.tm 28), (ki 4)]),
 rq 3 30 (.idx 1 (.tm 27) (.tm 29)),
 rq 4 31 (.load 1 false (.tm 30)),
 rq 5 32 (.fld 2 (.tm 5)),
 rn 6 (.store 1 false (.tm 32) (.tm 31))] 7 [0, 1, 4, 5]))
 .skip))
 (.seq (.seq (.region [rq 0 33 (.fld 4 (.tm 5)),
 rq 1 34 (.load 1 false (.tm 33)),
 rq 2 35 (.un .not (.tm 34)),
 rq 3 36 (.move (.tm 35)),
 ⟨4, (some 37), .fld 2 (.tm 5), (some (36, true)), [], [], false⟩,
 ⟨5, (some 38), .load 1 false (.tm 37), (some (36, true)), [], [], false⟩,
 ⟨6, (some 39), .fld 3 (.tm 5), (some (36, true)), [], [], false⟩,
 ⟨7, (some 40), .load 1 false (.tm 39), (some (36, true)), [], [], false⟩,
 ⟨8, (some 41), .bin .add (.tm 38) (.tm 40), (some (36, true)), [], [], false⟩,
 ⟨9, (some 42), .bin .sub (.tm 41) (ki 1), (some (36, true)), [], [], false⟩,
 ⟨10, (some 43), .bin .gtr (.tm 42) (ki 63), (some (36, true)), [], [], false⟩,
 rq 11 44 (.pick (.tm 36) (.tm 43) (.kv (.bool false)))] 12 [0, 1, 4, 5, 44])
 (.cond (.tm 44)
 (.region [rq 0 45 (.fld 3 (.tm 5)),
 rq 1 46 (.load 1 false (.tm 45)),
 rq 2 47 (.bin .sub (ki 63) (.tm 46)),
 rq 3 48 (.bin .add (.tm 47) (ki 1)),
 rq 4 49 (.fld 2 (.tm 5)),
 rn 5 (.store 1 false (.tm 49) (.tm 48))] 6 [0, 1, 4, 5])
 .skip))
 (.seq (.seq (.region [rq 0 50 (.fld 1 (.tm 5)),
 rq 1 51 (.load 1 false (.tm 50)),
 rq 2 52 (.bin .eql (.tm 51) (ki 2)),
 rq 3 53 (.move (.tm 52)),
 ⟨4, (some 54), .fld 1 (.tm 5), (some (53, false)), [], [], false⟩,
 ⟨5, (some 55), .load 1 false (.tm 54), (some (53, false)), [], [], false⟩,
 ⟨6, (some 56), .bin .eql (.tm 55) (ki 4), (some (53, false)), [], [], false⟩,
 rq 7 57 (.pick (.tm 53) (.kv (.bool true)) (.tm 56))] 8 [0, 1, 4, 5, 57])
 (.cond (.tm 57)
 (.seq (.region [rq 0 6 (.move (ki 0))] 1 [0, 1, 4, 5, 6])
 (.block 0
 (.loop
 (.seq (.seq (.region [rq 0 58 (.move (.tm 6)),
 rq 1 59 (.fld 3 (.tm 5)),
 rq 2 60 (.load 1 false (.tm 59)),
 rq 3 61 (.bin .lss (.tm 58) (.tm 60))] 4 [0, 1, 4, 5, 6, 61])
 (.cond (.tm 61)
 .skip
 (.exit 0)))
 (.seq (.block 1
 (.seq (.region [rq 0 64 (.fld 5 (.tm 5)),
 ⟨1, (some 65), .load 1 false (.tm 64), none, [7, 12], [], true⟩,
 rq 2 66 (.move (.tm 0)),
 rq 5 69 (.move (.tm 0)),
 rq 8 72 (.move (.tm 0)),
 ⟨3, (some 67), .call n_spec_l20Rd_pick [(.tm 66), (ki 256)], none, [], [1], false⟩,
 rq 4 68 (.bin .mul (.tm 67) (ki 257)),
 ⟨6, (some 70), .call n_spec_l20Rd_pick [(.tm 69), (ki 10)], none, [], [1], false⟩,
 rq 7 71 (.bslice 1 4 [(.v (.int .i64 0))] [(0, 1, (.tm 68)), (1, 1, (.tm 70)), (2, 1, (ki 65535)), (3, 1, (ki 0))]),
 ⟨9, (some 73), .call n_spec_l20Rd_pick [(.tm 72), (ki 4)], none, [7], [1], false⟩,
 rq 10 74 (.idx 1 (.tm 71) (.tm 73)),
 rq 11 75 (.load 1 false (.tm 74)),
 rq 12 76 (.bslice 1 1 [(.v (.int .i64 0))] [(0, 1, (.tm 75))]),
 rq 13 77 (.append 1 (.tm 65) (.tm 76)),
 rq 14 78 (.fld 5 (.tm 5)),
 rn 15 (.store 1 false (.tm 78) (.tm 77))] 16 [0, 1, 4, 5, 6])
 (.region [rq 0 79 (.fld 6 (.tm 5)),
 ⟨1, (some 80), .load 1 false (.tm 79), none, [2, 7], [], true⟩,
 rq 2 81 (.bslice 1 5 [(.v (.int .i64 0))] [(0, 1, (ki 3)), (1, 1, (ki 3)), (2, 1, (ki 1)), (3, 1, (ki 2)), (4, 1, (ki 0))]),
 rq 3 82 (.move (.tm 0)),
 ⟨4, (some 83), .call n_spec_l20Rd_pick [(.tm 82), (ki 5)], none, [2], [1], false⟩,
 rq 5 84 (.idx 1 (.tm 81) (.tm 83)),
 rq 6 85 (.load 1 false (.tm 84)),
 rq 7 86 (.bslice 1 1 [(.v (.int .i64 0))] [(0, 1, (.tm 85))]),
 rq 8 87 (.append 1 (.tm 80) (.tm 86)),
 rq 9 88 (.fld 6 (.tm 5)),
 rn 10 (.store 1 false (.tm 88) (.tm 87))] 11 [0, 1, 4, 5, 6])))
 (.region [rq 0 62 (.move (.tm 6)),
 rq 1 63 (.bin .add (.tm 62) (ki 1)),
 rq 2 6 (.move (.tm 63))] 3 [0, 1, 4, 5, 6]))))))
 .skip))
 (.seq (.seq (.region [rq 0 89 (.move (.tm 0)),
 rq 1 90 (.move (.tm 1)),
 rq 2 91 (.call n_spec_l20Rd_odd [(.tm 89), (.tm 90)])] 3 [0, 4, 5, 91])
 (.cond (.tm 91)
 (.seq (.region [rq 0 92 (.move (.tm 0)),
 rq 1 93 (.call n_spec_l20Rd_pick [(.tm 92), (ki 7)])] 2 [0, 4, 5, 93])
 (.block 2
 (.seq (.region [rq 0 107 (.bin .eql (.tm 93) (ki 0)),
 rq 1 106 (.move (.tm 107))] 2 [0, 4, 5, 93, 106])
 (.cond (.tm 106)
 (.region [rq 0 108 (.bslice 1 2 [(.v (.int .i64 0))] [(0, 1, (.kv (.int .i64 (-1)))), (1, 1, (ki 2))]),
 rq 1 109 (.move (.tm 0)),
 rq 2 110 (.call n_spec_l20Rd_pick [(.tm 109), (ki 2)]),
 rq 3 111 (.idx 1 (.tm 108) (.tm 110)),
 rq 4 112 (.load 1 false (.tm 111)),
 rq 5 113 (.fld 0 (.tm 5)),
 rn 6 (.store 1 false (.tm 113) (.tm 112))] 7 [4, 5])
 (.seq (.region [rq 0 115 (.bin .eql (.tm 93) (ki 1)),
 rq 1 114 (.move (.tm 115))] 2 [0, 4, 5, 93, 114])
 (.cond (.tm 114)
 (.region [rq 0 116 (.bslice 1 2 [(.v (.int .i64 0))] [(0, 1, (ki 0)), (1, 1, (ki 5))]),
 rq 1 117 (.move (.tm 0)),
 rq 2 118 (.call n_spec_l20Rd_pick [(.tm 117), (ki 2)]),
 rq 3 119 (.idx 1 (.tm 116) (.tm 118)),
 rq 4 120 (.load 1 false (.tm 119)),
 rq 5 121 (.fld 1 (.tm 5)),
 rn 6 (.store 1 false (.tm 121) (.tm 120))] 7 [4, 5])
 (.seq (.region [rq 0 123 (.bin .eql (.tm 93) (ki 2)),
 rq 1 122 (.move (.tm 123))] 2 [0, 4, 5, 93, 122])
 (.cond (.tm 122)
 (.region [rq 0 124 (.bslice 1 3 [(.v (.int .i64 0))] [(0, 1, (.kv (.int .i64 (-1)))), (1, 1, (ki 64)), (2, 1, (ki 63))]),
 rq 1 125 (.move (.tm 0)),
 rq 2 126 (.call n_spec_l20Rd_pick [(.tm 125), (ki 3)]),
 rq 3 127 (.idx 1 (.tm 124) (.tm 126)),
 rq 4 128 (.load 1 false (.tm 127)),
 rq 5 129 (.fld 2 (.tm 5)),
 rn 6 (.store 1 false (.tm 129) (.tm 128))] 7 [4, 5])
 (.seq (.region [rq 0 131 (.bin .eql (.tm 93) (ki 3)),
 rq 1 130 (.move (.tm 131))] 2 [0, 4, 5, 93, 130])
 (.cond (.tm 130)
 (.region [rq 0 132 (.bslice 1 4 [(.v (.int .i64 0))] [(0, 1, (ki 0)), (1, 1, (ki 3)), (2, 1, (ki 8)), (3, 1, (ki 4))]),
 rq 1 133 (.move (.tm 0)),
 rq 2 134 (.call n_spec_l20Rd_pick [(.tm 133), (ki 4)]),
 rq 3 135 (.idx 1 (.tm 132) (.tm 134)),
 rq 4 136 (.load 1 false (.tm 135)),
 rq 5 137 (.fld 3 (.tm 5)),
 rn 6 (.store 1 false (.tm 137) (.tm 136))] 7 [4, 5])
 (.seq (.region [rq 0 139 (.bin .eql (.tm 93) (ki 4)),
 rq 1 138 (.move (.tm 139))] 2 [0, 4, 5, 93, 138])
 (.cond (.tm 138)
 (.region [rq 0 140 (.fld 5 (.tm 5)),
 rq 1 141 (.load 1 false (.tm 140)),
 rq 2 142 (.bslice 1 1 [(.v (.int .i64 0))] [(0, 1, (ki 5))]),
 rq 3 143 (.append 1 (.tm 141) (.tm 142)),
 rq 4 144 (.fld 5 (.tm 5)),
 rn 5 (.store 1 false (.tm 144) (.tm 143))] 6 [4, 5])
 (.seq (.region [rq 0 146 (.bin .eql (.tm 93) (ki 5)),
 rq 1 145 (.move (.tm 146))] 2 [0, 4, 5, 145])
 (.cond (.tm 145)
 (.region [rq 0 147 (.fld 6 (.tm 5)),
 rq 1 148 (.load 1 false (.tm 147)),
 rq 2 149 (.bslice 1 1 [(.v (.int .i64 0))] [(0, 1, (ki 1))]),
 rq 3 150 (.append 1 (.tm 148) (.tm 149)),
 rq 4 151 (.fld 6 (.tm 5)),
 rn 5 (.store 1 false (.tm 151) (.tm 150))] 6 [4, 5])
 (.seq (.region [rq 0 94 (.fld 5 (.tm 5)),
 rq 1 95 (.load 1 false (.tm 94)),
 rq 2 96 (.len false (.tm 95)),
 rq 3 97 (.bin .gtr (.tm 96) (ki 0))] 4 [0, 4, 5, 97])
 (.cond (.tm 97)
 (.region [rq 0 98 (.fld 5 (.tm 5)),
 ⟨1, (some 99), .load 1 false (.tm 98), none, [2], [], true⟩,
 rq 2 100 (.bslice 1 2 [(.v (.int .i64 0))] [(0, 1, (.kv (.int .i64 (-1)))), (1, 1, (ki 65536))]),
 rq 3 101 (.move (.tm 0)),
 ⟨4, (some 102), .call n_spec_l20Rd_pick [(.tm 101), (ki 2)], none, [2], [1], false⟩,
 rq 5 103 (.idx 1 (.tm 100) (.tm 102)),
 rq 6 104 (.load 1 false (.tm 103)),
 rq 7 105 (.idx 1 (.tm 99) (ki 0)),
 rn 8 (.store 1 false (.tm 105) (.tm 104))] 9 [4, 5])
 .skip))))))))))))))))
 .skip))
 (.seq (.region [rq 0 152 (.load 7 true (.tm 5)),
 rn 1 (.store 7 true (.tm 4) (.tm 152))] 2 [4])
 .ret)))))))
def ct_spec_l20Req : List Cert := [⟨[], [0, 1, 4]⟩, ⟨[cz 0, cz 2, cz 5, cz 7, cz 8, cz 12, cz 16, (1, [7, 16], [], false), (3, [7, 16], [], false), cz 4, (6, [7, 16], [], false), (9, [7, 16], [], false), cz 10, (11, [16], [], true), (13, [7, 16], [11], false), cz 14, cz 15, cz 17], [0, 1, 4, 5]⟩, ⟨[], [0, 1, 4, 5, 25]⟩, ⟨[], [0, 1, 4, 5]⟩, ⟨[], [0, 1, 4, 5]⟩, ⟨[], [0, 1, 4, 5, 44]⟩, ⟨[], [0, 1, 4, 5]⟩, ⟨[], [0, 1, 4, 5, 57]⟩, ⟨[], [0, 1, 4, 5, 6]⟩, ⟨[], [0, 1, 4, 5, 6, 61]⟩, ⟨[cz 0, (1, [7, 12], [], true), cz 2, cz 5, cz 8, (3, [], [1], false), cz 4, (6, [], [1], false), cz 7, (9, [7], [1], false), cz 10, cz 11, cz 12, cz 13, cz 14, cz 15], [0, 1, 4, 5, 6]⟩, ⟨[cz 0, (1, [2, 7], [], true), cz 2, cz 3, (4, [2], [1], false), cz 5, cz 6, cz 7, cz 8, cz 9, cz 10], [0, 1, 4, 5, 6]⟩, ⟨[], [0, 1, 4, 5, 6]⟩, ⟨[], [0, 4, 5, 91]⟩, ⟨[], [0, 4, 5, 93]⟩, ⟨[], [0, 4, 5, 93, 106]⟩, ⟨[], [4, 5]⟩, ⟨[], [0, 4, 5, 93, 114]⟩, ⟨[], [4, 5]⟩, ⟨[], [0, 4, 5, 93, 122]⟩, ⟨[], [4, 5]⟩, ⟨[], [0, 4, 5, 93, 130]⟩, ⟨[], [4, 5]⟩, ⟨[], [0, 4, 5, 93, 138]⟩, ⟨[], [4, 5]⟩, ⟨[], [0, 4, 5, 145]⟩, ⟨[], [4, 5]⟩, ⟨[], [0, 4, 5, 97]⟩, ⟨[cz 0, (1, [2], [], true), cz 2, cz 3, (4, [2], [1], false), cz 5, cz 6, cz 7, cz 8], [4, 5]⟩, ⟨[], [4]⟩]
def rs_spec_l20Req : List ResV := [.cell 4 7 true]
theorem ok_spec_l20Req : compF Tryz.prog Tryz.f91 ct_spec_l20Req = some (ac_spec_l20Req, rs_spec_l20Req) := by kernel_rfl
theorem en_spec_l20Req : EnTy Tryz.prog n_spec_l20Req Tryz.f91 ac_spec_l20Req rs_spec_l20Req :=
  EnTy.mk Tryz.func91 (by kernel_rfl) ok_spec_l20Req

/- loop.example/crossyard/spec.AtmNew -/
def ac_spec_AtmNew : AC :=
 (.seq (.region [rq 0 0 (.alloc [(.osl 0 0 0 0 0), (.osl 0 0 0 0 0)])] 1 [0])
 (.seq (.region [rq 0 3 (.call n_spec_MemNew []),
 rq 1 4 (.build [(.osl 0 0 0 0 0), (.osl 0 0 0 0 0)] [(0, 1, (.tm 3))]),
 rq 2 1 (.alloc [(.osl 0 0 0 0 0), (.osl 0 0 0 0 0)]),
 rn 3 (.store 2 true (.tm 1) (.tm 4))] 4 [0, 1])
 (.seq (.seq (.region [rq 0 2 (.move (ki 0))] 1 [0, 1, 2])
 (.block 0
 (.loop
 (.seq (.seq (.region [rq 0 5 (.move (.tm 2)),
 rq 1 6 (.bin .lss (.tm 5) (ki 6))] 2 [0, 1, 2, 6])
 (.cond (.tm 6)
 .skip
 (.exit 0)))
 (.seq (.block 1
 (.region [rq 0 9 (.fld 1 (.tm 1)),
 rq 1 10 (.load 1 false (.tm 9)),
 rq 2 11 (.bslice 1 1 [(.v (.int .i64 0))] [(0, 1, (.kv (.int .i64 (-1))))]),
 rq 3 12 (.append 1 (.tm 10) (.tm 11)),
 rq 4 13 (.fld 1 (.tm 1)),
 rn 5 (.store 1 false (.tm 13) (.tm 12))] 6 [0, 1, 2]))
 (.region [rq 0 7 (.move (.tm 2)),
 rq 1 8 (.bin .add (.tm 7) (ki 1)),
 rq 2 2 (.move (.tm 8))] 3 [0, 1, 2]))))))
 (.seq (.region [rq 0 14 (.load 2 true (.tm 1)),
 rn 1 (.store 2 true (.tm 0) (.tm 14))] 2 [0])
 .ret))))
def ct_spec_AtmNew : List Cert := [⟨[], [0]⟩, ⟨[], [0, 1]⟩, ⟨[], [0, 1, 2]⟩, ⟨[], [0, 1, 2, 6]⟩, ⟨[], [0, 1, 2]⟩, ⟨[], [0, 1, 2]⟩, ⟨[], [0]⟩]
def rs_spec_AtmNew : List ResV := [.cell 0 2 true]
theorem ok_spec_AtmNew : compF Tryz.prog Tryz.f92 ct_spec_AtmNew = some (ac_spec_AtmNew, rs_spec_AtmNew) := by kernel_rfl
theorem en_spec_AtmNew : EnTy Tryz.prog n_spec_AtmNew Tryz.f92 ac_spec_AtmNew rs_spec_AtmNew :=
  EnTy.mk Tryz.func92 (by kernel_rfl) ok_spec_AtmNew

/- loop.example/crossyard/spec.l1In -/
def ac_spec_l1In : AC :=
 (.seq (.region [rq 0 6 (.move (.kv (.bool false)))] 1 [0, 1, 2])
 (.seq (.region [rq 0 7 (.move (.tm 0)),
 rq 1 8 (.move (.tm 1)),
 rq 2 9 (.bin .geq (.tm 7) (.tm 8)),
 rq 3 10 (.move (.tm 9)),
 ⟨4, (some 11), .move (.tm 0), (some (10, true)), [], [], false⟩,
 ⟨5, (some 12), .move (.tm 2), (some (10, true)), [], [], false⟩,
 ⟨6, (some 13), .bin .leq (.tm 11) (.tm 12), (some (10, true)), [], [], false⟩,
 rq 7 14 (.pick (.tm 10) (.tm 13) (.kv (.bool false))),
 rq 8 6 (.move (.tm 14))] 9 [6])
 .ret))
def ct_spec_l1In : List Cert := [⟨[], [0, 1, 2]⟩, ⟨[], [6]⟩]
def rs_spec_l1In : List ResV := [.tm 6]
theorem ok_spec_l1In : compF Tryz.prog Tryz.f93 ct_spec_l1In = some (ac_spec_l1In, rs_spec_l1In) := by kernel_rfl
theorem en_spec_l1In : EnTy Tryz.prog n_spec_l1In Tryz.f93 ac_spec_l1In rs_spec_l1In :=
  EnTy.mk Tryz.func93 (by kernel_rfl) ok_spec_l1In

/- loop.example/crossyard/spec.l5Put -/
def ac_spec_l5Put : AC :=
 (.seq (.region [rq 0 3 (.box true (.tm 1)),
 rq 1 4 (.move (.kv (.slice none 0 0)))] 2 [0, 3])
 (.seq (.region [rq 0 8 (.bslice 5 0 [(.v (.int .i64 0)), (.v (.int .i64 0)), (.v (.int .i64 0)), (.v (.int .i64 0)), (.osl 0 0 0 0 0)] []),
 rq 1 5 (.move (.tm 8))] 2 [0, 3, 5])
 (.seq (.region [rq 0 6 (.move (.kv (.bool false)))] 1 [0, 3, 5, 6])
 (.seq (.seq (.region [rq 0 7 (.move (ki 0))] 1 [0, 3, 5, 6, 7])
 (.block 0
 (.loop
 (.seq (.seq (.region [rq 0 9 (.move (.tm 7)),
 rq 1 10 (.move (.tm 0)),
 rq 2 11 (.len false (.tm 10)),
 rq 3 12 (.bin .lss (.tm 9) (.tm 11))] 4 [0, 3, 5, 6, 7, 12])
 (.cond (.tm 12)
 .skip
 (.exit 0)))
 (.seq (.block 1
 (.seq (.seq (.region [rq 0 15 (.move (.tm 6)),
 rq 1 16 (.un .not (.tm 15)),
 rq 2 17 (.move (.tm 16)),
 ⟨3, (some 18), .load 5 true (.tm 3), (some (17, true)), [], [], false⟩,
 ⟨4, (some 19), .move (.tm 0), (some (17, true)), [], [], false⟩,
 ⟨5, (some 20), .move (.tm 7), (some (17, true)), [], [], false⟩,
 ⟨6, (some 21), .idx 5 (.tm 19) (.tm 20), (some (17, true)), [], [], false⟩,
 ⟨7, (some 22), .load 5 true (.tm 21), (some (17, true)), [], [], false⟩,
 ⟨8, (some 23), .call n_spec_l5Before [(.tm 18), (.tm 22)], (some (17, true)), [], [], false⟩,
 rq 9 24 (.pick (.tm 17) (.tm 23) (.kv (.bool false)))] 10 [0, 3, 5, 6, 7, 24])
 (.cond (.tm 24)
 (.seq (.region [rq 0 25 (.move (.tm 5)),
 rq 1 26 (.load 5 true (.tm 3)),
 rq 2 27 (.bslice 5 1 [(.v (.int .i64 0)), (.v (.int .i64 0)), (.v (.int .i64 0)), (.v (.int .i64 0)), (.osl 0 0 0 0 0)] [(0, 5, (.tm 26))]),
 rq 3 28 (.append 5 (.tm 25) (.tm 27)),
 rq 4 5 (.move (.tm 28))] 5 [0, 3, 5, 7])
 (.region [rq 0 6 (.move (.kv (.bool true)))] 1 [0, 3, 5, 6, 7]))
 .skip))
 (.region [rq 0 29 (.move (.tm 5)),
 rq 1 30 (.move (.tm 0)),
 rq 2 31 (.move (.tm 7)),
 rq 3 32 (.idx 5 (.tm 30) (.tm 31)),
 rq 4 33 (.load 5 true (.tm 32)),
 rq 5 34 (.bslice 5 1 [(.v (.int .i64 0)), (.v (.int .i64 0)), (.v (.int .i64 0)), (.v (.int .i64 0)), (.osl 0 0 0 0 0)] [(0, 5, (.tm 33))]),
 rq 6 35 (.append 5 (.tm 29) (.tm 34)),
 rq 7 5 (.move (.tm 35))] 8 [0, 3, 5, 6, 7])))
 (.region [rq 0 13 (.move (.tm 7)),
 rq 1 14 (.bin .add (.tm 13) (ki 1)),
 rq 2 7 (.move (.tm 14))] 3 [0, 3, 5, 6, 7]))))))
 (.seq (.seq (.region [rq 0 36 (.move (.tm 6)),
 rq 1 37 (.un .not (.tm 36))] 2 [3, 5, 37])
 (.cond (.tm 37)
 (.region [rq 0 38 (.move (.tm 5)),
 rq 1 39 (.load 5 true (.tm 3)),
 rq 2 40 (.bslice 5 1 [(.v (.int .i64 0)), (.v (.int .i64 0)), (.v (.int .i64 0)), (.v (.int .i64 0)), (.osl 0 0 0 0 0)] [(0, 5, (.tm 39))]),
 rq 3 41 (.append 5 (.tm 38) (.tm 40)),
 rq 4 5 (.move (.tm 41))] 5 [5])
 .skip))
 (.seq (.region [rq 0 42 (.move (.tm 5)),
 rq 1 4 (.move (.tm 42))] 2 [4])
 .ret))))))
def ct_spec_l5Put : List Cert := [⟨[], [0, 3]⟩, ⟨[], [0, 3, 5]⟩, ⟨[], [0, 3, 5, 6]⟩, ⟨[], [0, 3, 5, 6, 7]⟩, ⟨[], [0, 3, 5, 6, 7, 12]⟩, ⟨[cz 0, cz 1, cz 2, cz 3, cz 4, cz 5, cz 6, cz 7, cz 8, cz 9], [0, 3, 5, 6, 7, 24]⟩, ⟨[], [0, 3, 5, 7]⟩, ⟨[], [0, 3, 5, 6, 7]⟩, ⟨[], [0, 3, 5, 6, 7]⟩, ⟨[], [0, 3, 5, 6, 7]⟩, ⟨[], [3, 5, 37]⟩, ⟨[], [5]⟩, ⟨[], [4]⟩]
def rs_spec_l5Put : List ResV := [.tm 4]
theorem ok_spec_l5Put : compF Tryz.prog Tryz.f94 ct_spec_l5Put = some (ac_spec_l5Put, rs_spec_l5Put) := by kernel_rfl
theorem en_spec_l5Put : EnTy Tryz.prog n_spec_l5Put Tryz.f94 ac_spec_l5Put rs_spec_l5Put :=
  EnTy.mk Tryz.func94 (by kernel_rfl) ok_spec_l5Put

/- loop.example/crossyard/spec.l5At -/
def ac_spec_l5At : AC :=
 (.seq (.region [rq 0 6 (.move (ki 0))] 1 [0, 1, 2])
 (.seq (.seq (.region [rq 0 7 (.move (ki 0))] 1 [0, 1, 2, 7])
 (.block 0
 (.loop
 (.seq (.seq (.region [rq 0 8 (.move (.tm 7)),
 rq 1 9 (.move (.tm 0)),
 rq 2 10 (.len false (.tm 9)),
 rq 3 11 (.bin .lss (.tm 8) (.tm 10))] 4 [0, 1, 2, 7, 11])
 (.cond (.tm 11)
 .skip
 (.exit 0)))
 (.seq (.block 1
 (.seq (.region [rq 0 14 (.move (.tm 0)),
 rq 1 15 (.move (.tm 7)),
 rq 2 16 (.idx 5 (.tm 14) (.tm 15)),
 rq 3 17 (.fld 0 (.tm 16)),
 rq 4 18 (.load 1 false (.tm 17)),
 rq 5 19 (.move (.tm 1)),
 rq 6 20 (.bin .eql (.tm 18) (.tm 19)),
 rq 7 21 (.move (.tm 20)),
 ⟨8, (some 22), .move (.tm 0), (some (21, true)), [], [], false⟩,
 ⟨9, (some 23), .move (.tm 7), (some (21, true)), [], [], false⟩,
 ⟨10, (some 24), .idx 5 (.tm 22) (.tm 23), (some (21, true)), [], [], false⟩,
 ⟨11, (some 25), .fld 1 (.tm 24), (some (21, true)), [], [], false⟩,
 ⟨12, (some 26), .load 1 false (.tm 25), (some (21, true)), [], [], false⟩,
 ⟨13, (some 27), .move (.tm 2), (some (21, true)), [], [], false⟩,
 ⟨14, (some 28), .bin .eql (.tm 26) (.tm 27), (some (21, true)), [], [], false⟩,
 rq 15 29 (.pick (.tm 21) (.tm 28) (.kv (.bool false)))] 16 [0, 1, 2, 7, 29])
 (.cond (.tm 29)
 (.seq (.region [rq 0 30 (.move (.tm 7)),
 rq 1 6 (.move (.tm 30))] 2 [6])
 .ret)
 .skip)))
 (.region [rq 0 12 (.move (.tm 7)),
 rq 1 13 (.bin .add (.tm 12) (ki 1)),
 rq 2 7 (.move (.tm 13))] 3 [0, 1, 2, 7]))))))
 (.seq (.region [rq 0 6 (.move (.kv (.int .i64 (-1))))] 1 [6])
 .ret)))
def ct_spec_l5At : List Cert := [⟨[], [0, 1, 2]⟩, ⟨[], [0, 1, 2, 7]⟩, ⟨[], [0, 1, 2, 7, 11]⟩, ⟨[], [0, 1, 2, 7, 29]⟩, ⟨[], [6]⟩, ⟨[], [0, 1, 2, 7]⟩, ⟨[], [6]⟩]
def rs_spec_l5At : List ResV := [.tm 6]
theorem ok_spec_l5At : compF Tryz.prog Tryz.f95 ct_spec_l5At = some (ac_spec_l5At, rs_spec_l5At) := by kernel_rfl
theorem en_spec_l5At : EnTy Tryz.prog n_spec_l5At Tryz.f95 ac_spec_l5At rs_spec_l5At :=
  EnTy.mk Tryz.func95 (by kernel_rfl) ok_spec_l5At

/- loop.example/crossyard/spec.l5First -/
def ac_spec_l5First : AC :=
 (.seq (.region [rq 0 4 (.box true (.tm 0)),
 rq 1 8 (.move (.kv (.bool false)))] 2 [1, 2, 3, 4])
 (.seq (.seq (.region [rq 0 9 (.move (ki 0))] 1 [1, 2, 3, 4, 9])
 (.block 0
 (.loop
 (.seq (.seq (.region [rq 0 11 (.move (.tm 9)),
 rq 1 12 (.move (.tm 1)),
 rq 2 13 (.len false (.tm 12)),
 rq 3 14 (.bin .lss (.tm 11) (.tm 13))] 4 [1, 2, 3, 4, 9, 14])
 (.cond (.tm 14)
 .skip
 (.exit 0)))
 (.seq (.block 1
 (.seq (.region [rq 0 17 (.move (.tm 1)),
 rq 1 18 (.move (.tm 9)),
 rq 2 19 (.idx 5 (.tm 17) (.tm 18)),
 rq 3 20 (.load 5 true (.tm 19)),
 rq 4 10 (.alloc [(.v (.int .i64 0)), (.v (.int .i64 0)), (.v (.int .i64 0)), (.v (.int .i64 0)), (.osl 0 0 0 0 0)]),
 rn 5 (.store 5 true (.tm 10) (.tm 20))] 6 [1, 2, 3, 4, 9, 10])
 (.seq (.region [rq 0 21 (.fld 0 (.tm 10)),
 rq 1 22 (.load 1 false (.tm 21)),
 rq 2 23 (.move (.tm 2)),
 rq 3 24 (.bin .eql (.tm 22) (.tm 23)),
 rq 4 25 (.move (.tm 24)),
 ⟨5, (some 26), .fld 1 (.tm 10), (some (25, true)), [], [], false⟩,
 ⟨6, (some 27), .load 1 false (.tm 26), (some (25, true)), [], [], false⟩,
 ⟨7, (some 28), .move (.tm 3), (some (25, true)), [], [], false⟩,
 ⟨8, (some 29), .bin .lss (.tm 27) (.tm 28), (some (25, true)), [], [], false⟩,
 rq 9 30 (.pick (.tm 25) (.tm 29) (.kv (.bool false))),
 rq 10 31 (.move (.tm 30)),
 ⟨11, (some 32), .fld 2 (.tm 4), (some (31, true)), [], [], false⟩,
 ⟨12, (some 33), .load 1 false (.tm 32), (some (31, true)), [], [], false⟩,
 ⟨13, (some 34), .move (.tm 2), (some (31, true)), [], [], false⟩,
 ⟨14, (some 35), .idx 1 (.tm 33) (.tm 34), (some (31, true)), [], [], false⟩,
 ⟨15, (some 36), .load 1 false (.tm 35), (some (31, true)), [], [], false⟩,
 ⟨16, (some 37), .fld 1 (.tm 10), (some (31, true)), [], [], false⟩,
 ⟨17, (some 38), .load 1 false (.tm 37), (some (31, true)), [], [], false⟩,
 ⟨18, (some 39), .idx 7 (.tm 36) (.tm 38), (some (31, true)), [], [], false⟩,
 ⟨19, (some 40), .fld 0 (.tm 39), (some (31, true)), [], [], false⟩,
 ⟨20, (some 41), .load 1 false (.tm 40), (some (31, true)), [], [], false⟩,
 ⟨21, (some 42), .fld 2 (.tm 4), (some (31, true)), [], [], false⟩,
 ⟨22, (some 43), .load 1 false (.tm 42), (some (31, true)), [], [], false⟩,
 ⟨23, (some 44), .move (.tm 2), (some (31, true)), [], [], false⟩,
 ⟨24, (some 45), .idx 1 (.tm 43) (.tm 44), (some (31, true)), [], [], false⟩,
 ⟨25, (some 46), .load 1 false (.tm 45), (some (31, true)), [], [], false⟩,
 ⟨26, (some 47), .move (.tm 3), (some (31, true)), [], [], false⟩,
 ⟨27, (some 48), .idx 7 (.tm 46) (.tm 47), (some (31, true)), [], [], false⟩,
 ⟨28, (some 49), .fld 0 (.tm 48), (some (31, true)), [], [], false⟩,
 ⟨29, (some 50), .load 1 false (.tm 49), (some (31, true)), [], [], false⟩,
 ⟨30, (some 51), .bin .eql (.tm 41) (.tm 50), (some (31, true)), [], [], false⟩,
 rq 31 52 (.pick (.tm 31) (.tm 51) (.kv (.bool false)))] 32 [1, 2, 3, 4, 9, 52])
 (.cond (.tm 52)
 (.seq (.region [rq 0 8 (.move (.kv (.bool false)))] 1 [8])
 .ret)
 .skip))))
 (.region [rq 0 15 (.move (.tm 9)),
 rq 1 16 (.bin .add (.tm 15) (ki 1)),
 rq 2 9 (.move (.tm 16))] 3 [1, 2, 3, 4, 9]))))))
 (.seq (.region [rq 0 8 (.move (.kv (.bool true)))] 1 [8])
 .ret)))
def ct_spec_l5First : List Cert := [⟨[], [1, 2, 3, 4]⟩, ⟨[], [1, 2, 3, 4, 9]⟩, ⟨[], [1, 2, 3, 4, 9, 14]⟩, ⟨[], [1, 2, 3, 4, 9, 10]⟩, ⟨[cz 0, cz 1, cz 2, cz 3, cz 4, cz 5, cz 6, cz 7, cz 8, cz 9, cz 10, cz 11, cz 12, cz 13, cz 14, cz 15, cz 16, cz 17, cz 18, cz 19, cz 20, cz 21, cz 22, cz 23, cz 24, cz 25, cz 26, cz 27, cz 28, cz 29, cz 30, cz 31], [1, 2, 3, 4, 9, 52]⟩, ⟨[], [8]⟩, ⟨[], [1, 2, 3, 4, 9]⟩, ⟨[], [8]⟩]
def rs_spec_l5First : List ResV := [.tm 8]
theorem ok_spec_l5First : compF Tryz.prog Tryz.f96 ct_spec_l5First = some (ac_spec_l5First, rs_spec_l5First) := by kernel_rfl
theorem en_spec_l5First : EnTy Tryz.prog n_spec_l5First Tryz.f96 ac_spec_l5First rs_spec_l5First :=
  EnTy.mk Tryz.func96 (by kernel_rfl) ok_spec_l5First

/- loop.example/crossyard/spec.l4Do -/
def ac_spec_l4Do : AC :=
 (.seq (.region [rq 0 5 (.box true (.tm 1)),
 rq 1 7 (.box true (.tm 3)),
 rq 2 8 (.alloc [(.osl 0 0 0 0 0), (.osl 0 0 0 0 0)]),
 rq 3 9 (.alloc [(.v (.int .i64 0)), (.v (.int .i64 0)), (.osl 0 0 0 0 0)])] 4 [0, 2, 5, 7, 8, 9])
 (.seq (.region [rq 0 14 (.fld 2 (.tm 7)),
 rq 1 15 (.load 1 false (.tm 14)),
 rq 2 16 (.fld 3 (.tm 7)),
 rq 3 17 (.load 1 false (.tm 16)),
 rq 4 18 (.fld 4 (.tm 7)),
 rq 5 19 (.load 1 false (.tm 18)),
 rq 6 20 (.call n_spec_AdrBurst [(.tm 15), (.tm 17), (.tm 19)]),
 rq 7 10 (.move (.tm 20))] 8 [0, 2, 5, 7, 8, 9, 10])
 (.seq (.region [rq 0 21 (.move (.tm 0)),
 rq 1 22 (.move (.tm 10)),
 rq 2 23 (.call n_spec_l1Whole [(.tm 21), (.tm 22)]),
 rq 3 11 (.move (.tm 23))] 4 [0, 2, 5, 7, 8, 9, 10, 11])
 (.seq (.region [rq 0 24 (.fld 0 (.tm 7)),
 rq 1 25 (.load 1 false (.tm 24)),
 rq 2 26 (.build [(.v (.int .i64 0)), (.v (.int .i64 0)), (.osl 0 0 0 0 0)] [(0, 1, (.tm 25)), (1, 1, (ki 1))]),
 rq 3 12 (.alloc [(.v (.int .i64 0)), (.v (.int .i64 0)), (.osl 0 0 0 0 0)]),
 rn 4 (.store 3 true (.tm 12) (.tm 26))] 5 [0, 2, 5, 7, 8, 9, 10, 11, 12])
 (.seq (.seq (.region [rq 0 27 (.move (.tm 11)),
 rq 1 28 (.bin .lss (.tm 27) (ki 0))] 2 [0, 2, 5, 7, 8, 9, 10, 11, 12, 28])
 (.cond (.tm 28)
 (.seq (.region [rq 0 29 (.fld 1 (.tm 12)),
 rn 1 (.store 1 false (.tm 29) (ki 4))] 2 [5, 8, 9, 12])
 (.seq (.region [rq 0 30 (.load 2 true (.tm 5)),
 ⟨1, (some 31), .load 3 true (.tm 12), none, [], [], true⟩,
 ⟨2, none, .store 2 true (.tm 8) (.tm 30), none, [], [1], false⟩,
 rn 3 (.store 3 true (.tm 9) (.tm 31))] 4 [8, 9])
 .ret))
 .skip))
 (.seq (.seq (.region [rq 0 32 (.load 7 true (.tm 7)),
 rq 1 33 (.call n_spec_l3Writes [(.tm 32)]),
 rq 2 34 (.move (.tm 33)),
 ⟨3, (some 35), .move (.tm 0), (some (34, true)), [], [], false⟩,
 ⟨4, (some 36), .move (.tm 11), (some (34, true)), [], [], false⟩,
 ⟨5, (some 37), .idx 4 (.tm 35) (.tm 36), (some (34, true)), [], [], false⟩,
 ⟨6, (some 38), .fld 3 (.tm 37), (some (34, true)), [], [], false⟩,
 ⟨7, (some 39), .load 1 false (.tm 38), (some (34, true)), [], [], false⟩,
 rq 8 40 (.pick (.tm 34) (.tm 39) (.kv (.bool false)))] 9 [2, 5, 7, 8, 9, 10, 12, 40])
 (.cond (.tm 40)
 (.seq (.region [rq 0 41 (.fld 1 (.tm 12)),
 rn 1 (.store 1 false (.tm 41) (ki 3))] 2 [5, 8, 9, 12])
 (.seq (.region [rq 0 42 (.load 2 true (.tm 5)),
 ⟨1, (some 43), .load 3 true (.tm 12), none, [], [], true⟩,
 ⟨2, none, .store 2 true (.tm 8) (.tm 42), none, [], [1], false⟩,
 rn 3 (.store 3 true (.tm 9) (.tm 43))] 4 [8, 9])
 .ret))
 .skip))
 (.seq (.region [rq 0 44 (.move (.tm 2)),
 rq 1 45 (.bin .mul (.tm 44) (ki 2)),
 rq 2 46 (.fld 0 (.tm 7)),
 rq 3 47 (.load 1 false (.tm 46)),
 rq 4 48 (.bin .add (.tm 45) (.tm 47)),
 rq 5 13 (.move (.tm 48))] 6 [5, 7, 8, 9, 10, 12, 13])
 (.seq (.seq (.region [rq 0 49 (.fld 1 (.tm 7)),
 rq 1 50 (.load 1 false (.tm 49))] 2 [5, 7, 8, 9, 10, 12, 13, 50])
 (.block 0
 (.seq (.region [rq 0 64 (.bin .eql (.tm 50) (ki 1)),
 rq 1 63 (.move (.tm 64))] 2 [5, 7, 8, 9, 10, 12, 13, 50, 63])
 (.cond (.tm 63)
 (.region [rq 0 65 (.fld 0 (.tm 5)),
 rq 1 66 (.load 1 true (.tm 65)),
 rq 2 67 (.move (.tm 10)),
 rq 3 68 (.call n_spec_l2Get [(.tm 66), (.tm 67)]),
 rq 4 69 (.fld 2 (.tm 12)),
 rn 5 (.store 1 false (.tm 69) (.tm 68))] 6 [5, 8, 9, 12])
 (.seq (.region [rq 0 71 (.bin .eql (.tm 50) (ki 3)),
 rq 1 70 (.move (.tm 71))] 2 [5, 7, 8, 9, 10, 12, 13, 50, 70])
 (.cond (.tm 70)
 (.seq (.region [rq 0 72 (.fld 0 (.tm 5)),
 rq 1 73 (.load 1 true (.tm 72)),
 rq 2 74 (.move (.tm 10)),
 rq 3 75 (.call n_spec_l2Get [(.tm 73), (.tm 74)]),
 rq 4 76 (.fld 2 (.tm 12)),
 rn 5 (.store 1 false (.tm 76) (.tm 75))] 6 [5, 7, 8, 9, 12, 13])
 (.seq (.region [rq 0 77 (.fld 1 (.tm 12)),
 rn 1 (.store 1 false (.tm 77) (ki 2))] 2 [5, 7, 8, 9, 12, 13])
 (.region [rq 0 78 (.fld 1 (.tm 5)),
 rq 1 79 (.load 1 false (.tm 78)),
 rq 2 80 (.move (.tm 13)),
 rq 3 81 (.fld 2 (.tm 7)),
 rq 4 82 (.load 1 false (.tm 81)),
 rq 5 83 (.idx 1 (.tm 79) (.tm 80)),
 rn 6 (.store 1 false (.tm 83) (.tm 82))] 7 [5, 8, 9, 12])))
 (.seq (.region [rq 0 85 (.bin .eql (.tm 50) (ki 4)),
 rq 1 84 (.move (.tm 85))] 2 [5, 7, 8, 9, 10, 12, 13, 84])
 (.cond (.tm 84)
 (.seq (.seq (.region [rq 0 86 (.fld 1 (.tm 5)),
 rq 1 87 (.load 1 false (.tm 86)),
 rq 2 88 (.move (.tm 13)),
 rq 3 89 (.idx 1 (.tm 87) (.tm 88)),
 rq 4 90 (.load 1 false (.tm 89)),
 rq 5 91 (.fld 2 (.tm 7)),
 rq 6 92 (.load 1 false (.tm 91)),
 rq 7 93 (.bin .neq (.tm 90) (.tm 92))] 8 [5, 7, 8, 9, 10, 12, 93])
 (.cond (.tm 93)
 (.seq (.region [rq 0 94 (.load 2 true (.tm 5)),
 ⟨1, (some 95), .load 3 true (.tm 12), none, [], [], true⟩,
 ⟨2, none, .store 2 true (.tm 8) (.tm 94), none, [], [1], false⟩,
 rn 3 (.store 3 true (.tm 9) (.tm 95))] 4 [8, 9])
 .ret)
 .skip))
 (.seq (.region [rq 0 96 (.fld 1 (.tm 12)),
 rn 1 (.store 1 false (.tm 96) (ki 2))] 2 [5, 7, 8, 9, 10, 12])
 (.seq (.region [rq 0 97 (.fld 0 (.tm 5)),
 rq 1 98 (.load 1 true (.tm 97)),
 rq 2 99 (.move (.tm 10)),
 rq 3 100 (.fld 5 (.tm 7)),
 rq 4 101 (.load 1 false (.tm 100)),
 rq 5 102 (.fld 6 (.tm 7)),
 rq 6 103 (.load 1 false (.tm 102)),
 rq 7 104 (.call n_spec_l2Put [(.tm 98), (.tm 99), (.tm 101), (.tm 103)]),
 rq 8 105 (.fld 0 (.tm 5)),
 rn 9 (.store 1 true (.tm 105) (.tm 104))] 10 [5, 8, 9, 10, 12])
 (.region [rq 0 106 (.load 2 true (.tm 5)),
 rq 1 107 (.move (.tm 10)),
 rq 2 108 (.call n_spec_l4Free [(.tm 106), (.tm 107)]),
 rn 3 (.store 2 true (.tm 5) (.tm 108))] 4 [5, 8, 9, 12]))))
 (.seq (.region [rq 0 51 (.fld 0 (.tm 5)),
 rq 1 52 (.load 1 true (.tm 51)),
 rq 2 53 (.move (.tm 10)),
 rq 3 54 (.fld 5 (.tm 7)),
 rq 4 55 (.load 1 false (.tm 54)),
 rq 5 56 (.fld 6 (.tm 7)),
 rq 6 57 (.load 1 false (.tm 56)),
 rq 7 58 (.call n_spec_l2Put [(.tm 52), (.tm 53), (.tm 55), (.tm 57)]),
 rq 8 59 (.fld 0 (.tm 5)),
 rn 9 (.store 1 true (.tm 59) (.tm 58))] 10 [5, 8, 9, 10, 12])
 (.region [rq 0 60 (.load 2 true (.tm 5)),
 rq 1 61 (.move (.tm 10)),
 rq 2 62 (.call n_spec_l4Free [(.tm 60), (.tm 61)]),
 rn 3 (.store 2 true (.tm 5) (.tm 62))] 4 [5, 8, 9, 12]))))))))))
 (.seq (.region [rq 0 109 (.load 2 true (.tm 5)),
 ⟨1, (some 110), .load 3 true (.tm 12), none, [], [], true⟩,
 ⟨2, none, .store 2 true (.tm 8) (.tm 109), none, [], [1], false⟩,
 rn 3 (.store 3 true (.tm 9) (.tm 110))] 4 [8, 9])
 .ret)))))))))
def ct_spec_l4Do : List Cert := [⟨[], [0, 2, 5, 7, 8, 9]⟩, ⟨[], [0, 2, 5, 7, 8, 9, 10]⟩, ⟨[], [0, 2, 5, 7, 8, 9, 10, 11]⟩, ⟨[], [0, 2, 5, 7, 8, 9, 10, 11, 12]⟩, ⟨[], [0, 2, 5, 7, 8, 9, 10, 11, 12, 28]⟩, ⟨[], [5, 8, 9, 12]⟩, ⟨[cz 0, (1, [], [], true), (2, [], [1], false), cz 3], [8, 9]⟩, ⟨[], [2, 5, 7, 8, 9, 10, 12, 40]⟩, ⟨[], [5, 8, 9, 12]⟩, ⟨[cz 0, (1, [], [], true), (2, [], [1], false), cz 3], [8, 9]⟩, ⟨[], [5, 7, 8, 9, 10, 12, 13]⟩, ⟨[], [5, 7, 8, 9, 10, 12, 13, 50]⟩, ⟨[], [5, 7, 8, 9, 10, 12, 13, 50, 63]⟩, ⟨[], [5, 8, 9, 12]⟩, ⟨[], [5, 7, 8, 9, 10, 12, 13, 50, 70]⟩, ⟨[], [5, 7, 8, 9, 12, 13]⟩, ⟨[], [5, 7, 8, 9, 12, 13]⟩, ⟨[], [5, 8, 9, 12]⟩, ⟨[], [5, 7, 8, 9, 10, 12, 13, 84]⟩, ⟨[cz 0, cz 1, cz 2, cz 3, cz 4, cz 5, cz 6, cz 7], [5, 7, 8, 9, 10, 12, 93]⟩, ⟨[cz 0, (1, [], [], true), (2, [], [1], false), cz 3], [8, 9]⟩, ⟨[], [5, 7, 8, 9, 10, 12]⟩, ⟨[], [5, 8, 9, 10, 12]⟩, ⟨[], [5, 8, 9, 12]⟩, ⟨[], [5, 8, 9, 10, 12]⟩, ⟨[], [5, 8, 9, 12]⟩, ⟨[cz 0, (1, [], [], true), (2, [], [1], false), cz 3], [8, 9]⟩]
def rs_spec_l4Do : List ResV := [.cell 8 2 true, .cell 9 3 true]
theorem ok_spec_l4Do : compF Tryz.prog Tryz.f97 ct_spec_l4Do = some (ac_spec_l4Do, rs_spec_l4Do) := by kernel_rfl
theorem en_spec_l4Do : EnTy Tryz.prog n_spec_l4Do Tryz.f97 ac_spec_l4Do rs_spec_l4Do :=
  EnTy.mk Tryz.func97 (by kernel_rfl) ok_spec_l4Do

/- loop.example/crossyard/spec.l5Out -/
def ac_spec_l5Out : AC :=
 (.seq (.region [rq 0 4 (.move (.kv (.slice none 0 0)))] 1 [0, 1])
 (.seq (.region [rq 0 7 (.bslice 5 0 [(.v (.int .i64 0)), (.v (.int .i64 0)), (.v (.int .i64 0)), (.v (.int .i64 0)), (.osl 0 0 0 0 0)] []),
 rq 1 5 (.move (.tm 7))] 2 [0, 1, 5])
 (.seq (.seq (.region [rq 0 6 (.move (ki 0))] 1 [0, 1, 5, 6])
 (.block 0
 (.loop
 (.seq (.seq (.region [rq 0 8 (.move (.tm 6)),
 rq 1 9 (.move (.tm 0)),
 rq 2 10 (.len false (.tm 9)),
 rq 3 11 (.bin .lss (.tm 8) (.tm 10))] 4 [0, 1, 5, 6, 11])
 (.cond (.tm 11)
 .skip
 (.exit 0)))
 (.seq (.block 1
 (.seq (.region [rq 0 14 (.move (.tm 6)),
 rq 1 15 (.move (.tm 1)),
 rq 2 16 (.bin .neq (.tm 14) (.tm 15))] 3 [0, 1, 5, 6, 16])
 (.cond (.tm 16)
 (.region [rq 0 17 (.move (.tm 5)),
 rq 1 18 (.move (.tm 0)),
 rq 2 19 (.move (.tm 6)),
 rq 3 20 (.idx 5 (.tm 18) (.tm 19)),
 rq 4 21 (.load 5 true (.tm 20)),
 rq 5 22 (.bslice 5 1 [(.v (.int .i64 0)), (.v (.int .i64 0)), (.v (.int .i64 0)), (.v (.int .i64 0)), (.osl 0 0 0 0 0)] [(0, 5, (.tm 21))]),
 rq 6 23 (.append 5 (.tm 17) (.tm 22)),
 rq 7 5 (.move (.tm 23))] 8 [0, 1, 5, 6])
 .skip)))
 (.region [rq 0 12 (.move (.tm 6)),
 rq 1 13 (.bin .add (.tm 12) (ki 1)),
 rq 2 6 (.move (.tm 13))] 3 [0, 1, 5, 6]))))))
 (.seq (.region [rq 0 24 (.move (.tm 5)),
 rq 1 4 (.move (.tm 24))] 2 [4])
 .ret))))
def ct_spec_l5Out : List Cert := [⟨[], [0, 1]⟩, ⟨[], [0, 1, 5]⟩, ⟨[], [0, 1, 5, 6]⟩, ⟨[], [0, 1, 5, 6, 11]⟩, ⟨[], [0, 1, 5, 6, 16]⟩, ⟨[], [0, 1, 5, 6]⟩, ⟨[], [0, 1, 5, 6]⟩, ⟨[], [4]⟩]
def rs_spec_l5Out : List ResV := [.tm 4]
theorem ok_spec_l5Out : compF Tryz.prog Tryz.f98 ct_spec_l5Out = some (ac_spec_l5Out, rs_spec_l5Out) := by kernel_rfl
theorem en_spec_l5Out : EnTy Tryz.prog n_spec_l5Out Tryz.f98 ac_spec_l5Out rs_spec_l5Out :=
  EnTy.mk Tryz.func98 (by kernel_rfl) ok_spec_l5Out

/- loop.example/crossyard/spec.l4Copy -/
def ac_spec_l4Copy : AC :=
 (.seq (.region [rq 0 1 (.box true (.tm 0)),
 rq 1 2 (.alloc [(.osl 0 0 0 0 0), (.osl 0 0 0 0 0)])] 2 [1, 2])
 (.seq (.region [rq 0 3 (.fld 0 (.tm 1)),
 ⟨1, (some 4), .load 1 true (.tm 3), none, [3], [], false⟩,
 rq 3 6 (.bslice 1 0 [(.v (.int .i64 0))] []),
 rq 4 7 (.fld 1 (.tm 1)),
 ⟨5, (some 8), .load 1 false (.tm 7), none, [3], [], true⟩,
 ⟨2, (some 5), .call n_spec_l2Copy [(.tm 4)], none, [3], [5], false⟩,
 rq 6 9 (.append 1 (.tm 6) (.tm 8)),
 rq 7 10 (.build [(.osl 0 0 0 0 0), (.osl 0 0 0 0 0)] [(0, 1, (.tm 5)), (1, 1, (.tm 9))]),
 rn 8 (.store 2 true (.tm 2) (.tm 10))] 9 [2])
 .ret))
def ct_spec_l4Copy : List Cert := [⟨[], [1, 2]⟩, ⟨[cz 0, (1, [3], [], false), cz 3, cz 4, (5, [3], [], true), (2, [3], [5], false), cz 6, cz 7, cz 8], [2]⟩]
def rs_spec_l4Copy : List ResV := [.cell 2 2 true]
theorem ok_spec_l4Copy : compF Tryz.prog Tryz.f99 ct_spec_l4Copy = some (ac_spec_l4Copy, rs_spec_l4Copy) := by kernel_rfl
theorem en_spec_l4Copy : EnTy Tryz.prog n_spec_l4Copy Tryz.f99 ac_spec_l4Copy rs_spec_l4Copy :=
  EnTy.mk Tryz.func99 (by kernel_rfl) ok_spec_l4Copy

/- loop.example/crossyard/spec.l5List -/
def ac_spec_l5List : AC :=
 (.seq (.region [rq 0 2 (.move (.kv (.slice none 0 0)))] 1 [0])
 (.seq (.region [rq 0 5 (.bslice 5 0 [(.v (.int .i64 0)), (.v (.int .i64 0)), (.v (.int .i64 0)), (.v (.int .i64 0)), (.osl 0 0 0 0 0)] []),
 rq 1 3 (.move (.tm 5))] 2 [0, 3])
 (.seq (.seq (.region [rq 0 4 (.move (ki 0))] 1 [0, 3, 4])
 (.block 0
 (.loop
 (.seq (.seq (.region [rq 0 6 (.move (.tm 4)),
 rq 1 7 (.move (.tm 0)),
 rq 2 8 (.len false (.tm 7)),
 rq 3 9 (.bin .lss (.tm 6) (.tm 8))] 4 [0, 3, 4, 9])
 (.cond (.tm 9)
 .skip
 (.exit 0)))
 (.seq (.block 1
 (.region [rq 0 12 (.move (.tm 3)),
 rq 1 13 (.move (.tm 0)),
 rq 2 14 (.move (.tm 4)),
 rq 3 15 (.idx 5 (.tm 13) (.tm 14)),
 rq 4 16 (.fld 0 (.tm 15)),
 ⟨5, (some 17), .load 1 false (.tm 16), none, [18], [], true⟩,
 rq 6 18 (.move (.tm 0)),
 rq 7 19 (.move (.tm 4)),
 rq 8 20 (.idx 5 (.tm 18) (.tm 19)),
 rq 9 21 (.fld 1 (.tm 20)),
 ⟨10, (some 22), .load 1 false (.tm 21), none, [18], [], true⟩,
 rq 11 23 (.move (.tm 0)),
 rq 12 24 (.move (.tm 4)),
 rq 13 25 (.idx 5 (.tm 23) (.tm 24)),
 rq 14 26 (.fld 2 (.tm 25)),
 rq 15 27 (.load 3 true (.tm 26)),
 ⟨16, (some 28), .call n_spec_l5Rsp [(.tm 27)], none, [], [5, 10], false⟩,
 rq 17 29 (.build [(.v (.int .i64 0)), (.v (.int .i64 0)), (.v (.int .i64 0)), (.v (.int .i64 0)), (.osl 0 0 0 0 0)] [(0, 1, (.tm 17)), (1, 1, (.tm 22)), (2, 3, (.tm 28))]),
 rq 18 30 (.bslice 5 1 [(.v (.int .i64 0)), (.v (.int .i64 0)), (.v (.int .i64 0)), (.v (.int .i64 0)), (.osl 0 0 0 0 0)] [(0, 5, (.tm 29))]),
 rq 19 31 (.append 5 (.tm 12) (.tm 30)),
 rq 20 3 (.move (.tm 31))] 21 [0, 3, 4]))
 (.region [rq 0 10 (.move (.tm 4)),
 rq 1 11 (.bin .add (.tm 10) (ki 1)),
 rq 2 4 (.move (.tm 11))] 3 [0, 3, 4]))))))
 (.seq (.region [rq 0 32 (.move (.tm 3)),
 rq 1 2 (.move (.tm 32))] 2 [2])
 .ret))))
def ct_spec_l5List : List Cert := [⟨[], [0]⟩, ⟨[], [0, 3]⟩, ⟨[], [0, 3, 4]⟩, ⟨[], [0, 3, 4, 9]⟩, ⟨[cz 0, cz 1, cz 2, cz 3, cz 4, (5, [18], [], true), cz 6, cz 7, cz 8, cz 9, (10, [18], [], true), cz 11, cz 12, cz 13, cz 14, cz 15, (16, [], [5, 10], false), cz 17, cz 18, cz 19, cz 20], [0, 3, 4]⟩, ⟨[], [0, 3, 4]⟩, ⟨[], [2]⟩]
def rs_spec_l5List : List ResV := [.tm 2]
theorem ok_spec_l5List : compF Tryz.prog Tryz.f100 ct_spec_l5List = some (ac_spec_l5List, rs_spec_l5List) := by kernel_rfl
theorem en_spec_l5List : EnTy Tryz.prog n_spec_l5List Tryz.f100 ac_spec_l5List rs_spec_l5List :=
  EnTy.mk Tryz.func100 (by kernel_rfl) ok_spec_l5List

/- loop.example/crossyard/impl.AtmOk -/
def ac_impl_AtmOk : AC :=
 (.seq (.region [rq 0 1 (.box true (.tm 0)),
 rq 1 2 (.move (.kv (.bool false)))] 2 [1])
 (.seq (.region [rq 0 3 (.fld 0 (.tm 1)),
 rq 1 4 (.load 1 true (.tm 3)),
 rq 2 5 (.call n_impl_MemOk [(.tm 4)]),
 rq 3 6 (.move (.tm 5)),
 ⟨4, (some 7), .fld 1 (.tm 1), (some (6, true)), [], [], false⟩,
 ⟨5, (some 8), .load 1 false (.tm 7), (some (6, true)), [], [], false⟩,
 ⟨6, (some 9), .len false (.tm 8), (some (6, true)), [], [], false⟩,
 ⟨7, (some 10), .bin .eql (.tm 9) (ki 6), (some (6, true)), [], [], false⟩,
 rq 8 11 (.pick (.tm 6) (.tm 10) (.kv (.bool false))),
 rq 9 12 (.move (.tm 11)),
 ⟨10, (some 13), .fld 1 (.tm 1), (some (12, true)), [], [], false⟩,
 ⟨11, (some 14), .load 1 false (.tm 13), (some (12, true)), [], [], false⟩,
 ⟨12, (some 15), .call n_slices_ContainsFunc_Zint_int [(.tm 14), (.fn n_impl_AtmOk_1)], (some (12, true)), [], [], false⟩,
 ⟨13, (some 16), .un .not (.tm 15), (some (12, true)), [], [], false⟩,
 rq 14 17 (.pick (.tm 12) (.tm 16) (.kv (.bool false))),
 rq 15 2 (.move (.tm 17))] 16 [2])
 .ret))
def ct_impl_AtmOk : List Cert := [⟨[], [1]⟩, ⟨[], [2]⟩]
def rs_impl_AtmOk : List ResV := [.tm 2]
theorem ok_impl_AtmOk : compF Tryz.prog Tryz.f101 ct_impl_AtmOk = some (ac_impl_AtmOk, rs_impl_AtmOk) := by kernel_rfl
theorem en_impl_AtmOk : EnTy Tryz.prog n_impl_AtmOk Tryz.f101 ac_impl_AtmOk rs_impl_AtmOk :=
  EnTy.mk Tryz.func101 (by kernel_rfl) ok_impl_AtmOk

/- loop.example/crossyard/impl.rising -/
def ac_impl_rising : AC :=
 (.seq (.region [rq 0 2 (.move (.kv (.bool false)))] 1 [0])
 (.seq (.seq (.region [rq 0 3 (.move (ki 1))] 1 [0, 3])
 (.block 0
 (.loop
 (.seq (.seq (.region [rq 0 4 (.move (.tm 3)),
 rq 1 5 (.move (.tm 0)),
 rq 2 6 (.len false (.tm 5)),
 rq 3 7 (.bin .lss (.tm 4) (.tm 6))] 4 [0, 3, 7])
 (.cond (.tm 7)
 .skip
 (.exit 0)))
 (.seq (.block 1
 (.seq (.region [rq 0 10 (.move (.tm 0)),
 rq 1 11 (.move (.tm 3)),
 rq 2 12 (.bin .sub (.tm 11) (ki 1)),
 rq 3 13 (.idx 5 (.tm 10) (.tm 12)),
 rq 4 14 (.load 5 true (.tm 13)),
 rq 5 15 (.move (.tm 0)),
 rq 6 16 (.move (.tm 3)),
 rq 7 17 (.idx 5 (.tm 15) (.tm 16)),
 rq 8 18 (.load 5 true (.tm 17)),
 rq 9 19 (.call n_impl_compareJobs [(.tm 14), (.tm 18)]),
 rq 10 20 (.bin .geq (.tm 19) (ki 0))] 11 [0, 3, 20])
 (.cond (.tm 20)
 (.seq (.region [rq 0 2 (.move (.kv (.bool false)))] 1 [2])
 .ret)
 .skip)))
 (.region [rq 0 8 (.move (.tm 3)),
 rq 1 9 (.bin .add (.tm 8) (ki 1)),
 rq 2 3 (.move (.tm 9))] 3 [0, 3]))))))
 (.seq (.region [rq 0 2 (.move (.kv (.bool true)))] 1 [2])
 .ret)))
def ct_impl_rising : List Cert := [⟨[], [0]⟩, ⟨[], [0, 3]⟩, ⟨[], [0, 3, 7]⟩, ⟨[cz 0, cz 1, cz 2, cz 3, cz 4, cz 5, cz 6, cz 7, cz 8, cz 9, cz 10], [0, 3, 20]⟩, ⟨[], [2]⟩, ⟨[], [0, 3]⟩, ⟨[], [2]⟩]
def rs_impl_rising : List ResV := [.tm 2]
theorem ok_impl_rising : compF Tryz.prog Tryz.f102 ct_impl_rising = some (ac_impl_rising, rs_impl_rising) := by kernel_rfl
theorem en_impl_rising : EnTy Tryz.prog n_impl_rising Tryz.f102 ac_impl_rising rs_impl_rising :=
  EnTy.mk Tryz.func102 (by kernel_rfl) ok_impl_rising

/- (loop.example/crossyard/impl.RspRsp).none -/
def ac_impl_RspRsp_none : AC :=
 (.seq (.region [rq 0 1 (.box true (.tm 0)),
 rq 1 2 (.move (.kv (.bool false)))] 2 [1])
 (.seq (.region [rq 0 3 (.fld 0 (.tm 1)),
 rq 1 4 (.load 1 false (.tm 3)),
 rq 2 5 (.bin .eql (.tm 4) (ki 0)),
 rq 3 6 (.move (.tm 5)),
 ⟨4, (some 7), .fld 1 (.tm 1), (some (6, true)), [], [], false⟩,
 ⟨5, (some 8), .load 1 false (.tm 7), (some (6, true)), [], [], false⟩,
 ⟨6, (some 9), .bin .eql (.tm 8) (ki 0), (some (6, true)), [], [], false⟩,
 rq 7 10 (.pick (.tm 6) (.tm 9) (.kv (.bool false))),
 rq 8 11 (.move (.tm 10)),
 ⟨9, (some 12), .fld 2 (.tm 1), (some (11, true)), [], [], false⟩,
 ⟨10, (some 13), .load 1 false (.tm 12), (some (11, true)), [], [], false⟩,
 ⟨11, (some 14), .len false (.tm 13), (some (11, true)), [], [], false⟩,
 ⟨12, (some 15), .bin .eql (.tm 14) (ki 0), (some (11, true)), [], [], false⟩,
 rq 13 16 (.pick (.tm 11) (.tm 15) (.kv (.bool false))),
 rq 14 2 (.move (.tm 16))] 15 [2])
 .ret))
def ct_impl_RspRsp_none : List Cert := [⟨[], [1]⟩, ⟨[], [2]⟩]
def rs_impl_RspRsp_none : List ResV := [.tm 2]
theorem ok_impl_RspRsp_none : compF Tryz.prog Tryz.f103 ct_impl_RspRsp_none = some (ac_impl_RspRsp_none, rs_impl_RspRsp_none) := by kernel_rfl
theorem en_impl_RspRsp_none : EnTy Tryz.prog n_impl_RspRsp_none Tryz.f103 ac_impl_RspRsp_none rs_impl_RspRsp_none :=
  EnTy.mk Tryz.func103 (by kernel_rfl) ok_impl_RspRsp_none

/- loop.example/crossyard/impl.RspOk -/
def ac_impl_RspOk : AC :=
 (.seq (.region [rq 0 1 (.box true (.tm 0)),
 rq 1 2 (.move (.kv (.bool false)))] 2 [1])
 (.seq (.region [rq 0 3 (.fld 0 (.tm 1)),
 rq 1 4 (.load 1 false (.tm 3)),
 rq 2 5 (.call n_impl_in [(.tm 4), (ki 0), (ki 1)]),
 rq 3 6 (.move (.tm 5)),
 ⟨4, (some 7), .fld 1 (.tm 1), (some (6, true)), [], [], false⟩,
 ⟨5, (some 8), .load 1 false (.tm 7), (some (6, true)), [], [], false⟩,
 ⟨6, (some 9), .call n_impl_in [(.tm 8), (ki 1), (ki 4)], (some (6, true)), [], [], false⟩,
 rq 7 10 (.pick (.tm 6) (.tm 9) (.kv (.bool false))),
 rq 8 11 (.move (.tm 10)),
 ⟨9, (some 12), .fld 2 (.tm 1), (some (11, true)), [], [], false⟩,
 ⟨10, (some 13), .load 1 false (.tm 12), (some (11, true)), [], [], false⟩,
 ⟨11, (some 14), .len false (.tm 13), (some (11, true)), [], [], false⟩,
 ⟨12, (some 15), .bin .leq (.tm 14) (ki 4), (some (11, true)), [], [], false⟩,
 rq 13 16 (.pick (.tm 11) (.tm 15) (.kv (.bool false))),
 rq 14 17 (.move (.tm 16)),
 ⟨15, (some 18), .fld 2 (.tm 1), (some (17, true)), [], [], false⟩,
 ⟨16, (some 19), .load 1 false (.tm 18), (some (17, true)), [], [], false⟩,
 ⟨17, (some 20), .call n_impl_areWords [(.tm 19)], (some (17, true)), [], [], false⟩,
 rq 18 21 (.pick (.tm 17) (.tm 20) (.kv (.bool false))),
 rq 19 2 (.move (.tm 21))] 20 [2])
 .ret))
def ct_impl_RspOk : List Cert := [⟨[], [1]⟩, ⟨[], [2]⟩]
def rs_impl_RspOk : List ResV := [.tm 2]
theorem ok_impl_RspOk : compF Tryz.prog Tryz.f104 ct_impl_RspOk = some (ac_impl_RspOk, rs_impl_RspOk) := by kernel_rfl
theorem en_impl_RspOk : EnTy Tryz.prog n_impl_RspOk Tryz.f104 ac_impl_RspOk rs_impl_RspOk :=
  EnTy.mk Tryz.func104 (by kernel_rfl) ok_impl_RspOk

/- (loop.example/crossyard/impl.BusCfg).id -/
def ac_impl_BusCfg_id : AC :=
 (.seq (.region [rq 0 3 (.box true (.tm 0)),
 rq 1 6 (.move (ki 0))] 2 [1, 2, 3])
 (.seq (.region [rq 0 7 (.fld 2 (.tm 3)),
 rq 1 8 (.load 1 false (.tm 7)),
 rq 2 9 (.move (.tm 1)),
 rq 3 10 (.idx 1 (.tm 8) (.tm 9)),
 rq 4 11 (.load 1 false (.tm 10)),
 rq 5 12 (.move (.tm 2)),
 rq 6 13 (.idx 7 (.tm 11) (.tm 12)),
 rq 7 14 (.fld 0 (.tm 13)),
 rq 8 15 (.load 1 false (.tm 14)),
 rq 9 6 (.move (.tm 15))] 10 [6])
 .ret))
def ct_impl_BusCfg_id : List Cert := [⟨[], [1, 2, 3]⟩, ⟨[], [6]⟩]
def rs_impl_BusCfg_id : List ResV := [.tm 6]
theorem ok_impl_BusCfg_id : compF Tryz.prog Tryz.f105 ct_impl_BusCfg_id = some (ac_impl_BusCfg_id, rs_impl_BusCfg_id) := by kernel_rfl
theorem en_impl_BusCfg_id : EnTy Tryz.prog n_impl_BusCfg_id Tryz.f105 ac_impl_BusCfg_id rs_impl_BusCfg_id :=
  EnTy.mk Tryz.func105 (by kernel_rfl) ok_impl_BusCfg_id

/- slices.Clip[[]int,int] -/
def ac_slices_Clip_Zint_int : AC :=
 (.seq (.region [rq 0 2 (.move (.kv (.slice none 0 0)))] 1 [0])
 (.seq (.region [rq 0 3 (.move (.tm 0)),
 rq 1 4 (.move (.tm 0)),
 rq 2 5 (.len false (.tm 4)),
 rq 3 6 (.move (.tm 0)),
 rq 4 7 (.len false (.tm 6)),
 rq 5 8 (.slc 1 (.tm 3) none (some (.tm 5)) (some (.tm 7))),
 rq 6 2 (.move (.tm 8))] 7 [2])
 .ret))
def ct_slices_Clip_Zint_int : List Cert := [⟨[], [0]⟩, ⟨[], [2]⟩]
def rs_slices_Clip_Zint_int : List ResV := [.tm 2]
theorem ok_slices_Clip_Zint_int : compF Tryz.prog Tryz.f106 ct_slices_Clip_Zint_int = some (ac_slices_Clip_Zint_int, rs_slices_Clip_Zint_int) := by kernel_rfl
theorem en_slices_Clip_Zint_int : EnTy Tryz.prog n_slices_Clip_Zint_int Tryz.f106 ac_slices_Clip_Zint_int rs_slices_Clip_Zint_int :=
  EnTy.mk Tryz.func106 (by kernel_rfl) ok_slices_Clip_Zint_int

/- slices.Clone[[]int,int] -/
def ac_slices_Clone_Zint_int : AC :=
 (.seq (.region [rq 0 2 (.move (.kv (.slice none 0 0)))] 1 [0])
 (.seq (.seq (.region [rq 0 3 (.move (.tm 0)),
 rq 1 4 (.xop (.isnil false) [(.tm 3)])] 2 [0, 4])
 (.cond (.tm 4)
 (.seq (.region [rq 0 2 (.move (.kv (.slice none 0 0)))] 1 [2])
 .ret)
 .skip))
 (.seq (.region [rq 0 5 (.bslice 1 0 [(.v (.int .i64 0))] []),
 rq 1 6 (.move (.tm 0)),
 rq 2 7 (.append 1 (.tm 5) (.tm 6)),
 rq 3 2 (.move (.tm 7))] 4 [2])
 .ret)))
def ct_slices_Clone_Zint_int : List Cert := [⟨[], [0]⟩, ⟨[], [0, 4]⟩, ⟨[], [2]⟩, ⟨[], [2]⟩]
def rs_slices_Clone_Zint_int : List ResV := [.tm 2]
theorem ok_slices_Clone_Zint_int : compF Tryz.prog Tryz.f107 ct_slices_Clone_Zint_int = some (ac_slices_Clone_Zint_int, rs_slices_Clone_Zint_int) := by kernel_rfl
theorem en_slices_Clone_Zint_int : EnTy Tryz.prog n_slices_Clone_Zint_int Tryz.f107 ac_slices_Clone_Zint_int rs_slices_Clone_Zint_int :=
  EnTy.mk Tryz.func107 (by kernel_rfl) ok_slices_Clone_Zint_int

/- slices.IndexFunc[[]loop.example/crossyard/impl.TlmJob,loop.example/crossyard/impl.TlmJob] -/
def ac_slices_IndexFunc_ZTlmJob_TlmJob : AC :=
 (.seq (.region [rq 0 4 (.move (ki 0))] 1 [0, 1])
 (.seq (.seq (.region [rq 0 6 (.move (.tm 0)),
 rq 1 7 (.len false (.tm 6)),
 rq 2 8 (.move (ki 0))] 3 [0, 1, 7, 8])
 (.block 0
 (.loop
 (.seq (.region [rq 0 9 (.bin .lss (.tm 8) (.tm 7))] 1 [0, 1, 7, 8, 9])
 (.seq (.cond (.tm 9)
 .skip
 (.exit 0))
 (.seq (.block 1
 (.seq (.region [rq 0 10 (.move (.tm 8)),
 rq 1 5 (.move (.tm 10))] 2 [0, 1, 5, 7, 8])
 (.seq (.region [rq 0 11 (.move (.tm 1)),
 rq 1 12 (.move (.tm 0)),
 rq 2 13 (.move (.tm 5)),
 rq 3 14 (.idx 5 (.tm 12) (.tm 13)),
 rq 4 15 (.load 5 true (.tm 14)),
 rq 5 16 (.callv (.tm 11) [(.tm 15)])] 6 [0, 1, 5, 7, 8, 16])
 (.cond (.tm 16)
 (.seq (.region [rq 0 17 (.move (.tm 5)),
 rq 1 4 (.move (.tm 17))] 2 [4])
 .ret)
 .skip))))
 (.region [rq 0 18 (.bin .add (.tm 8) (ki 1)),
 rq 1 8 (.move (.tm 18))] 2 [0, 1, 7, 8])))))))
 (.seq (.region [rq 0 4 (.move (.kv (.int .i64 (-1))))] 1 [4])
 .ret)))
def ct_slices_IndexFunc_ZTlmJob_TlmJob : List Cert := [⟨[], [0, 1]⟩, ⟨[], [0, 1, 7, 8]⟩, ⟨[], [0, 1, 7, 8, 9]⟩, ⟨[], [0, 1, 5, 7, 8]⟩, ⟨[], [0, 1, 5, 7, 8, 16]⟩, ⟨[], [4]⟩, ⟨[], [0, 1, 7, 8]⟩, ⟨[], [4]⟩]
def rs_slices_IndexFunc_ZTlmJob_TlmJob : List ResV := [.tm 4]
theorem ok_slices_IndexFunc_ZTlmJob_TlmJob : compF Tryz.prog Tryz.f108 ct_slices_IndexFunc_ZTlmJob_TlmJob = some (ac_slices_IndexFunc_ZTlmJob_TlmJob, rs_slices_IndexFunc_ZTlmJob_TlmJob) := by kernel_rfl
theorem en_slices_IndexFunc_ZTlmJob_TlmJob : EnTy Tryz.prog n_slices_IndexFunc_ZTlmJob_TlmJob Tryz.f108 ac_slices_IndexFunc_ZTlmJob_TlmJob rs_slices_IndexFunc_ZTlmJob_TlmJob :=
  EnTy.mk Tryz.func108 (by kernel_rfl) ok_slices_IndexFunc_ZTlmJob_TlmJob

/- loop.example/crossyard/impl.jobAt$1 -/
def ac_impl_jobAt_1 : AC :=
 (.seq (.region [rq 0 3 (.box true (.tm 0)),
 rq 1 4 (.move (.kv (.bool false)))] 2 [1, 2, 3])
 (.seq (.region [rq 0 5 (.fld 0 (.tm 3)),
 rq 1 6 (.load 1 false (.tm 5)),
 rq 2 7 (.load 1 false (.tm 1)),
 rq 3 8 (.bin .eql (.tm 6) (.tm 7)),
 rq 4 9 (.move (.tm 8)),
 ⟨5, (some 10), .fld 1 (.tm 3), (some (9, true)), [], [], false⟩,
 ⟨6, (some 11), .load 1 false (.tm 10), (some (9, true)), [], [], false⟩,
 ⟨7, (some 12), .load 1 false (.tm 2), (some (9, true)), [], [], false⟩,
 ⟨8, (some 13), .bin .eql (.tm 11) (.tm 12), (some (9, true)), [], [], false⟩,
 rq 9 14 (.pick (.tm 9) (.tm 13) (.kv (.bool false))),
 rq 10 4 (.move (.tm 14))] 11 [4])
 .ret))
def ct_impl_jobAt_1 : List Cert := [⟨[], [1, 2, 3]⟩, ⟨[], [4]⟩]
def rs_impl_jobAt_1 : List ResV := [.tm 4]
theorem ok_impl_jobAt_1 : compF Tryz.prog Tryz.f109 ct_impl_jobAt_1 = some (ac_impl_jobAt_1, rs_impl_jobAt_1) := by kernel_rfl
theorem en_impl_jobAt_1 : EnTy Tryz.prog n_impl_jobAt_1 Tryz.f109 ac_impl_jobAt_1 rs_impl_jobAt_1 :=
  EnTy.mk Tryz.func109 (by kernel_rfl) ok_impl_jobAt_1

/- slices.ContainsFunc[[]loop.example/crossyard/impl.TlmJob,loop.example/crossyard/impl.TlmJob] -/
def ac_slices_ContainsFunc_ZTlmJob_TlmJob : AC :=
 (.seq (.region [rq 0 4 (.move (.kv (.bool false)))] 1 [0, 1])
 (.seq (.region [rq 0 5 (.move (.tm 0)),
 rq 1 6 (.move (.tm 1)),
 rq 2 7 (.call n_slices_IndexFunc_ZTlmJob_TlmJob [(.tm 5), (.tm 6)]),
 rq 3 8 (.bin .geq (.tm 7) (ki 0)),
 rq 4 4 (.move (.tm 8))] 5 [4])
 .ret))
def ct_slices_ContainsFunc_ZTlmJob_TlmJob : List Cert := [⟨[], [0, 1]⟩, ⟨[], [4]⟩]
def rs_slices_ContainsFunc_ZTlmJob_TlmJob : List ResV := [.tm 4]
theorem ok_slices_ContainsFunc_ZTlmJob_TlmJob : compF Tryz.prog Tryz.f110 ct_slices_ContainsFunc_ZTlmJob_TlmJob = some (ac_slices_ContainsFunc_ZTlmJob_TlmJob, rs_slices_ContainsFunc_ZTlmJob_TlmJob) := by kernel_rfl
theorem en_slices_ContainsFunc_ZTlmJob_TlmJob : EnTy Tryz.prog n_slices_ContainsFunc_ZTlmJob_TlmJob Tryz.f110 ac_slices_ContainsFunc_ZTlmJob_TlmJob rs_slices_ContainsFunc_ZTlmJob_TlmJob :=
  EnTy.mk Tryz.func110 (by kernel_rfl) ok_slices_ContainsFunc_ZTlmJob_TlmJob

/- (loop.example/crossyard/impl.BusCfg).ahead$1 -/
def ac_impl_BusCfg_ahead_1 : AC :=
 (.seq (.region [rq 0 3 (.box true (.tm 0)),
 rq 1 4 (.move (.kv (.bool false)))] 2 [1, 2, 3])
 (.seq (.region [rq 0 5 (.fld 0 (.tm 3)),
 rq 1 6 (.load 1 false (.tm 5)),
 rq 2 7 (.fld 1 (.tm 1)),
 rq 3 8 (.load 1 false (.tm 7)),
 rq 4 9 (.bin .eql (.tm 6) (.tm 8)),
 rq 5 10 (.move (.tm 9)),
 ⟨6, (some 11), .fld 1 (.tm 3), (some (10, true)), [], [], false⟩,
 ⟨7, (some 12), .load 1 false (.tm 11), (some (10, true)), [], [], false⟩,
 ⟨8, (some 13), .fld 2 (.tm 1), (some (10, true)), [], [], false⟩,
 ⟨9, (some 14), .load 1 false (.tm 13), (some (10, true)), [], [], false⟩,
 ⟨10, (some 15), .bin .lss (.tm 12) (.tm 14), (some (10, true)), [], [], false⟩,
 rq 11 16 (.pick (.tm 10) (.tm 15) (.kv (.bool false))),
 rq 12 17 (.move (.tm 16)),
 ⟨13, (some 18), .load 3 true (.tm 2), (some (17, true)), [], [], false⟩,
 ⟨14, (some 19), .fld 0 (.tm 3), (some (17, true)), [], [], false⟩,
 ⟨15, (some 20), .load 1 false (.tm 19), (some (17, true)), [], [], false⟩,
 ⟨16, (some 21), .fld 1 (.tm 3), (some (17, true)), [], [], false⟩,
 ⟨17, (some 22), .load 1 false (.tm 21), (some (17, true)), [], [], false⟩,
 ⟨19, (some 24), .load 3 true (.tm 2), (some (17, true)), [], [], true⟩,
 ⟨20, (some 25), .fld 1 (.tm 1), (some (17, true)), [], [], false⟩,
 ⟨21, (some 26), .load 1 false (.tm 25), (some (17, true)), [], [], true⟩,
 ⟨22, (some 27), .fld 2 (.tm 1), (some (17, true)), [], [], false⟩,
 ⟨23, (some 28), .load 1 false (.tm 27), (some (17, true)), [], [], true⟩,
 ⟨18, (some 23), .call n_impl_BusCfg_id [(.tm 18), (.tm 20), (.tm 22)], (some (17, true)), [], [19, 21, 23], false⟩,
 ⟨24, (some 29), .call n_impl_BusCfg_id [(.tm 24), (.tm 26), (.tm 28)], (some (17, true)), [], [], false⟩,
 ⟨25, (some 30), .bin .eql (.tm 23) (.tm 29), (some (17, true)), [], [], false⟩,
 rq 26 31 (.pick (.tm 17) (.tm 30) (.kv (.bool false))),
 rq 27 4 (.move (.tm 31))] 28 [4])
 .ret))
def ct_impl_BusCfg_ahead_1 : List Cert := [⟨[], [1, 2, 3]⟩, ⟨[cz 0, cz 1, cz 2, cz 3, cz 4, cz 5, cz 6, cz 7, cz 8, cz 9, cz 10, cz 11, cz 12, cz 13, cz 14, cz 15, cz 16, cz 17, (19, [], [], true), cz 20, (21, [], [], true), cz 22, (23, [], [], true), (18, [], [19, 21, 23], false), cz 24, cz 25, cz 26, cz 27], [4]⟩]
def rs_impl_BusCfg_ahead_1 : List ResV := [.tm 4]
theorem ok_impl_BusCfg_ahead_1 : compF Tryz.prog Tryz.f111 ct_impl_BusCfg_ahead_1 = some (ac_impl_BusCfg_ahead_1, rs_impl_BusCfg_ahead_1) := by kernel_rfl
theorem en_impl_BusCfg_ahead_1 : EnTy Tryz.prog n_impl_BusCfg_ahead_1 Tryz.f111 ac_impl_BusCfg_ahead_1 rs_impl_BusCfg_ahead_1 :=
  EnTy.mk Tryz.func111 (by kernel_rfl) ok_impl_BusCfg_ahead_1

/- slices.BinarySearchFunc[[]loop.example/crossyard/impl.TlmJob,loop.example/crossyard/impl.TlmJob,loop.example/crossyard/impl.TlmJob] -/
def ac_slices_BinarySearchFunc_ZTlmJob_TlmJob_TlmJob : AC :=
 (.seq (.region [rq 0 4 (.box true (.tm 1)),
 rq 1 6 (.move (ki 0)),
 rq 2 7 (.move (.kv (.bool false)))] 3 [0, 2, 4])
 (.seq (.region [rq 0 12 (.move (.tm 0)),
 rq 1 13 (.len false (.tm 12)),
 rq 2 8 (.move (.tm 13))] 3 [0, 2, 4, 8])
 (.seq (.region [rq 0 14 (.move (.tm 8)),
 rq 1 9 (.move (ki 0)),
 rq 2 10 (.move (.tm 14))] 3 [0, 2, 4, 8, 9, 10])
 (.seq (.block 0
 (.loop
 (.seq (.seq (.region [rq 0 15 (.move (.tm 9)),
 rq 1 16 (.move (.tm 10)),
 rq 2 17 (.bin .lss (.tm 15) (.tm 16))] 3 [0, 2, 4, 8, 9, 10, 17])
 (.cond (.tm 17)
 .skip
 (.exit 0)))
 (.block 1
 (.seq (.region [rq 0 18 (.move (.tm 9)),
 rq 1 19 (.move (.tm 10)),
 rq 2 20 (.bin .add (.tm 18) (.tm 19)),
 rq 3 21 (.conv .u64 (.tm 20)),
 rq 4 22 (.bin .shr (.tm 21) (.kv (.int .u64 1))),
 rq 5 23 (.conv .i64 (.tm 22)),
 rq 6 11 (.move (.tm 23))] 7 [0, 2, 4, 8, 9, 10, 11])
 (.seq (.region [rq 0 24 (.move (.tm 2)),
 rq 1 25 (.move (.tm 0)),
 rq 2 26 (.move (.tm 11)),
 rq 3 27 (.idx 5 (.tm 25) (.tm 26)),
 rq 4 28 (.load 5 true (.tm 27)),
 rq 5 29 (.load 5 true (.tm 4)),
 rq 6 30 (.callv (.tm 24) [(.tm 28), (.tm 29)]),
 rq 7 31 (.bin .lss (.tm 30) (ki 0))] 8 [0, 2, 4, 8, 9, 10, 11, 31])
 (.cond (.tm 31)
 (.region [rq 0 32 (.move (.tm 11)),
 rq 1 33 (.bin .add (.tm 32) (ki 1)),
 rq 2 9 (.move (.tm 33))] 3 [0, 2, 4, 8, 9, 10])
 (.region [rq 0 34 (.move (.tm 11)),
 rq 1 10 (.move (.tm 34))] 2 [0, 2, 4, 8, 9, 10]))))))))
 (.seq (.region [rq 0 35 (.move (.tm 9)),
 rq 1 36 (.move (.tm 9)),
 rq 2 37 (.move (.tm 8)),
 rq 3 38 (.bin .lss (.tm 36) (.tm 37)),
 rq 4 39 (.move (.tm 38)),
 ⟨5, (some 40), .move (.tm 2), (some (39, true)), [], [], false⟩,
 ⟨6, (some 41), .move (.tm 0), (some (39, true)), [], [], false⟩,
 ⟨7, (some 42), .move (.tm 9), (some (39, true)), [], [], false⟩,
 ⟨8, (some 43), .idx 5 (.tm 41) (.tm 42), (some (39, true)), [], [], false⟩,
 ⟨9, (some 44), .load 5 true (.tm 43), (some (39, true)), [], [], false⟩,
 ⟨10, (some 45), .load 5 true (.tm 4), (some (39, true)), [], [], false⟩,
 ⟨11, (some 46), .callv (.tm 40) [(.tm 44), (.tm 45)], (some (39, true)), [], [], false⟩,
 ⟨12, (some 47), .bin .eql (.tm 46) (ki 0), (some (39, true)), [], [], false⟩,
 rq 13 48 (.pick (.tm 39) (.tm 47) (.kv (.bool false))),
 rq 14 6 (.move (.tm 35)),
 rq 15 7 (.move (.tm 48))] 16 [6, 7])
 .ret)))))
def ct_slices_BinarySearchFunc_ZTlmJob_TlmJob_TlmJob : List Cert := [⟨[], [0, 2, 4]⟩, ⟨[], [0, 2, 4, 8]⟩, ⟨[], [0, 2, 4, 8, 9, 10]⟩, ⟨[], [0, 2, 4, 8, 9, 10, 17]⟩, ⟨[], [0, 2, 4, 8, 9, 10, 11]⟩, ⟨[cz 0, cz 1, cz 2, cz 3, cz 4, cz 5, cz 6, cz 7], [0, 2, 4, 8, 9, 10, 11, 31]⟩, ⟨[], [0, 2, 4, 8, 9, 10]⟩, ⟨[], [0, 2, 4, 8, 9, 10]⟩, ⟨[cz 0, cz 1, cz 2, cz 3, cz 4, cz 5, cz 6, cz 7, cz 8, cz 9, cz 10, cz 11, cz 12, cz 13, cz 14, cz 15], [6, 7]⟩]
def rs_slices_BinarySearchFunc_ZTlmJob_TlmJob_TlmJob : List ResV := [.tm 6, .tm 7]
theorem ok_slices_BinarySearchFunc_ZTlmJob_TlmJob_TlmJob : compF Tryz.prog Tryz.f112 ct_slices_BinarySearchFunc_ZTlmJob_TlmJob_TlmJob = some (ac_slices_BinarySearchFunc_ZTlmJob_TlmJob_TlmJob, rs_slices_BinarySearchFunc_ZTlmJob_TlmJob_TlmJob) := by kernel_rfl
theorem en_slices_BinarySearchFunc_ZTlmJob_TlmJob_TlmJob : EnTy Tryz.prog n_slices_BinarySearchFunc_ZTlmJob_TlmJob_TlmJob Tryz.f112 ac_slices_BinarySearchFunc_ZTlmJob_TlmJob_TlmJob rs_slices_BinarySearchFunc_ZTlmJob_TlmJob_TlmJob :=
  EnTy.mk Tryz.func112 (by kernel_rfl) ok_slices_BinarySearchFunc_ZTlmJob_TlmJob_TlmJob

/- loop.example/crossyard/impl.compareJobs -/
def ac_impl_compareJobs : AC :=
 (.seq (.region [rq 0 2 (.box true (.tm 0)),
 rq 1 3 (.box true (.tm 1)),
 rq 2 4 (.move (ki 0))] 3 [2, 3])
 (.seq (.region [rq 0 5 (.fld 0 (.tm 2)),
 rq 1 6 (.load 1 false (.tm 5)),
 rq 2 7 (.fld 0 (.tm 3)),
 rq 3 8 (.load 1 false (.tm 7)),
 rq 5 10 (.fld 1 (.tm 2)),
 ⟨6, (some 11), .load 1 false (.tm 10), none, [10], [], true⟩,
 rq 7 12 (.fld 1 (.tm 3)),
 ⟨8, (some 13), .load 1 false (.tm 12), none, [10], [], true⟩,
 ⟨4, (some 9), .call n_cmp_Compare_int [(.tm 6), (.tm 8)], none, [], [6, 8], false⟩,
 rq 9 14 (.call n_cmp_Compare_int [(.tm 11), (.tm 13)]),
 rq 10 15 (.bslice 1 2 [(.v (.int .i64 0))] [(0, 1, (.tm 9)), (1, 1, (.tm 14))]),
 rq 11 16 (.call n_cmp_Or_int [(.tm 15)]),
 rq 12 4 (.move (.tm 16))] 13 [4])
 .ret))
def ct_impl_compareJobs : List Cert := [⟨[], [2, 3]⟩, ⟨[cz 0, cz 1, cz 2, cz 3, cz 5, (6, [10], [], true), cz 7, (8, [10], [], true), (4, [], [6, 8], false), cz 9, cz 10, cz 11, cz 12], [4]⟩]
def rs_impl_compareJobs : List ResV := [.tm 4]
theorem ok_impl_compareJobs : compF Tryz.prog Tryz.f113 ct_impl_compareJobs = some (ac_impl_compareJobs, rs_impl_compareJobs) := by kernel_rfl
theorem en_impl_compareJobs : EnTy Tryz.prog n_impl_compareJobs Tryz.f113 ac_impl_compareJobs rs_impl_compareJobs :=
  EnTy.mk Tryz.func113 (by kernel_rfl) ok_impl_compareJobs

/- slices.Insert[[]loop.example/crossyard/impl.TlmJob,loop.example/crossyard/impl.TlmJob] -/
def ac_slices_Insert_ZTlmJob_TlmJob : AC :=
 (.seq (.region [rq 0 6 (.move (.kv (.slice none 0 0)))] 1 [0, 1, 2])
 (.seq (.region [rq 0 10 (.move (.tm 0)),
 rq 1 11 (.move (.tm 1)),
 rq 2 12 (.slc 5 (.tm 10) (some (.tm 11)) none none)] 3 [0, 1, 2])
 (.seq (.region [rq 0 13 (.move (.tm 2)),
 rq 1 14 (.len false (.tm 13)),
 rq 2 7 (.move (.tm 14))] 3 [0, 1, 2, 7])
 (.seq (.seq (.region [rq 0 15 (.move (.tm 7)),
 rq 1 16 (.bin .eql (.tm 15) (ki 0))] 2 [0, 1, 2, 7, 16])
 (.cond (.tm 16)
 (.seq (.region [rq 0 17 (.move (.tm 0)),
 rq 1 6 (.move (.tm 17))] 2 [6])
 .ret)
 .skip))
 (.seq (.region [rq 0 18 (.move (.tm 0)),
 rq 1 19 (.len false (.tm 18)),
 rq 2 8 (.move (.tm 19))] 3 [0, 1, 2, 7, 8])
 (.seq (.seq (.region [rq 0 20 (.move (.tm 1)),
 rq 1 21 (.move (.tm 8)),
 rq 2 22 (.bin .eql (.tm 20) (.tm 21))] 3 [0, 1, 2, 7, 8, 22])
 (.cond (.tm 22)
 (.seq (.region [rq 0 23 (.move (.tm 0)),
 rq 1 24 (.move (.tm 2)),
 rq 2 25 (.append 5 (.tm 23) (.tm 24)),
 rq 3 6 (.move (.tm 25))] 4 [6])
 .ret)
 .skip))
 (.seq (.seq (.region [rq 0 26 (.move (.tm 8)),
 rq 1 27 (.move (.tm 7)),
 rq 2 28 (.bin .add (.tm 26) (.tm 27)),
 rq 3 29 (.move (.tm 0)),
 rq 4 30 (.cap (.tm 29)),
 rq 5 31 (.bin .gtr (.tm 28) (.tm 30))] 6 [0, 1, 2, 7, 8, 31])
 (.cond (.tm 31)
 (.seq (.region [rq 0 32 (.move (.tm 0)),
 rq 1 33 (.move (.tm 1)),
 rq 2 34 (.slc 5 (.tm 32) none (some (.tm 33)) none),
 rq 3 35 (.move (.tm 8)),
 rq 4 36 (.move (.tm 7)),
 rq 5 37 (.bin .add (.tm 35) (.tm 36)),
 rq 6 38 (.move (.tm 1)),
 rq 7 39 (.bin .sub (.tm 37) (.tm 38)),
 rq 8 40 (.xop (.appz 5 [(.v (.int .i64 0)), (.v (.int .i64 0)), (.v (.int .i64 0)), (.v (.int .i64 0)), (.osl 0 0 0 0 0)]) [(.tm 34), (.tm 39)]),
 rq 9 9 (.move (.tm 40))] 10 [0, 1, 2, 7, 9])
 (.seq (.region [rq 0 41 (.move (.tm 9)),
 rq 1 42 (.move (.tm 1)),
 rq 2 43 (.slc 5 (.tm 41) (some (.tm 42)) none none),
 rq 3 44 (.move (.tm 2)),
 rq 4 45 (.xop (.copy 5) [(.tm 43), (.tm 44)])] 5 [0, 1, 7, 9])
 (.seq (.region [rq 0 46 (.move (.tm 9)),
 rq 1 47 (.move (.tm 1)),
 rq 2 48 (.move (.tm 7)),
 rq 3 49 (.bin .add (.tm 47) (.tm 48)),
 rq 4 50 (.slc 5 (.tm 46) (some (.tm 49)) none none),
 rq 5 51 (.move (.tm 0)),
 rq 6 52 (.move (.tm 1)),
 rq 7 53 (.slc 5 (.tm 51) (some (.tm 52)) none none),
 rq 8 54 (.xop (.copy 5) [(.tm 50), (.tm 53)])] 9 [9])
 (.seq (.region [rq 0 55 (.move (.tm 9)),
 rq 1 6 (.move (.tm 55))] 2 [6])
 .ret))))
 .skip))
 (.seq (.region [rq 0 56 (.move (.tm 0)),
 rq 1 57 (.move (.tm 8)),
 rq 2 58 (.move (.tm 7)),
 rq 3 59 (.bin .add (.tm 57) (.tm 58)),
 rq 4 60 (.slc 5 (.tm 56) none (some (.tm 59)) none),
 rq 5 0 (.move (.tm 60))] 6 [0, 1, 2, 7, 8])
 (.seq (.seq (.region [rq 0 61 (.move (.tm 2)),
 rq 1 62 (.move (.tm 0)),
 rq 2 63 (.move (.tm 1)),
 rq 3 64 (.move (.tm 7)),
 rq 4 65 (.bin .add (.tm 63) (.tm 64)),
 rq 5 66 (.slc 5 (.tm 62) (some (.tm 65)) none none),
 rq 6 67 (.xop (.xext n_slices_overlaps_TlmJob) [(.tm 61), (.tm 66)]),
 rq 7 68 (.un .not (.tm 67))] 8 [0, 1, 2, 7, 8, 68])
 (.cond (.tm 68)
 (.seq (.region [rq 0 69 (.move (.tm 0)),
 rq 1 70 (.move (.tm 1)),
 rq 2 71 (.move (.tm 7)),
 rq 3 72 (.bin .add (.tm 70) (.tm 71)),
 rq 4 73 (.slc 5 (.tm 69) (some (.tm 72)) none none),
 rq 5 74 (.move (.tm 0)),
 rq 6 75 (.move (.tm 1)),
 rq 7 76 (.slc 5 (.tm 74) (some (.tm 75)) none none),
 rq 8 77 (.xop (.copy 5) [(.tm 73), (.tm 76)])] 9 [0, 1, 2])
 (.seq (.region [rq 0 78 (.move (.tm 0)),
 rq 1 79 (.move (.tm 1)),
 rq 2 80 (.slc 5 (.tm 78) (some (.tm 79)) none none),
 rq 3 81 (.move (.tm 2)),
 rq 4 82 (.xop (.copy 5) [(.tm 80), (.tm 81)])] 5 [0])
 (.seq (.region [rq 0 83 (.move (.tm 0)),
 rq 1 6 (.move (.tm 83))] 2 [6])
 .ret)))
 .skip))
 (.seq (.region [rq 0 84 (.move (.tm 0)),
 rq 1 85 (.move (.tm 8)),
 rq 2 86 (.slc 5 (.tm 84) (some (.tm 85)) none none),
 rq 3 87 (.move (.tm 2)),
 rq 4 88 (.xop (.copy 5) [(.tm 86), (.tm 87)])] 5 [0, 1, 7])
 (.seq (.region [rq 0 89 (.move (.tm 0)),
 rq 1 90 (.move (.tm 1)),
 rq 2 91 (.slc 5 (.tm 89) (some (.tm 90)) none none),
 rq 3 92 (.move (.tm 7)),
 rq 4 93 (.call n_slices_rotateRight_TlmJob [(.tm 91), (.tm 92)])] 5 [0])
 (.seq (.region [rq 0 94 (.move (.tm 0)),
 rq 1 6 (.move (.tm 94))] 2 [6])
 .ret))))))))))))
def ct_slices_Insert_ZTlmJob_TlmJob : List Cert := [⟨[], [0, 1, 2]⟩, ⟨[], [0, 1, 2]⟩, ⟨[], [0, 1, 2, 7]⟩, ⟨[], [0, 1, 2, 7, 16]⟩, ⟨[], [6]⟩, ⟨[], [0, 1, 2, 7, 8]⟩, ⟨[], [0, 1, 2, 7, 8, 22]⟩, ⟨[], [6]⟩, ⟨[], [0, 1, 2, 7, 8, 31]⟩, ⟨[], [0, 1, 2, 7, 9]⟩, ⟨[], [0, 1, 7, 9]⟩, ⟨[cz 0, cz 1, cz 2, cz 3, cz 4, cz 5, cz 6, cz 7, cz 8], [9]⟩, ⟨[], [6]⟩, ⟨[], [0, 1, 2, 7, 8]⟩, ⟨[], [0, 1, 2, 7, 8, 68]⟩, ⟨[cz 0, cz 1, cz 2, cz 3, cz 4, cz 5, cz 6, cz 7, cz 8], [0, 1, 2]⟩, ⟨[], [0]⟩, ⟨[], [6]⟩, ⟨[], [0, 1, 7]⟩, ⟨[], [0]⟩, ⟨[], [6]⟩]
def rs_slices_Insert_ZTlmJob_TlmJob : List ResV := [.tm 6]
theorem ok_slices_Insert_ZTlmJob_TlmJob : compF Tryz.prog Tryz.f114 ct_slices_Insert_ZTlmJob_TlmJob = some (ac_slices_Insert_ZTlmJob_TlmJob, rs_slices_Insert_ZTlmJob_TlmJob) := by kernel_rfl
theorem en_slices_Insert_ZTlmJob_TlmJob : EnTy Tryz.prog n_slices_Insert_ZTlmJob_TlmJob Tryz.f114 ac_slices_Insert_ZTlmJob_TlmJob rs_slices_Insert_ZTlmJob_TlmJob :=
  EnTy.mk Tryz.func114 (by kernel_rfl) ok_slices_Insert_ZTlmJob_TlmJob

/- math/bits.Mul -/
def ac_math_bits_Mul : AC :=
 (.seq (.region [rq 0 4 (.move (.kv (.int .u64 0))),
 rq 1 5 (.move (.kv (.int .u64 0)))] 2 [0, 1])
 (.seq (.cond (.kv (.bool false))
 (.seq (.region [rq 0 11 (.move (.tm 0)),
 rq 1 12 (.conv .u32 (.tm 11)),
 rq 2 13 (.move (.tm 1)),
 rq 3 14 (.conv .u32 (.tm 13)),
 rq 4 15 (.call n_math_bits_Mul32 [(.tm 12), (.tm 14)]),
 rq 5 10 (.move (.tm 15)),
 rq 6 16 (.ext (.tm 10) 0),
 rq 7 17 (.ext (.tm 10) 1),
 rq 8 6 (.move (.tm 16)),
 rq 9 7 (.move (.tm 17))] 10 [6, 7])
 (.seq (.region [rq 0 18 (.move (.tm 6)),
 rq 1 19 (.conv .u64 (.tm 18)),
 rq 2 20 (.move (.tm 7)),
 rq 3 21 (.conv .u64 (.tm 20)),
 rq 4 4 (.move (.tm 19)),
 rq 5 5 (.move (.tm 21))] 6 [4, 5])
 .ret))
 .skip)
 (.seq (.region [rq 0 23 (.move (.tm 0)),
 rq 1 24 (.move (.tm 1)),
 rq 2 25 (.call n_math_bits_Mul64 [(.tm 23), (.tm 24)]),
 rq 3 22 (.move (.tm 25)),
 rq 4 26 (.ext (.tm 22) 0),
 rq 5 27 (.ext (.tm 22) 1),
 rq 6 8 (.move (.tm 26)),
 rq 7 9 (.move (.tm 27))] 8 [8, 9])
 (.seq (.region [rq 0 28 (.move (.tm 8)),
 rq 1 29 (.move (.tm 9)),
 rq 2 4 (.move (.tm 28)),
 rq 3 5 (.move (.tm 29))] 4 [4, 5])
 .ret))))
def ct_math_bits_Mul : List Cert := [⟨[], [0, 1]⟩, ⟨[], [6, 7]⟩, ⟨[], [4, 5]⟩, ⟨[], [8, 9]⟩, ⟨[], [4, 5]⟩]
def rs_math_bits_Mul : List ResV := [.tm 4, .tm 5]
theorem ok_math_bits_Mul : compF Tryz.prog Tryz.f115 ct_math_bits_Mul = some (ac_math_bits_Mul, rs_math_bits_Mul) := by kernel_rfl
theorem en_math_bits_Mul : EnTy Tryz.prog n_math_bits_Mul Tryz.f115 ac_math_bits_Mul rs_math_bits_Mul :=
  EnTy.mk Tryz.func115 (by kernel_rfl) ok_math_bits_Mul

end Go.Proofs.YtiimjokpcbapeaaGreat
