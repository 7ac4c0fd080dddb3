/- The code of the functions with types resolved, checked against the program. Printed by a program (gen.py). -/
import Derived.Test.YtiimjokpcbapeaaGreatAcN
namespace Go.Proofs.YtiimjokpcbapeaaGreat
open Go Go.AM
set_option maxRecDepth 100000

/- loop.example/crossyard/spec.l5Step -/
def ac_spec_l5Step : AC :=
 (.seq (.region [rq 0 3 (.box true (.tm 0)),
 rq 1 4 (.box true (.tm 1)),
 rq 2 5 (.box true (.tm 2)),
 rq 3 6 (.alloc [(.osl 0 0 0 0 0), (.osl 0 0 0 0 0), (.osl 0 0 0 0 0), (.osl 0 0 0 0 0), (.osl 0 0 0 0 0), (.osl 0 0 0 0 0)]),
 rq 4 7 (.move (.kv (.bool false)))] 5 [3, 4, 5, 6])
 (.seq (.seq (.region [rq 0 12 (.fld 1 (.tm 5)),
 rq 1 13 (.load 1 false (.tm 12)),
 rq 2 14 (.call n_spec_l1In [(.tm 13), (ki 0), (ki 2)]),
 rq 3 15 (.un .not (.tm 14)),
 rq 4 16 (.move (.tm 15)),
 ⟨5, (some 17), .fld 2 (.tm 5), (some (16, false)), [], [], false⟩,
 ⟨6, (some 18), .load 1 false (.tm 17), (some (16, false)), [], [], false⟩,
 ⟨7, (some 19), .fld 2 (.tm 3), (some (16, false)), [], [], false⟩,
 ⟨8, (some 20), .load 1 false (.tm 19), (some (16, false)), [], [], false⟩,
 ⟨9, (some 21), .fld 1 (.tm 5), (some (16, false)), [], [], false⟩,
 ⟨10, (some 22), .load 1 false (.tm 21), (some (16, false)), [], [], false⟩,
 ⟨11, (some 23), .idx 1 (.tm 20) (.tm 22), (some (16, false)), [], [], false⟩,
 ⟨12, (some 24), .load 1 false (.tm 23), (some (16, false)), [], [], false⟩,
 ⟨13, (some 25), .len false (.tm 24), (some (16, false)), [], [], false⟩,
 ⟨14, (some 26), .bin .sub (.tm 25) (ki 1), (some (16, false)), [], [], false⟩,
 ⟨15, (some 27), .call n_spec_l1In [(.tm 18), (ki 0), (.tm 26)], (some (16, false)), [], [], false⟩,
 ⟨16, (some 28), .un .not (.tm 27), (some (16, false)), [], [], false⟩,
 rq 17 29 (.pick (.tm 16) (.kv (.bool true)) (.tm 28))] 18 [3, 4, 5, 6, 29])
 (.cond (.tm 29)
 (.seq (.region [rq 0 30 (.load 6 true (.tm 4)),
 rn 1 (.store 6 true (.tm 6) (.tm 30)),
 rq 2 7 (.move (.kv (.bool false)))] 3 [6, 7])
 .ret)
 .skip))
 (.seq (.seq (.region [rq 0 31 (.fld 0 (.tm 5)),
 rq 1 32 (.load 1 false (.tm 31))] 2 [3, 4, 5, 6, 32])
 (.block 0
 (.seq (.region [rq 0 34 (.bin .eql (.tm 32) (ki 1)),
 rq 1 33 (.move (.tm 34))] 2 [3, 4, 5, 6, 32, 33])
 (.cond (.tm 33)
 (.seq (.seq (.region [rq 0 35 (.fld 2 (.tm 5)),
 rq 1 36 (.load 1 false (.tm 35)),
 rq 2 37 (.fld 2 (.tm 4)),
 rq 3 38 (.load 1 false (.tm 37)),
 rq 4 39 (.fld 1 (.tm 5)),
 rq 5 40 (.load 1 false (.tm 39)),
 rq 6 41 (.idx 1 (.tm 38) (.tm 40)),
 rq 7 42 (.load 1 false (.tm 41)),
 rq 8 43 (.bin .neq (.tm 36) (.tm 42))] 9 [4, 5, 6, 43])
 (.cond (.tm 43)
 (.seq (.region [rq 0 44 (.load 6 true (.tm 4)),
 rn 1 (.store 6 true (.tm 6) (.tm 44)),
 rq 2 7 (.move (.kv (.bool false)))] 3 [6, 7])
 .ret)
 .skip))
 (.seq (.region [rq 0 45 (.fld 2 (.tm 4)),
 rq 1 46 (.load 1 false (.tm 45)),
 rq 2 47 (.fld 1 (.tm 5)),
 rq 3 48 (.load 1 false (.tm 47)),
 rq 4 49 (.fld 2 (.tm 5)),
 rq 5 50 (.load 1 false (.tm 49)),
 rq 6 51 (.bin .add (.tm 50) (ki 1)),
 rq 7 52 (.idx 1 (.tm 46) (.tm 48)),
 rn 8 (.store 1 false (.tm 52) (.tm 51))] 9 [4, 5, 6])
 (.seq (.region [rq 0 53 (.fld 3 (.tm 4)),
 rq 1 54 (.load 1 false (.tm 53)),
 rq 2 55 (.fld 1 (.tm 5)),
 rq 3 56 (.load 1 false (.tm 55)),
 rq 4 57 (.fld 2 (.tm 5)),
 rq 5 58 (.load 1 false (.tm 57)),
 rq 6 59 (.build [(.v (.int .i64 0)), (.v (.int .i64 0)), (.v (.int .i64 0)), (.v (.int .i64 0)), (.osl 0 0 0 0 0)] [(0, 1, (.tm 56)), (1, 1, (.tm 58))]),
 rq 7 60 (.call n_spec_l5Put [(.tm 54), (.tm 59)]),
 rq 8 61 (.fld 3 (.tm 4)),
 rn 9 (.store 1 false (.tm 61) (.tm 60))] 10 [4, 6])
 (.seq (.region [rq 0 62 (.load 6 true (.tm 4)),
 rn 1 (.store 6 true (.tm 6) (.tm 62)),
 rq 2 7 (.move (.kv (.bool true)))] 3 [6, 7])
 .ret))))
 (.seq (.region [rq 0 64 (.bin .eql (.tm 32) (ki 2)),
 rq 1 63 (.move (.tm 64))] 2 [3, 4, 5, 6, 32, 63])
 (.cond (.tm 63)
 (.seq (.region [rq 0 65 (.fld 3 (.tm 4)),
 rq 1 66 (.load 1 false (.tm 65)),
 rq 2 67 (.fld 1 (.tm 5)),
 rq 3 68 (.load 1 false (.tm 67)),
 rq 4 69 (.fld 2 (.tm 5)),
 rq 5 70 (.load 1 false (.tm 69)),
 rq 6 71 (.call n_spec_l5At [(.tm 66), (.tm 68), (.tm 70)]),
 rq 7 8 (.move (.tm 71))] 8 [3, 4, 5, 6, 8])
 (.seq (.seq (.region [rq 0 72 (.move (.tm 8)),
 rq 1 73 (.bin .lss (.tm 72) (ki 0)),
 rq 2 74 (.move (.tm 73)),
 ⟨3, (some 75), .load 3 true (.tm 3), (some (74, false)), [], [], false⟩,
 ⟨4, (some 76), .fld 3 (.tm 4), (some (74, false)), [], [], false⟩,
 ⟨5, (some 77), .load 1 false (.tm 76), (some (74, false)), [], [], false⟩,
 ⟨6, (some 78), .fld 1 (.tm 5), (some (74, false)), [], [], false⟩,
 ⟨7, (some 79), .load 1 false (.tm 78), (some (74, false)), [], [], false⟩,
 ⟨8, (some 80), .fld 2 (.tm 5), (some (74, false)), [], [], false⟩,
 ⟨9, (some 81), .load 1 false (.tm 80), (some (74, false)), [], [], false⟩,
 ⟨10, (some 82), .call n_spec_l5First [(.tm 75), (.tm 77), (.tm 79), (.tm 81)], (some (74, false)), [], [], false⟩,
 ⟨11, (some 83), .un .not (.tm 82), (some (74, false)), [], [], false⟩,
 rq 12 84 (.pick (.tm 74) (.kv (.bool true)) (.tm 83))] 13 [3, 4, 5, 6, 8, 84])
 (.cond (.tm 84)
 (.seq (.region [rq 0 85 (.load 6 true (.tm 4)),
 rn 1 (.store 6 true (.tm 6) (.tm 85)),
 rq 2 7 (.move (.kv (.bool false)))] 3 [6, 7])
 .ret)
 .skip))
 (.seq (.region [rq 0 87 (.fld 0 (.tm 3)),
 ⟨1, (some 88), .load 1 false (.tm 87), none, [20, 21], [], false⟩,
 rq 2 89 (.fld 0 (.tm 4)),
 ⟨3, (some 90), .load 2 true (.tm 89), none, [20, 21], [], false⟩,
 rq 4 91 (.fld 1 (.tm 5)),
 ⟨5, (some 92), .load 1 false (.tm 91), none, [20, 21], [], false⟩,
 rq 6 93 (.fld 2 (.tm 3)),
 ⟨7, (some 94), .load 1 false (.tm 93), none, [20, 21], [], false⟩,
 rq 8 95 (.fld 1 (.tm 5)),
 ⟨9, (some 96), .load 1 false (.tm 95), none, [20, 21], [], false⟩,
 rq 10 97 (.idx 1 (.tm 94) (.tm 96)),
 ⟨11, (some 98), .load 1 false (.tm 97), none, [20, 21], [], false⟩,
 rq 12 99 (.fld 2 (.tm 5)),
 ⟨13, (some 100), .load 1 false (.tm 99), none, [20, 21], [], false⟩,
 rq 14 101 (.idx 7 (.tm 98) (.tm 100)),
 ⟨15, (some 102), .load 7 true (.tm 101), none, [20, 21], [], false⟩,
 rq 20 9 (.alloc [(.osl 0 0 0 0 0), (.osl 0 0 0 0 0)]),
 rq 21 10 (.alloc [(.v (.int .i64 0)), (.v (.int .i64 0)), (.osl 0 0 0 0 0)]),
 ⟨16, (some 103), .call n_spec_l4Do [(.tm 88), (.tm 90), (.tm 92), (.tm 102)], none, [20, 21], [], false⟩,
 rq 17 86 (.move (.tm 103)),
 rq 18 104 (.ext (.tm 86) 0),
 rq 19 105 (.ext (.tm 86) 1),
 rn 22 (.store 2 true (.tm 9) (.tm 104)),
 rn 23 (.store 3 true (.tm 10) (.tm 105))] 24 [4, 5, 6, 8, 9, 10])
 (.seq (.region [rq 0 106 (.load 2 true (.tm 9)),
 rq 1 107 (.fld 0 (.tm 4)),
 rn 2 (.store 2 true (.tm 107) (.tm 106))] 3 [4, 5, 6, 8, 10])
 (.seq (.region [rq 0 108 (.fld 3 (.tm 4)),
 rq 1 109 (.load 1 false (.tm 108)),
 rq 2 110 (.move (.tm 8)),
 rq 3 111 (.call n_spec_l5Out [(.tm 109), (.tm 110)]),
 rq 4 112 (.fld 3 (.tm 4)),
 rn 5 (.store 1 false (.tm 112) (.tm 111))] 6 [4, 5, 6, 10])
 (.seq (.region [rq 0 113 (.fld 4 (.tm 4)),
 rq 1 114 (.load 1 false (.tm 113)),
 rq 2 115 (.fld 1 (.tm 5)),
 rq 3 116 (.load 1 false (.tm 115)),
 rq 4 117 (.fld 2 (.tm 5)),
 rq 5 118 (.load 1 false (.tm 117)),
 rq 6 119 (.load 3 true (.tm 10)),
 rq 7 120 (.build [(.v (.int .i64 0)), (.v (.int .i64 0)), (.v (.int .i64 0)), (.v (.int .i64 0)), (.osl 0 0 0 0 0)] [(0, 1, (.tm 116)), (1, 1, (.tm 118)), (2, 3, (.tm 119))]),
 rq 8 121 (.call n_spec_l5Put [(.tm 114), (.tm 120)]),
 rq 9 122 (.fld 4 (.tm 4)),
 rn 10 (.store 1 false (.tm 122) (.tm 121))] 11 [4, 6])
 (.seq (.region [rq 0 123 (.load 6 true (.tm 4)),
 rn 1 (.store 6 true (.tm 6) (.tm 123)),
 rq 2 7 (.move (.kv (.bool true)))] 3 [6, 7])
 .ret)))))))
 (.seq (.region [rq 0 125 (.bin .eql (.tm 32) (ki 3)),
 rq 1 124 (.move (.tm 125))] 2 [3, 4, 5, 6, 124])
 (.cond (.tm 124)
 (.seq (.region [rq 0 126 (.fld 4 (.tm 4)),
 rq 1 127 (.load 1 false (.tm 126)),
 rq 2 128 (.fld 1 (.tm 5)),
 rq 3 129 (.load 1 false (.tm 128)),
 rq 4 130 (.fld 2 (.tm 5)),
 rq 5 131 (.load 1 false (.tm 130)),
 rq 6 132 (.call n_spec_l5At [(.tm 127), (.tm 129), (.tm 131)]),
 rq 7 11 (.move (.tm 132))] 8 [3, 4, 5, 6, 11])
 (.seq (.seq (.region [rq 0 133 (.move (.tm 11)),
 rq 1 134 (.bin .lss (.tm 133) (ki 0)),
 rq 2 135 (.move (.tm 134)),
 ⟨3, (some 136), .load 3 true (.tm 3), (some (135, false)), [], [], false⟩,
 ⟨4, (some 137), .fld 3 (.tm 4), (some (135, false)), [], [], false⟩,
 ⟨5, (some 138), .load 1 false (.tm 137), (some (135, false)), [], [], false⟩,
 ⟨6, (some 139), .fld 1 (.tm 5), (some (135, false)), [], [], false⟩,
 ⟨7, (some 140), .load 1 false (.tm 139), (some (135, false)), [], [], false⟩,
 ⟨8, (some 141), .fld 2 (.tm 5), (some (135, false)), [], [], false⟩,
 ⟨9, (some 142), .load 1 false (.tm 141), (some (135, false)), [], [], false⟩,
 ⟨10, (some 143), .call n_spec_l5First [(.tm 136), (.tm 138), (.tm 140), (.tm 142)], (some (135, false)), [], [], false⟩,
 ⟨11, (some 144), .un .not (.tm 143), (some (135, false)), [], [], false⟩,
 rq 12 145 (.pick (.tm 135) (.kv (.bool true)) (.tm 144)),
 rq 13 146 (.move (.tm 145)),
 ⟨14, (some 147), .load 3 true (.tm 3), (some (146, false)), [], [], false⟩,
 ⟨15, (some 148), .fld 4 (.tm 4), (some (146, false)), [], [], false⟩,
 ⟨16, (some 149), .load 1 false (.tm 148), (some (146, false)), [], [], false⟩,
 ⟨17, (some 150), .fld 1 (.tm 5), (some (146, false)), [], [], false⟩,
 ⟨18, (some 151), .load 1 false (.tm 150), (some (146, false)), [], [], false⟩,
 ⟨19, (some 152), .fld 2 (.tm 5), (some (146, false)), [], [], false⟩,
 ⟨20, (some 153), .load 1 false (.tm 152), (some (146, false)), [], [], false⟩,
 ⟨21, (some 154), .call n_spec_l5First [(.tm 147), (.tm 149), (.tm 151), (.tm 153)], (some (146, false)), [], [], false⟩,
 ⟨22, (some 155), .un .not (.tm 154), (some (146, false)), [], [], false⟩,
 rq 23 156 (.pick (.tm 146) (.kv (.bool true)) (.tm 155))] 24 [4, 6, 11, 156])
 (.cond (.tm 156)
 (.seq (.region [rq 0 157 (.load 6 true (.tm 4)),
 rn 1 (.store 6 true (.tm 6) (.tm 157)),
 rq 2 7 (.move (.kv (.bool false)))] 3 [6, 7])
 .ret)
 .skip))
 (.seq (.region [rq 0 158 (.fld 5 (.tm 4)),
 ⟨1, (some 159), .load 1 false (.tm 158), none, [7], [], false⟩,
 rq 2 160 (.fld 4 (.tm 4)),
 rq 3 161 (.load 1 false (.tm 160)),
 rq 4 162 (.move (.tm 11)),
 rq 5 163 (.idx 5 (.tm 161) (.tm 162)),
 rq 6 164 (.load 5 true (.tm 163)),
 rq 7 165 (.bslice 5 1 [(.v (.int .i64 0)), (.v (.int .i64 0)), (.v (.int .i64 0)), (.v (.int .i64 0)), (.osl 0 0 0 0 0)] [(0, 5, (.tm 164))]),
 rq 8 166 (.append 5 (.tm 159) (.tm 165)),
 rq 9 167 (.fld 5 (.tm 4)),
 rn 10 (.store 1 false (.tm 167) (.tm 166))] 11 [4, 6, 11])
 (.seq (.region [rq 0 168 (.fld 4 (.tm 4)),
 rq 1 169 (.load 1 false (.tm 168)),
 rq 2 170 (.move (.tm 11)),
 rq 3 171 (.call n_spec_l5Out [(.tm 169), (.tm 170)]),
 rq 4 172 (.fld 4 (.tm 4)),
 rn 5 (.store 1 false (.tm 172) (.tm 171))] 6 [4, 6])
 (.seq (.region [rq 0 173 (.load 6 true (.tm 4)),
 rn 1 (.store 6 true (.tm 6) (.tm 173)),
 rq 2 7 (.move (.kv (.bool true)))] 3 [6, 7])
 .ret)))))
 .skip))))))))
 (.seq (.region [rq 0 174 (.load 6 true (.tm 4)),
 rn 1 (.store 6 true (.tm 6) (.tm 174)),
 rq 2 7 (.move (.kv (.bool false)))] 3 [6, 7])
 .ret))))
def ct_spec_l5Step : List Cert := [⟨[], [3, 4, 5, 6]⟩, ⟨[cz 0, cz 1, cz 2, cz 3, cz 4, cz 5, cz 6, cz 7, cz 8, cz 9, cz 10, cz 11, cz 12, cz 13, cz 14, cz 15, cz 16, cz 17], [3, 4, 5, 6, 29]⟩, ⟨[], [6, 7]⟩, ⟨[], [3, 4, 5, 6, 32]⟩, ⟨[], [3, 4, 5, 6, 32, 33]⟩, ⟨[cz 0, cz 1, cz 2, cz 3, cz 4, cz 5, cz 6, cz 7, cz 8], [4, 5, 6, 43]⟩, ⟨[], [6, 7]⟩, ⟨[], [4, 5, 6]⟩, ⟨[], [4, 6]⟩, ⟨[], [6, 7]⟩, ⟨[], [3, 4, 5, 6, 32, 63]⟩, ⟨[], [3, 4, 5, 6, 8]⟩, ⟨[], [3, 4, 5, 6, 8, 84]⟩, ⟨[], [6, 7]⟩, ⟨[cz 0, (1, [20, 21], [], false), cz 2, (3, [20, 21], [], false), cz 4, (5, [20, 21], [], false), cz 6, (7, [20, 21], [], false), cz 8, (9, [20, 21], [], false), cz 10, (11, [20, 21], [], false), cz 12, (13, [20, 21], [], false), cz 14, (15, [20, 21], [], false), cz 20, cz 21, (16, [20, 21], [], false), cz 17, cz 18, cz 19, cz 22, cz 23], [4, 5, 6, 8, 9, 10]⟩, ⟨[], [4, 5, 6, 8, 10]⟩, ⟨[], [4, 5, 6, 10]⟩, ⟨[], [4, 6]⟩, ⟨[], [6, 7]⟩, ⟨[], [3, 4, 5, 6, 124]⟩, ⟨[], [3, 4, 5, 6, 11]⟩, ⟨[], [4, 6, 11, 156]⟩, ⟨[], [6, 7]⟩, ⟨[cz 0, (1, [7], [], false), cz 2, cz 3, cz 4, cz 5, cz 6, cz 7, cz 8, cz 9, cz 10], [4, 6, 11]⟩, ⟨[], [4, 6]⟩, ⟨[], [6, 7]⟩, ⟨[], [6, 7]⟩]
def rs_spec_l5Step : List ResV := [.cell 6 6 true, .tm 7]
theorem ok_spec_l5Step : compF Tryz.prog Tryz.f59 ct_spec_l5Step = some (ac_spec_l5Step, rs_spec_l5Step) := by kernel_rfl
theorem en_spec_l5Step : EnTy Tryz.prog n_spec_l5Step Tryz.f59 ac_spec_l5Step rs_spec_l5Step :=
  EnTy.mk Tryz.func59 (by kernel_rfl) ok_spec_l5Step

/- loop.example/crossyard/spec.l5Copy -/
def ac_spec_l5Copy : AC :=
 (.seq (.region [rq 0 1 (.box true (.tm 0)),
 rq 1 2 (.alloc [(.osl 0 0 0 0 0), (.osl 0 0 0 0 0), (.osl 0 0 0 0 0), (.osl 0 0 0 0 0), (.osl 0 0 0 0 0), (.osl 0 0 0 0 0)])] 2 [1, 2])
 (.seq (.region [rq 0 3 (.fld 0 (.tm 1)),
 ⟨1, (some 4), .load 2 true (.tm 3), none, [3], [], false⟩,
 rq 3 6 (.bslice 1 0 [(.v (.int .i64 0))] []),
 rq 4 7 (.fld 2 (.tm 1)),
 ⟨5, (some 8), .load 1 false (.tm 7), none, [3], [], true⟩,
 rq 7 10 (.fld 3 (.tm 1)),
 ⟨8, (some 11), .load 1 false (.tm 10), none, [3], [], true⟩,
 rq 10 13 (.fld 4 (.tm 1)),
 ⟨11, (some 14), .load 1 false (.tm 13), none, [3], [], true⟩,
 rq 13 16 (.fld 5 (.tm 1)),
 ⟨14, (some 17), .load 1 false (.tm 16), none, [3], [], true⟩,
 ⟨2, (some 5), .call n_spec_l4Copy [(.tm 4)], none, [3], [5, 8, 11, 14], false⟩,
 ⟨6, (some 9), .append 1 (.tm 6) (.tm 8), none, [], [8, 11, 14], false⟩,
 ⟨9, (some 12), .call n_spec_l5List [(.tm 11)], none, [], [11, 14], false⟩,
 ⟨12, (some 15), .call n_spec_l5List [(.tm 14)], none, [], [14], false⟩,
 rq 15 18 (.call n_spec_l5List [(.tm 17)]),
 rq 16 19 (.build [(.osl 0 0 0 0 0), (.osl 0 0 0 0 0), (.osl 0 0 0 0 0), (.osl 0 0 0 0 0), (.osl 0 0 0 0 0), (.osl 0 0 0 0 0)] [(0, 2, (.tm 5)), (2, 1, (.tm 9)), (3, 1, (.tm 12)), (4, 1, (.tm 15)), (5, 1, (.tm 18))]),
 rn 17 (.store 6 true (.tm 2) (.tm 19))] 18 [2])
 .ret))
def ct_spec_l5Copy : List Cert := [⟨[], [1, 2]⟩, ⟨[cz 0, (1, [3], [], false), cz 3, cz 4, (5, [3], [], true), cz 7, (8, [3], [], true), cz 10, (11, [3], [], true), cz 13, (14, [3], [], true), (2, [3], [5, 8, 11, 14], false), (6, [], [8, 11, 14], false), (9, [], [11, 14], false), (12, [], [14], false), cz 15, cz 16, cz 17], [2]⟩]
def rs_spec_l5Copy : List ResV := [.cell 2 6 true]
theorem ok_spec_l5Copy : compF Tryz.prog Tryz.f60 ct_spec_l5Copy = some (ac_spec_l5Copy, rs_spec_l5Copy) := by kernel_rfl
theorem en_spec_l5Copy : EnTy Tryz.prog n_spec_l5Copy Tryz.f60 ac_spec_l5Copy rs_spec_l5Copy :=
  EnTy.mk Tryz.func60 (by kernel_rfl) ok_spec_l5Copy

/- (loop.example/crossyard/impl.BusCfg).tlmOk -/
def ac_impl_BusCfg_tlmOk : AC :=
 (.seq (.region [rq 0 2 (.box true (.tm 0)),
 rq 1 3 (.box true (.tm 1)),
 rq 2 4 (.move (.kv (.bool false)))] 3 [2, 3])
 (.seq (.seq (.region [rq 0 13 (.fld 0 (.tm 3)),
 rq 1 14 (.load 2 true (.tm 13)),
 rq 2 15 (.call n_impl_AtmOk [(.tm 14)]),
 rq 3 16 (.un .not (.tm 15)),
 rq 4 17 (.move (.tm 16)),
 ⟨5, (some 18), .fld 2 (.tm 3), (some (17, false)), [], [], false⟩,
 ⟨6, (some 19), .load 1 false (.tm 18), (some (17, false)), [], [], false⟩,
 ⟨7, (some 20), .len false (.tm 19), (some (17, false)), [], [], false⟩,
 ⟨8, (some 21), .bin .neq (.tm 20) (ki 3), (some (17, false)), [], [], false⟩,
 rq 9 22 (.pick (.tm 17) (.kv (.bool true)) (.tm 21)),
 rq 10 23 (.move (.tm 22)),
 ⟨11, (some 24), .fld 3 (.tm 3), (some (23, false)), [], [], false⟩,
 ⟨12, (some 25), .load 1 false (.tm 24), (some (23, false)), [], [], false⟩,
 ⟨13, (some 26), .call n_impl_rising [(.tm 25)], (some (23, false)), [], [], false⟩,
 ⟨14, (some 27), .un .not (.tm 26), (some (23, false)), [], [], false⟩,
 rq 15 28 (.pick (.tm 23) (.kv (.bool true)) (.tm 27)),
 rq 16 29 (.move (.tm 28)),
 ⟨17, (some 30), .fld 4 (.tm 3), (some (29, false)), [], [], false⟩,
 ⟨18, (some 31), .load 1 false (.tm 30), (some (29, false)), [], [], false⟩,
 ⟨19, (some 32), .call n_impl_rising [(.tm 31)], (some (29, false)), [], [], false⟩,
 ⟨20, (some 33), .un .not (.tm 32), (some (29, false)), [], [], false⟩,
 rq 21 34 (.pick (.tm 29) (.kv (.bool true)) (.tm 33))] 22 [2, 3, 34])
 (.cond (.tm 34)
 (.seq (.region [rq 0 4 (.move (.kv (.bool false)))] 1 [4])
 .ret)
 .skip))
 (.seq (.region [rq 0 5 (.move (ki 0))] 1 [2, 3, 5])
 (.seq (.seq (.region [rq 0 35 (.fld 2 (.tm 3)),
 rq 1 36 (.load 1 false (.tm 35)),
 rq 2 37 (.len false (.tm 36)),
 rq 3 38 (.move (ki 0))] 4 [2, 3, 5, 36, 37, 38])
 (.block 0
 (.loop
 (.seq (.region [rq 0 39 (.bin .lss (.tm 38) (.tm 37))] 1 [2, 3, 5, 36, 37, 38, 39])
 (.seq (.cond (.tm 39)
 .skip
 (.exit 0))
 (.seq (.block 1
 (.seq (.region [rq 0 40 (.move (.tm 38)),
 rq 1 41 (.idx 1 (.tm 36) (.tm 38)),
 rq 2 42 (.load 1 false (.tm 41)),
 rq 3 6 (.move (.tm 40)),
 rq 4 7 (.move (.tm 42))] 5 [2, 3, 5, 6, 7, 36, 37, 38])
 (.seq (.seq (.region [rq 0 43 (.move (.tm 7)),
 rq 1 44 (.fld 2 (.tm 2)),
 rq 2 45 (.load 1 false (.tm 44)),
 rq 3 46 (.move (.tm 6)),
 rq 4 47 (.idx 1 (.tm 45) (.tm 46)),
 rq 5 48 (.load 1 false (.tm 47)),
 rq 6 49 (.len false (.tm 48)),
 rq 7 50 (.call n_impl_in [(.tm 43), (ki 0), (.tm 49)]),
 rq 8 51 (.un .not (.tm 50))] 9 [2, 3, 5, 7, 36, 37, 38, 51])
 (.cond (.tm 51)
 (.seq (.region [rq 0 4 (.move (.kv (.bool false)))] 1 [4])
 .ret)
 .skip))
 (.region [rq 0 52 (.move (.tm 5)),
 rq 1 53 (.move (.tm 7)),
 rq 2 54 (.bin .add (.tm 52) (.tm 53)),
 rq 3 5 (.move (.tm 54))] 4 [2, 3, 5, 36, 37, 38]))))
 (.region [rq 0 55 (.bin .add (.tm 38) (ki 1)),
 rq 1 38 (.move (.tm 55))] 2 [2, 3, 5, 36, 37, 38])))))))
 (.seq (.region [rq 0 56 (.xop (.mkmap 2 true) []),
 rq 1 8 (.move (.tm 56))] 2 [2, 3, 5, 8])
 (.seq (.seq (.region [rq 0 57 (.fld 3 (.tm 3)),
 rq 1 58 (.load 1 false (.tm 57)),
 rq 2 59 (.fld 4 (.tm 3)),
 rq 3 60 (.load 1 false (.tm 59)),
 rq 4 61 (.fld 5 (.tm 3)),
 rq 5 62 (.load 1 false (.tm 61)),
 rq 6 63 (.bslice 1 3 [(.osl 0 0 0 0 0)] [(0, 1, (.tm 58)), (1, 1, (.tm 60)), (2, 1, (.tm 62))]),
 rq 7 64 (.len false (.tm 63)),
 rq 8 65 (.move (ki 0))] 9 [2, 3, 5, 8, 63, 64, 65])
 (.block 2
 (.loop
 (.seq (.region [rq 0 66 (.bin .lss (.tm 65) (.tm 64))] 1 [2, 3, 5, 8, 63, 64, 65, 66])
 (.seq (.cond (.tm 66)
 .skip
 (.exit 2))
 (.seq (.block 3
 (.seq (.region [rq 0 67 (.move (.tm 65)),
 rq 1 68 (.idx 1 (.tm 63) (.tm 65)),
 rq 2 69 (.load 1 false (.tm 68)),
 rq 3 9 (.move (.tm 67)),
 rq 4 10 (.move (.tm 69))] 5 [2, 3, 5, 8, 9, 10, 63, 64, 65])
 (.seq (.region [rq 0 70 (.move (.tm 10)),
 rq 1 71 (.len false (.tm 70)),
 rq 2 72 (.move (ki 0))] 3 [2, 3, 5, 8, 9, 63, 64, 65, 70, 71, 72])
 (.block 4
 (.loop
 (.seq (.region [rq 0 73 (.bin .lss (.tm 72) (.tm 71))] 1 [2, 3, 5, 8, 9, 63, 64, 65, 70, 71, 72, 73])
 (.seq (.cond (.tm 73)
 .skip
 (.exit 4))
 (.seq (.block 5
 (.seq (.region [rq 0 74 (.idx 5 (.tm 70) (.tm 72)),
 rq 1 75 (.load 5 true (.tm 74)),
 rq 2 12 (.alloc [(.v (.int .i64 0)), (.v (.int .i64 0)), (.v (.int .i64 0)), (.v (.int .i64 0)), (.osl 0 0 0 0 0)]),
 rn 3 (.store 5 true (.tm 12) (.tm 75))] 4 [2, 3, 5, 8, 9, 12, 63, 64, 65, 70, 71, 72])
 (.seq (.seq (.region [rq 0 76 (.fld 0 (.tm 12)),
 rq 1 77 (.load 1 false (.tm 76)),
 rq 2 78 (.call n_impl_isMaster [(.tm 77)]),
 rq 3 79 (.un .not (.tm 78)),
 rq 4 80 (.move (.tm 79)),
 ⟨5, (some 81), .fld 1 (.tm 12), (some (80, false)), [], [], false⟩,
 ⟨6, (some 82), .load 1 false (.tm 81), (some (80, false)), [], [], false⟩,
 ⟨7, (some 83), .fld 2 (.tm 3), (some (80, false)), [], [], false⟩,
 ⟨8, (some 84), .load 1 false (.tm 83), (some (80, false)), [], [], false⟩,
 ⟨9, (some 85), .fld 0 (.tm 12), (some (80, false)), [], [], false⟩,
 ⟨10, (some 86), .load 1 false (.tm 85), (some (80, false)), [], [], false⟩,
 ⟨11, (some 87), .idx 1 (.tm 84) (.tm 86), (some (80, false)), [], [], false⟩,
 ⟨12, (some 88), .load 1 false (.tm 87), (some (80, false)), [], [], false⟩,
 ⟨13, (some 89), .bin .sub (.tm 88) (ki 1), (some (80, false)), [], [], false⟩,
 ⟨14, (some 90), .call n_impl_in [(.tm 82), (ki 0), (.tm 89)], (some (80, false)), [], [], false⟩,
 ⟨15, (some 91), .un .not (.tm 90), (some (80, false)), [], [], false⟩,
 rq 16 92 (.pick (.tm 80) (.kv (.bool true)) (.tm 91)),
 rq 17 93 (.move (.tm 92)),
 ⟨18, (some 94), .move (.tm 8), (some (93, false)), [], [], false⟩,
 ⟨19, (some 95), .fld 0 (.tm 12), (some (93, false)), [], [], false⟩,
 ⟨20, (some 96), .load 1 false (.tm 95), (some (93, false)), [], [], false⟩,
 ⟨21, (some 97), .fld 1 (.tm 12), (some (93, false)), [], [], false⟩,
 ⟨22, (some 98), .load 1 false (.tm 97), (some (93, false)), [], [], false⟩,
 ⟨23, (some 99), .build [(.v (.int .i64 0)), (.v (.int .i64 0))] [(0, 1, (.tm 96)), (1, 1, (.tm 98))], (some (93, false)), [], [], false⟩,
 ⟨24, (some 100), .xop (.mapget 2 true false) [(.tm 94), (.tm 99)], (some (93, false)), [], [], false⟩,
 rq 25 101 (.pick (.tm 93) (.kv (.bool true)) (.tm 100))] 26 [2, 3, 5, 8, 9, 12, 63, 64, 65, 70, 71, 72, 101])
 (.cond (.tm 101)
 (.seq (.region [rq 0 4 (.move (.kv (.bool false)))] 1 [4])
 .ret)
 .skip))
 (.seq (.region [rq 0 102 (.move (.tm 8)),
 rq 1 103 (.fld 0 (.tm 12)),
 rq 2 104 (.load 1 false (.tm 103)),
 rq 3 105 (.fld 1 (.tm 12)),
 rq 4 106 (.load 1 false (.tm 105)),
 rq 5 107 (.build [(.v (.int .i64 0)), (.v (.int .i64 0))] [(0, 1, (.tm 104)), (1, 1, (.tm 106))]),
 rn 6 (.xop (.mapset 2 true) [(.tm 102), (.tm 107), (.kv (.bool true))])] 7 [2, 3, 5, 8, 9, 12, 63, 64, 65, 70, 71, 72])
 (.seq (.region [rq 0 108 (.move (.tm 9)),
 rq 1 109 (.bin .eql (.tm 108) (ki 0)),
 rq 2 110 (.move (.tm 109)),
 ⟨3, (some 111), .fld 2 (.tm 12), (some (110, true)), [], [], false⟩,
 ⟨4, (some 112), .load 3 true (.tm 111), (some (110, true)), [], [], false⟩,
 ⟨5, (some 113), .call n_impl_RspRsp_none [(.tm 112)], (some (110, true)), [], [], false⟩,
 ⟨6, (some 114), .un .not (.tm 113), (some (110, true)), [], [], false⟩,
 rq 7 115 (.pick (.tm 110) (.tm 114) (.kv (.bool false))),
 rq 8 116 (.move (.tm 115)),
 ⟨9, (some 117), .move (.tm 9), (some (116, false)), [], [], false⟩,
 ⟨10, (some 118), .bin .gtr (.tm 117) (ki 0), (some (116, false)), [], [], false⟩,
 ⟨11, (some 119), .move (.tm 118), (some (116, false)), [], [], false⟩,
 ⟨12, (some 120), .fld 2 (.tm 12), (some (119, true)), [], [], false⟩,
 ⟨13, (some 121), .load 3 true (.tm 120), (some (119, true)), [], [], false⟩,
 ⟨14, (some 122), .call n_impl_RspOk [(.tm 121)], (some (119, true)), [], [], false⟩,
 ⟨15, (some 123), .un .not (.tm 122), (some (119, true)), [], [], false⟩,
 ⟨16, (some 124), .move (.tm 123), (some (119, true)), [], [], false⟩,
 ⟨17, (some 125), .fld 2 (.tm 12), (some (124, false)), [], [], false⟩,
 ⟨18, (some 126), .fld 0 (.tm 125), (some (124, false)), [], [], false⟩,
 ⟨19, (some 127), .load 1 false (.tm 126), (some (124, false)), [], [], true⟩,
 ⟨20, (some 128), .load 3 true (.tm 2), (some (124, false)), [], [], false⟩,
 ⟨21, (some 129), .fld 0 (.tm 12), (some (124, false)), [], [], false⟩,
 ⟨22, (some 130), .load 1 false (.tm 129), (some (124, false)), [], [], false⟩,
 ⟨23, (some 131), .fld 1 (.tm 12), (some (124, false)), [], [], false⟩,
 ⟨24, (some 132), .load 1 false (.tm 131), (some (124, false)), [], [], false⟩,
 ⟨25, (some 133), .call n_impl_BusCfg_id [(.tm 128), (.tm 130), (.tm 132)], (some (124, false)), [], [19], false⟩,
 ⟨26, (some 134), .bin .neq (.tm 127) (.tm 133), (some (124, false)), [], [], false⟩,
 ⟨27, (some 135), .pick (.tm 124) (.kv (.bool true)) (.tm 134), (some (119, true)), [], [], false⟩,
 ⟨28, (some 136), .pick (.tm 119) (.tm 135) (.kv (.bool false)), (some (116, false)), [], [], false⟩,
 rq 29 137 (.pick (.tm 116) (.kv (.bool true)) (.tm 136))] 30 [2, 3, 5, 8, 9, 63, 64, 65, 70, 71, 72, 137])
 (.cond (.tm 137)
 (.seq (.region [rq 0 4 (.move (.kv (.bool false)))] 1 [4])
 .ret)
 .skip))))))
 (.region [rq 0 138 (.bin .add (.tm 72) (ki 1)),
 rq 1 72 (.move (.tm 138))] 2 [2, 3, 5, 8, 9, 63, 64, 65, 70, 71, 72])))))))))
 (.region [rq 0 139 (.bin .add (.tm 65) (ki 1)),
 rq 1 65 (.move (.tm 139))] 2 [2, 3, 5, 8, 63, 64, 65])))))))
 (.seq (.region [rq 0 140 (.move (.tm 8)),
 rq 1 141 (.xop .maplen [(.tm 140)]),
 rq 2 142 (.move (.tm 5)),
 rq 3 143 (.bin .eql (.tm 141) (.tm 142)),
 rq 4 4 (.move (.tm 143))] 5 [4])
 .ret)))))))
def ct_impl_BusCfg_tlmOk : List Cert := [⟨[], [2, 3]⟩, ⟨[], [2, 3, 34]⟩, ⟨[], [4]⟩, ⟨[], [2, 3, 5]⟩, ⟨[], [2, 3, 5, 36, 37, 38]⟩, ⟨[], [2, 3, 5, 36, 37, 38, 39]⟩, ⟨[], [2, 3, 5, 6, 7, 36, 37, 38]⟩, ⟨[], [2, 3, 5, 7, 36, 37, 38, 51]⟩, ⟨[], [4]⟩, ⟨[], [2, 3, 5, 36, 37, 38]⟩, ⟨[], [2, 3, 5, 36, 37, 38]⟩, ⟨[], [2, 3, 5, 8]⟩, ⟨[], [2, 3, 5, 8, 63, 64, 65]⟩, ⟨[], [2, 3, 5, 8, 63, 64, 65, 66]⟩, ⟨[], [2, 3, 5, 8, 9, 10, 63, 64, 65]⟩, ⟨[], [2, 3, 5, 8, 9, 63, 64, 65, 70, 71, 72]⟩, ⟨[], [2, 3, 5, 8, 9, 63, 64, 65, 70, 71, 72, 73]⟩, ⟨[], [2, 3, 5, 8, 9, 12, 63, 64, 65, 70, 71, 72]⟩, ⟨[cz 0, cz 1, cz 2, cz 3, cz 4, cz 5, cz 6, cz 7, cz 8, cz 9, cz 10, cz 11, cz 12, cz 13, cz 14, cz 15, cz 16, cz 17, cz 18, cz 19, cz 20, cz 21, cz 22, cz 23, cz 24, cz 25], [2, 3, 5, 8, 9, 12, 63, 64, 65, 70, 71, 72, 101]⟩, ⟨[], [4]⟩, ⟨[], [2, 3, 5, 8, 9, 12, 63, 64, 65, 70, 71, 72]⟩, ⟨[cz 0, cz 1, cz 2, cz 3, cz 4, cz 5, cz 6, cz 7, cz 8, cz 9, cz 10, cz 11, cz 12, cz 13, cz 14, cz 15, cz 16, cz 17, cz 18, (19, [], [], true), cz 20, cz 21, cz 22, cz 23, cz 24, (25, [], [19], false), cz 26, cz 27, cz 28, cz 29], [2, 3, 5, 8, 9, 63, 64, 65, 70, 71, 72, 137]⟩, ⟨[], [4]⟩, ⟨[], [2, 3, 5, 8, 9, 63, 64, 65, 70, 71, 72]⟩, ⟨[], [2, 3, 5, 8, 63, 64, 65]⟩, ⟨[], [4]⟩]
def rs_impl_BusCfg_tlmOk : List ResV := [.tm 4]
theorem ok_impl_BusCfg_tlmOk : compF Tryz.prog Tryz.f61 ct_impl_BusCfg_tlmOk = some (ac_impl_BusCfg_tlmOk, rs_impl_BusCfg_tlmOk) := by kernel_rfl
theorem en_impl_BusCfg_tlmOk : EnTy Tryz.prog n_impl_BusCfg_tlmOk Tryz.f61 ac_impl_BusCfg_tlmOk rs_impl_BusCfg_tlmOk :=
  EnTy.mk Tryz.func61 (by kernel_rfl) ok_impl_BusCfg_tlmOk

/- (loop.example/crossyard/impl.AtmState).copyOf -/
def ac_impl_AtmState_copyOf : AC :=
 (.seq (.region [rq 0 1 (.box true (.tm 0)),
 rq 1 2 (.alloc [(.osl 0 0 0 0 0), (.osl 0 0 0 0 0)])] 2 [1, 2])
 (.seq (.region [rq 0 3 (.fld 0 (.tm 1)),
 rq 1 4 (.fld 0 (.tm 3)),
 rq 2 5 (.load 1 false (.tm 4)),
 rq 5 8 (.fld 1 (.tm 1)),
 ⟨6, (some 9), .load 1 false (.tm 8), none, [], [], true⟩,
 ⟨3, (some 6), .call n_impl_clone_int [(.tm 5)], none, [], [6], false⟩,
 rq 4 7 (.build [(.osl 0 0 0 0 0)] [(0, 1, (.tm 6))]),
 rq 7 10 (.call n_impl_clone_int [(.tm 9)]),
 rq 8 11 (.build [(.osl 0 0 0 0 0), (.osl 0 0 0 0 0)] [(0, 1, (.tm 7)), (1, 1, (.tm 10))]),
 rn 9 (.store 2 true (.tm 2) (.tm 11))] 10 [2])
 .ret))
def ct_impl_AtmState_copyOf : List Cert := [⟨[], [1, 2]⟩, ⟨[cz 0, cz 1, cz 2, cz 5, (6, [], [], true), (3, [], [6], false), cz 4, cz 7, cz 8, cz 9], [2]⟩]
def rs_impl_AtmState_copyOf : List ResV := [.cell 2 2 true]
theorem ok_impl_AtmState_copyOf : compF Tryz.prog Tryz.f62 ct_impl_AtmState_copyOf = some (ac_impl_AtmState_copyOf, rs_impl_AtmState_copyOf) := by kernel_rfl
theorem en_impl_AtmState_copyOf : EnTy Tryz.prog n_impl_AtmState_copyOf Tryz.f62 ac_impl_AtmState_copyOf rs_impl_AtmState_copyOf :=
  EnTy.mk Tryz.func62 (by kernel_rfl) ok_impl_AtmState_copyOf

/- loop.example/crossyard/impl.clone[int] -/
def ac_impl_clone_int : AC :=
 (.seq (.region [rq 0 2 (.move (.kv (.slice none 0 0)))] 1 [0])
 (.seq (.region [rq 0 3 (.move (.tm 0)),
 rq 1 4 (.call n_slices_Clone_Zint_int [(.tm 3)]),
 rq 2 5 (.call n_slices_Clip_Zint_int [(.tm 4)]),
 rq 3 2 (.move (.tm 5))] 4 [2])
 .ret))
def ct_impl_clone_int : List Cert := [⟨[], [0]⟩, ⟨[], [2]⟩]
def rs_impl_clone_int : List ResV := [.tm 2]
theorem ok_impl_clone_int : compF Tryz.prog Tryz.f63 ct_impl_clone_int = some (ac_impl_clone_int, rs_impl_clone_int) := by kernel_rfl
theorem en_impl_clone_int : EnTy Tryz.prog n_impl_clone_int Tryz.f63 ac_impl_clone_int rs_impl_clone_int :=
  EnTy.mk Tryz.func63 (by kernel_rfl) ok_impl_clone_int

/- loop.example/crossyard/impl.in -/
def ac_impl_in : AC :=
 (.seq (.region [rq 0 6 (.move (.kv (.bool false)))] 1 [0, 1, 2])
 (.seq (.region [rq 0 7 (.move (.tm 0)),
 rq 1 8 (.move (.tm 1)),
 rq 2 9 (.bin .geq (.tm 7) (.tm 8)),
 rq 3 10 (.move (.tm 9)),
 ⟨4, (some 11), .move (.tm 0), (some (10, true)), [], [], false⟩,
 ⟨5, (some 12), .move (.tm 2), (some (10, true)), [], [], false⟩,
 ⟨6, (some 13), .bin .leq (.tm 11) (.tm 12), (some (10, true)), [], [], false⟩,
 rq 7 14 (.pick (.tm 10) (.tm 13) (.kv (.bool false))),
 rq 8 6 (.move (.tm 14))] 9 [6])
 .ret))
def ct_impl_in : List Cert := [⟨[], [0, 1, 2]⟩, ⟨[], [6]⟩]
def rs_impl_in : List ResV := [.tm 6]
theorem ok_impl_in : compF Tryz.prog Tryz.f64 ct_impl_in = some (ac_impl_in, rs_impl_in) := by kernel_rfl
theorem en_impl_in : EnTy Tryz.prog n_impl_in Tryz.f64 ac_impl_in rs_impl_in :=
  EnTy.mk Tryz.func64 (by kernel_rfl) ok_impl_in

/- loop.example/crossyard/impl.jobAt -/
def ac_impl_jobAt : AC :=
 (.seq (.region [rq 0 4 (.box false (.tm 1)),
 rq 1 5 (.box false (.tm 2)),
 rq 2 6 (.move (ki 0))] 3 [0, 4, 5])
 (.seq (.region [rq 0 7 (.move (.tm 0)),
 rq 1 8 (.xop (.mkclo n_impl_jobAt_1) [(.tm 4), (.tm 5)]),
 rq 2 9 (.call n_slices_IndexFunc_ZTlmJob_TlmJob [(.tm 7), (.tm 8)]),
 rq 3 6 (.move (.tm 9))] 4 [6])
 .ret))
def ct_impl_jobAt : List Cert := [⟨[], [0, 4, 5]⟩, ⟨[], [6]⟩]
def rs_impl_jobAt : List ResV := [.tm 6]
theorem ok_impl_jobAt : compF Tryz.prog Tryz.f65 ct_impl_jobAt = some (ac_impl_jobAt, rs_impl_jobAt) := by kernel_rfl
theorem en_impl_jobAt : EnTy Tryz.prog n_impl_jobAt Tryz.f65 ac_impl_jobAt rs_impl_jobAt :=
  EnTy.mk Tryz.func65 (by kernel_rfl) ok_impl_jobAt

/- (loop.example/crossyard/impl.BusCfg).ahead -/
def ac_impl_BusCfg_ahead : AC :=
 (.seq (.region [rq 0 3 (.box true (.tm 0)),
 rq 1 5 (.box true (.tm 2)),
 rq 2 6 (.move (.kv (.bool false)))] 3 [1, 3, 5])
 (.seq (.region [rq 0 7 (.move (.tm 1)),
 rq 1 8 (.xop (.mkclo n_impl_BusCfg_ahead_1) [(.tm 5), (.tm 3)]),
 rq 2 9 (.call n_slices_ContainsFunc_ZTlmJob_TlmJob [(.tm 7), (.tm 8)]),
 rq 3 6 (.move (.tm 9))] 4 [6])
 .ret))
def ct_impl_BusCfg_ahead : List Cert := [⟨[], [1, 3, 5]⟩, ⟨[], [6]⟩]
def rs_impl_BusCfg_ahead : List ResV := [.tm 6]
theorem ok_impl_BusCfg_ahead : compF Tryz.prog Tryz.f66 ct_impl_BusCfg_ahead = some (ac_impl_BusCfg_ahead, rs_impl_BusCfg_ahead) := by kernel_rfl
theorem en_impl_BusCfg_ahead : EnTy Tryz.prog n_impl_BusCfg_ahead Tryz.f66 ac_impl_BusCfg_ahead rs_impl_BusCfg_ahead :=
  EnTy.mk Tryz.func66 (by kernel_rfl) ok_impl_BusCfg_ahead

/- loop.example/crossyard/impl.insert -/
def ac_impl_insert : AC :=
 (.seq (.region [rq 0 3 (.box true (.tm 1)),
 rq 1 4 (.move (.kv (.slice none 0 0)))] 2 [0, 3])
 (.seq (.region [rq 0 8 (.move (.tm 0)),
 rq 1 9 (.load 5 true (.tm 3)),
 rq 2 10 (.call n_slices_BinarySearchFunc_ZTlmJob_TlmJob_TlmJob [(.tm 8), (.tm 9), (.fn n_impl_compareJobs)]),
 rq 3 7 (.move (.tm 10)),
 rq 4 11 (.ext (.tm 7) 0),
 rq 5 12 (.ext (.tm 7) 1),
 rq 6 5 (.move (.tm 11)),
 rq 7 6 (.move (.tm 12))] 8 [0, 3, 5])
 (.seq (.region [rq 0 13 (.move (.tm 0)),
 rq 1 14 (.move (.tm 5)),
 rq 2 15 (.load 5 true (.tm 3)),
 rq 3 16 (.bslice 5 1 [(.v (.int .i64 0)), (.v (.int .i64 0)), (.v (.int .i64 0)), (.v (.int .i64 0)), (.osl 0 0 0 0 0)] [(0, 5, (.tm 15))]),
 rq 4 17 (.call n_slices_Insert_ZTlmJob_TlmJob [(.tm 13), (.tm 14), (.tm 16)]),
 rq 5 4 (.move (.tm 17))] 6 [4])
 .ret)))
def ct_impl_insert : List Cert := [⟨[], [0, 3]⟩, ⟨[], [0, 3, 5]⟩, ⟨[], [4]⟩]
def rs_impl_insert : List ResV := [.tm 4]
theorem ok_impl_insert : compF Tryz.prog Tryz.f67 ct_impl_insert = some (ac_impl_insert, rs_impl_insert) := by kernel_rfl
theorem en_impl_insert : EnTy Tryz.prog n_impl_insert Tryz.f67 ac_impl_insert rs_impl_insert :=
  EnTy.mk Tryz.func67 (by kernel_rfl) ok_impl_insert

/- slices.Delete[[]loop.example/crossyard/impl.TlmJob,loop.example/crossyard/impl.TlmJob] -/
def ac_slices_Delete_ZTlmJob_TlmJob : AC :=
 (.seq (.region [rq 0 6 (.move (.kv (.slice none 0 0)))] 1 [0, 1, 2])
 (.seq (.region [rq 0 8 (.move (.tm 0)),
 rq 1 9 (.move (.tm 1)),
 rq 2 10 (.move (.tm 2)),
 rq 3 11 (.move (.tm 0)),
 rq 4 12 (.len false (.tm 11)),
 rq 5 13 (.slc 5 (.tm 8) (some (.tm 9)) (some (.tm 10)) (some (.tm 12)))] 6 [0, 1, 2])
 (.seq (.seq (.region [rq 0 14 (.move (.tm 1)),
 rq 1 15 (.move (.tm 2)),
 rq 2 16 (.bin .eql (.tm 14) (.tm 15))] 3 [0, 1, 2, 16])
 (.cond (.tm 16)
 (.seq (.region [rq 0 17 (.move (.tm 0)),
 rq 1 6 (.move (.tm 17))] 2 [6])
 .ret)
 .skip))
 (.seq (.region [rq 0 18 (.move (.tm 0)),
 rq 1 19 (.len false (.tm 18)),
 rq 2 7 (.move (.tm 19))] 3 [0, 1, 2, 7])
 (.seq (.region [rq 0 20 (.move (.tm 0)),
 rq 1 21 (.move (.tm 1)),
 rq 2 22 (.slc 5 (.tm 20) none (some (.tm 21)) none),
 rq 3 23 (.move (.tm 0)),
 rq 4 24 (.move (.tm 2)),
 rq 5 25 (.slc 5 (.tm 23) (some (.tm 24)) none none),
 rq 6 26 (.append 5 (.tm 22) (.tm 25)),
 rq 7 0 (.move (.tm 26))] 8 [0, 7])
 (.seq (.region [rq 0 27 (.move (.tm 0)),
 rq 1 28 (.move (.tm 0)),
 rq 2 29 (.len false (.tm 28)),
 rq 3 30 (.move (.tm 7)),
 rq 4 31 (.slc 5 (.tm 27) (some (.tm 29)) (some (.tm 30)) none),
 rn 5 (.xop (.clear 5 [(.v (.int .i64 0)), (.v (.int .i64 0)), (.v (.int .i64 0)), (.v (.int .i64 0)), (.osl 0 0 0 0 0)]) [(.tm 31)])] 6 [0])
 (.seq (.region [rq 0 32 (.move (.tm 0)),
 rq 1 6 (.move (.tm 32))] 2 [6])
 .ret)))))))
def ct_slices_Delete_ZTlmJob_TlmJob : List Cert := [⟨[], [0, 1, 2]⟩, ⟨[], [0, 1, 2]⟩, ⟨[], [0, 1, 2, 16]⟩, ⟨[], [6]⟩, ⟨[], [0, 1, 2, 7]⟩, ⟨[cz 0, cz 1, cz 2, cz 3, cz 4, cz 5, cz 6, cz 7], [0, 7]⟩, ⟨[], [0]⟩, ⟨[], [6]⟩]
def rs_slices_Delete_ZTlmJob_TlmJob : List ResV := [.tm 6]
theorem ok_slices_Delete_ZTlmJob_TlmJob : compF Tryz.prog Tryz.f68 ct_slices_Delete_ZTlmJob_TlmJob = some (ac_slices_Delete_ZTlmJob_TlmJob, rs_slices_Delete_ZTlmJob_TlmJob) := by kernel_rfl
theorem en_slices_Delete_ZTlmJob_TlmJob : EnTy Tryz.prog n_slices_Delete_ZTlmJob_TlmJob Tryz.f68 ac_slices_Delete_ZTlmJob_TlmJob rs_slices_Delete_ZTlmJob_TlmJob :=
  EnTy.mk Tryz.func68 (by kernel_rfl) ok_slices_Delete_ZTlmJob_TlmJob

/- loop.example/crossyard/impl.MemNew -/
def ac_impl_MemNew : AC :=
 (.seq (.region [rq 0 0 (.alloc [(.osl 0 0 0 0 0)])] 1 [0])
 (.seq (.region [rq 0 1 (.mkslice 1 [(.v (.int .i64 0))] (ki 64) (ki 64)),
 rq 1 2 (.build [(.osl 0 0 0 0 0)] [(0, 1, (.tm 1))]),
 rn 2 (.store 1 true (.tm 0) (.tm 2))] 3 [0])
 .ret))
def ct_impl_MemNew : List Cert := [⟨[], [0]⟩, ⟨[], [0]⟩]
def rs_impl_MemNew : List ResV := [.cell 0 1 true]
theorem ok_impl_MemNew : compF Tryz.prog Tryz.f69 ct_impl_MemNew = some (ac_impl_MemNew, rs_impl_MemNew) := by kernel_rfl
theorem en_impl_MemNew : EnTy Tryz.prog n_impl_MemNew Tryz.f69 ac_impl_MemNew rs_impl_MemNew :=
  EnTy.mk Tryz.func69 (by kernel_rfl) ok_impl_MemNew

/- slices.Repeat[[]int,int] -/
def ac_slices_Repeat_Zint_int : AC :=
 (.seq (.region [rq 0 4 (.move (.kv (.slice none 0 0)))] 1 [0, 1])
 (.seq (.seq (.region [rq 0 9 (.move (.tm 1)),
 rq 1 10 (.bin .lss (.tm 9) (ki 0))] 2 [0, 1, 10])
 (.cond (.tm 10)
 (.region [rq 0 11 (.xop .bad []),
 rn 1 (.xop .bad [])] 2 [0, 1])
 .skip))
 (.seq (.region [rq 0 13 (.move (.tm 0)),
 rq 1 14 (.len false (.tm 13)),
 rq 2 15 (.conv .u64 (.tm 14)),
 rq 3 16 (.move (.tm 1)),
 rq 4 17 (.conv .u64 (.tm 16)),
 rq 5 18 (.call n_math_bits_Mul [(.tm 15), (.tm 17)]),
 rq 6 12 (.move (.tm 18)),
 rq 7 19 (.ext (.tm 12) 0),
 rq 8 20 (.ext (.tm 12) 1),
 rq 9 5 (.move (.tm 19)),
 rq 10 6 (.move (.tm 20))] 11 [0, 5, 6])
 (.seq (.seq (.region [rq 0 21 (.move (.tm 5)),
 rq 1 22 (.bin .gtr (.tm 21) (.kv (.int .u64 0))),
 rq 2 23 (.move (.tm 22)),
 ⟨3, (some 24), .move (.tm 6), (some (23, false)), [], [], false⟩,
 ⟨4, (some 25), .bin .gtr (.tm 24) (.kv (.int .u64 9223372036854775807)), (some (23, false)), [], [], false⟩,
 rq 5 26 (.pick (.tm 23) (.kv (.bool true)) (.tm 25))] 6 [0, 6, 26])
 (.cond (.tm 26)
 (.region [rq 0 27 (.xop .bad []),
 rn 1 (.xop .bad [])] 2 [0, 6])
 .skip))
 (.seq (.region [rq 0 28 (.move (.tm 6)),
 rq 1 29 (.conv .i64 (.tm 28)),
 rq 2 30 (.mkslice 1 [(.v (.int .i64 0))] (.tm 29) (.tm 29)),
 rq 3 7 (.move (.tm 30))] 4 [0, 7])
 (.seq (.region [rq 0 31 (.move (.tm 7)),
 rq 1 32 (.move (.tm 0)),
 rq 2 33 (.xop (.copy 1) [(.tm 31), (.tm 32)]),
 rq 3 8 (.move (.tm 33))] 4 [7, 8])
 (.seq (.block 0
 (.loop
 (.seq (.seq (.region [rq 0 34 (.move (.tm 8)),
 rq 1 35 (.move (.tm 7)),
 rq 2 36 (.len false (.tm 35)),
 rq 3 37 (.bin .lss (.tm 34) (.tm 36))] 4 [7, 8, 37])
 (.cond (.tm 37)
 .skip
 (.exit 0)))
 (.block 1
 (.region [rq 0 38 (.move (.tm 8)),
 rq 1 39 (.move (.tm 7)),
 rq 2 40 (.move (.tm 8)),
 rq 3 41 (.slc 1 (.tm 39) (some (.tm 40)) none none),
 rq 4 42 (.move (.tm 7)),
 rq 5 43 (.move (.tm 8)),
 rq 6 44 (.slc 1 (.tm 42) none (some (.tm 43)) none),
 rq 7 45 (.xop (.copy 1) [(.tm 41), (.tm 44)]),
 rq 8 46 (.bin .add (.tm 38) (.tm 45)),
 rq 9 8 (.move (.tm 46))] 10 [7, 8])))))
 (.seq (.region [rq 0 47 (.move (.tm 7)),
 rq 1 4 (.move (.tm 47))] 2 [4])
 .ret))))))))
def ct_slices_Repeat_Zint_int : List Cert := [⟨[], [0, 1]⟩, ⟨[], [0, 1, 10]⟩, ⟨[], [0, 1]⟩, ⟨[], [0, 5, 6]⟩, ⟨[], [0, 6, 26]⟩, ⟨[], [0, 6]⟩, ⟨[], [0, 7]⟩, ⟨[], [7, 8]⟩, ⟨[], [7, 8, 37]⟩, ⟨[cz 0, cz 1, cz 2, cz 3, cz 4, cz 5, cz 6, cz 7, cz 8, cz 9], [7, 8]⟩, ⟨[], [4]⟩]
def rs_slices_Repeat_Zint_int : List ResV := [.tm 4]
theorem ok_slices_Repeat_Zint_int : compF Tryz.prog Tryz.f70 ct_slices_Repeat_Zint_int = some (ac_slices_Repeat_Zint_int, rs_slices_Repeat_Zint_int) := by kernel_rfl
theorem en_slices_Repeat_Zint_int : EnTy Tryz.prog n_slices_Repeat_Zint_int Tryz.f70 ac_slices_Repeat_Zint_int rs_slices_Repeat_Zint_int :=
  EnTy.mk Tryz.func70 (by kernel_rfl) ok_slices_Repeat_Zint_int

/- loop.example/crossyard/impl.MapOk -/
def ac_impl_MapOk : AC :=
 (.seq (.region [rq 0 2 (.move (.kv (.bool false)))] 1 [0])
 (.seq (.seq (.region [rq 0 5 (.move (.tm 0)),
 rq 1 6 (.len false (.tm 5)),
 rq 2 7 (.move (ki 0))] 3 [0, 5, 6, 7])
 (.block 0
 (.loop
 (.seq (.region [rq 0 8 (.bin .lss (.tm 7) (.tm 6))] 1 [0, 5, 6, 7, 8])
 (.seq (.cond (.tm 8)
 .skip
 (.exit 0))
 (.seq (.block 1
 (.seq (.region [rq 0 9 (.move (.tm 7)),
 rq 1 10 (.idx 4 (.tm 5) (.tm 7)),
 rq 2 11 (.load 4 true (.tm 10)),
 rq 3 4 (.alloc [(.v (.int .i64 0)), (.v (.int .i64 0)), (.v (.int .i64 0)), (.v (.bool false))]),
 rq 4 3 (.move (.tm 9)),
 rn 5 (.store 4 true (.tm 4) (.tm 11))] 6 [0, 3, 4, 5, 6, 7])
 (.seq (.region [rq 0 12 (.fld 0 (.tm 4)),
 rq 1 13 (.load 1 false (.tm 12)),
 rq 2 14 (.call n_impl_in [(.tm 13), (ki 0), (ki 63)]),
 rq 3 15 (.un .not (.tm 14)),
 rq 4 16 (.move (.tm 15)),
 ⟨5, (some 17), .fld 1 (.tm 4), (some (16, false)), [], [], false⟩,
 ⟨6, (some 18), .load 1 false (.tm 17), (some (16, false)), [], [], false⟩,
 ⟨7, (some 19), .fld 0 (.tm 4), (some (16, false)), [], [], false⟩,
 ⟨8, (some 20), .load 1 false (.tm 19), (some (16, false)), [], [], false⟩,
 ⟨9, (some 21), .call n_impl_in [(.tm 18), (.tm 20), (ki 63)], (some (16, false)), [], [], false⟩,
 ⟨10, (some 22), .un .not (.tm 21), (some (16, false)), [], [], false⟩,
 rq 11 23 (.pick (.tm 16) (.kv (.bool true)) (.tm 22)),
 rq 12 24 (.move (.tm 23)),
 ⟨13, (some 25), .fld 2 (.tm 4), (some (24, false)), [], [], false⟩,
 ⟨14, (some 26), .load 1 false (.tm 25), (some (24, false)), [], [], false⟩,
 ⟨15, (some 27), .call n_impl_in [(.tm 26), (ki 0), (ki 2)], (some (24, false)), [], [], false⟩,
 ⟨16, (some 28), .un .not (.tm 27), (some (24, false)), [], [], false⟩,
 rq 17 29 (.pick (.tm 24) (.kv (.bool true)) (.tm 28)),
 rq 18 30 (.move (.tm 29)),
 ⟨19, (some 31), .move (.tm 0), (some (30, false)), [], [], false⟩,
 ⟨20, (some 32), .move (.tm 3), (some (30, false)), [], [], false⟩,
 ⟨21, (some 33), .slc 4 (.tm 31) none (some (.tm 32)) none, (some (30, false)), [], [], false⟩,
 ⟨22, (some 34), .xop (.mkclo n_impl_MapOk_1) [(.tm 4)], (some (30, false)), [], [], false⟩,
 ⟨23, (some 35), .call n_slices_ContainsFunc_ZMapRange_MapRange [(.tm 33), (.tm 34)], (some (30, false)), [], [], false⟩,
 rq 24 36 (.pick (.tm 30) (.kv (.bool true)) (.tm 35))] 25 [0, 5, 6, 7, 36])
 (.cond (.tm 36)
 (.seq (.region [rq 0 2 (.move (.kv (.bool false)))] 1 [2])
 .ret)
 .skip))))
 (.region [rq 0 37 (.bin .add (.tm 7) (ki 1)),
 rq 1 7 (.move (.tm 37))] 2 [0, 5, 6, 7])))))))
 (.seq (.region [rq 0 38 (.move (.tm 0)),
 rq 1 39 (.len false (.tm 38)),
 rq 2 40 (.bin .leq (.tm 39) (ki 4)),
 rq 3 2 (.move (.tm 40))] 4 [2])
 .ret)))
def ct_impl_MapOk : List Cert := [⟨[], [0]⟩, ⟨[], [0, 5, 6, 7]⟩, ⟨[], [0, 5, 6, 7, 8]⟩, ⟨[], [0, 3, 4, 5, 6, 7]⟩, ⟨[], [0, 5, 6, 7, 36]⟩, ⟨[], [2]⟩, ⟨[], [0, 5, 6, 7]⟩, ⟨[], [2]⟩]
def rs_impl_MapOk : List ResV := [.tm 2]
theorem ok_impl_MapOk : compF Tryz.prog Tryz.f71 ct_impl_MapOk = some (ac_impl_MapOk, rs_impl_MapOk) := by kernel_rfl
theorem en_impl_MapOk : EnTy Tryz.prog n_impl_MapOk Tryz.f71 ac_impl_MapOk rs_impl_MapOk :=
  EnTy.mk Tryz.func71 (by kernel_rfl) ok_impl_MapOk

/- slices.ContainsFunc[[]int,int] -/
def ac_slices_ContainsFunc_Zint_int : AC :=
 (.seq (.region [rq 0 4 (.move (.kv (.bool false)))] 1 [0, 1])
 (.seq (.region [rq 0 5 (.move (.tm 0)),
 rq 1 6 (.move (.tm 1)),
 rq 2 7 (.call n_slices_IndexFunc_Zint_int [(.tm 5), (.tm 6)]),
 rq 3 8 (.bin .geq (.tm 7) (ki 0)),
 rq 4 4 (.move (.tm 8))] 5 [4])
 .ret))
def ct_slices_ContainsFunc_Zint_int : List Cert := [⟨[], [0, 1]⟩, ⟨[], [4]⟩]
def rs_slices_ContainsFunc_Zint_int : List ResV := [.tm 4]
theorem ok_slices_ContainsFunc_Zint_int : compF Tryz.prog Tryz.f72 ct_slices_ContainsFunc_Zint_int = some (ac_slices_ContainsFunc_Zint_int, rs_slices_ContainsFunc_Zint_int) := by kernel_rfl
theorem en_slices_ContainsFunc_Zint_int : EnTy Tryz.prog n_slices_ContainsFunc_Zint_int Tryz.f72 ac_slices_ContainsFunc_Zint_int rs_slices_ContainsFunc_Zint_int :=
  EnTy.mk Tryz.func72 (by kernel_rfl) ok_slices_ContainsFunc_Zint_int

/- loop.example/crossyard/impl.BusOk$1 -/
def ac_impl_BusOk_1 : AC :=
 (.seq (.region [rq 0 2 (.move (.kv (.bool false)))] 1 [0])
 (.seq (.region [rq 0 3 (.move (.tm 0)),
 rq 1 4 (.call n_impl_in [(.tm 3), (ki 0), (ki 3)]),
 rq 2 5 (.un .not (.tm 4)),
 rq 3 2 (.move (.tm 5))] 4 [2])
 .ret))
def ct_impl_BusOk_1 : List Cert := [⟨[], [0]⟩, ⟨[], [2]⟩]
def rs_impl_BusOk_1 : List ResV := [.tm 2]
theorem ok_impl_BusOk_1 : compF Tryz.prog Tryz.f73 ct_impl_BusOk_1 = some (ac_impl_BusOk_1, rs_impl_BusOk_1) := by kernel_rfl
theorem en_impl_BusOk_1 : EnTy Tryz.prog n_impl_BusOk_1 Tryz.f73 ac_impl_BusOk_1 rs_impl_BusOk_1 :=
  EnTy.mk Tryz.func73 (by kernel_rfl) ok_impl_BusOk_1

/- slices.ContainsFunc[[][]loop.example/crossyard/impl.ReqReq,[]loop.example/crossyard/impl.ReqReq] -/
def ac_slices_ContainsFunc_ZZReqReq_ZReqReq : AC :=
 (.seq (.region [rq 0 4 (.move (.kv (.bool false)))] 1 [0, 1])
 (.seq (.region [rq 0 5 (.move (.tm 0)),
 rq 1 6 (.move (.tm 1)),
 rq 2 7 (.call n_slices_IndexFunc_ZZReqReq_ZReqReq [(.tm 5), (.tm 6)]),
 rq 3 8 (.bin .geq (.tm 7) (ki 0)),
 rq 4 4 (.move (.tm 8))] 5 [4])
 .ret))
def ct_slices_ContainsFunc_ZZReqReq_ZReqReq : List Cert := [⟨[], [0, 1]⟩, ⟨[], [4]⟩]
def rs_slices_ContainsFunc_ZZReqReq_ZReqReq : List ResV := [.tm 4]
theorem ok_slices_ContainsFunc_ZZReqReq_ZReqReq : compF Tryz.prog Tryz.f74 ct_slices_ContainsFunc_ZZReqReq_ZReqReq = some (ac_slices_ContainsFunc_ZZReqReq_ZReqReq, rs_slices_ContainsFunc_ZZReqReq_ZReqReq) := by kernel_rfl
theorem en_slices_ContainsFunc_ZZReqReq_ZReqReq : EnTy Tryz.prog n_slices_ContainsFunc_ZZReqReq_ZReqReq Tryz.f74 ac_slices_ContainsFunc_ZZReqReq_ZReqReq rs_slices_ContainsFunc_ZZReqReq_ZReqReq :=
  EnTy.mk Tryz.func74 (by kernel_rfl) ok_slices_ContainsFunc_ZZReqReq_ZReqReq

/- loop.example/crossyard/impl.BusOk$2 -/
def ac_impl_BusOk_2 : AC :=
 (.seq (.region [rq 0 2 (.move (.kv (.bool false)))] 1 [0])
 (.seq (.region [rq 0 3 (.move (.tm 0)),
 rq 1 4 (.len false (.tm 3)),
 rq 2 5 (.bin .gtr (.tm 4) (ki 12)),
 rq 3 6 (.move (.tm 5)),
 ⟨4, (some 7), .move (.tm 0), (some (6, false)), [], [], false⟩,
 ⟨5, (some 8), .call n_slices_ContainsFunc_ZReqReq_ReqReq [(.tm 7), (.fn n_impl_BusOk_2_1)], (some (6, false)), [], [], false⟩,
 rq 6 9 (.pick (.tm 6) (.kv (.bool true)) (.tm 8)),
 rq 7 2 (.move (.tm 9))] 8 [2])
 .ret))
def ct_impl_BusOk_2 : List Cert := [⟨[], [0]⟩, ⟨[], [2]⟩]
def rs_impl_BusOk_2 : List ResV := [.tm 2]
theorem ok_impl_BusOk_2 : compF Tryz.prog Tryz.f75 ct_impl_BusOk_2 = some (ac_impl_BusOk_2, rs_impl_BusOk_2) := by kernel_rfl
theorem en_impl_BusOk_2 : EnTy Tryz.prog n_impl_BusOk_2 Tryz.f75 ac_impl_BusOk_2 rs_impl_BusOk_2 :=
  EnTy.mk Tryz.func75 (by kernel_rfl) ok_impl_BusOk_2

/- slices.ContainsFunc[[]loop.example/crossyard/impl.ReqReq,loop.example/crossyard/impl.ReqReq] -/
def ac_slices_ContainsFunc_ZReqReq_ReqReq : AC :=
 (.seq (.region [rq 0 4 (.move (.kv (.bool false)))] 1 [0, 1])
 (.seq (.region [rq 0 5 (.move (.tm 0)),
 rq 1 6 (.move (.tm 1)),
 rq 2 7 (.call n_slices_IndexFunc_ZReqReq_ReqReq [(.tm 5), (.tm 6)]),
 rq 3 8 (.bin .geq (.tm 7) (ki 0)),
 rq 4 4 (.move (.tm 8))] 5 [4])
 .ret))
def ct_slices_ContainsFunc_ZReqReq_ReqReq : List Cert := [⟨[], [0, 1]⟩, ⟨[], [4]⟩]
def rs_slices_ContainsFunc_ZReqReq_ReqReq : List ResV := [.tm 4]
theorem ok_slices_ContainsFunc_ZReqReq_ReqReq : compF Tryz.prog Tryz.f76 ct_slices_ContainsFunc_ZReqReq_ReqReq = some (ac_slices_ContainsFunc_ZReqReq_ReqReq, rs_slices_ContainsFunc_ZReqReq_ReqReq) := by kernel_rfl
theorem en_slices_ContainsFunc_ZReqReq_ReqReq : EnTy Tryz.prog n_slices_ContainsFunc_ZReqReq_ReqReq Tryz.f76 ac_slices_ContainsFunc_ZReqReq_ReqReq rs_slices_ContainsFunc_ZReqReq_ReqReq :=
  EnTy.mk Tryz.func76 (by kernel_rfl) ok_slices_ContainsFunc_ZReqReq_ReqReq

/- loop.example/crossyard/impl.BusOk$2$1 -/
def ac_impl_BusOk_2_1 : AC :=
 (.seq (.region [rq 0 1 (.box true (.tm 0)),
 rq 1 2 (.move (.kv (.bool false)))] 2 [1])
 (.seq (.region [rq 0 3 (.load 7 true (.tm 1)),
 rq 1 4 (.call n_impl_ReqOk [(.tm 3)]),
 rq 2 5 (.un .not (.tm 4)),
 rq 3 2 (.move (.tm 5))] 4 [2])
 .ret))
def ct_impl_BusOk_2_1 : List Cert := [⟨[], [1]⟩, ⟨[], [2]⟩]
def rs_impl_BusOk_2_1 : List ResV := [.tm 2]
theorem ok_impl_BusOk_2_1 : compF Tryz.prog Tryz.f77 ct_impl_BusOk_2_1 = some (ac_impl_BusOk_2_1, rs_impl_BusOk_2_1) := by kernel_rfl
theorem en_impl_BusOk_2_1 : EnTy Tryz.prog n_impl_BusOk_2_1 Tryz.f77 ac_impl_BusOk_2_1 rs_impl_BusOk_2_1 :=
  EnTy.mk Tryz.func77 (by kernel_rfl) ok_impl_BusOk_2_1

/- loop.example/crossyard/impl.ReqOk -/
def ac_impl_ReqOk : AC :=
 (.seq (.region [rq 0 1 (.box true (.tm 0)),
 rq 1 2 (.move (.kv (.bool false)))] 2 [1])
 (.seq (.region [rq 0 3 (.move (ki 0))] 1 [1, 3])
 (.seq (.seq (.region [rq 0 4 (.load 7 true (.tm 1)),
 rq 1 5 (.call n_impl_ReqReq_writes [(.tm 4)])] 2 [1, 3, 5])
 (.cond (.tm 5)
 (.region [rq 0 6 (.fld 3 (.tm 1)),
 rq 1 7 (.load 1 false (.tm 6)),
 rq 2 3 (.move (.tm 7))] 3 [1, 3])
 .skip))
 (.seq (.region [rq 0 8 (.fld 0 (.tm 1)),
 rq 1 9 (.load 1 false (.tm 8)),
 rq 2 10 (.call n_impl_in [(.tm 9), (ki 0), (ki 1)]),
 rq 3 11 (.move (.tm 10)),
 ⟨4, (some 12), .fld 1 (.tm 1), (some (11, true)), [], [], false⟩,
 ⟨5, (some 13), .load 1 false (.tm 12), (some (11, true)), [], [], false⟩,
 ⟨6, (some 14), .call n_impl_in [(.tm 13), (ki 1), (ki 4)], (some (11, true)), [], [], false⟩,
 rq 7 15 (.pick (.tm 11) (.tm 14) (.kv (.bool false))),
 rq 8 16 (.move (.tm 15)),
 ⟨9, (some 17), .fld 2 (.tm 1), (some (16, true)), [], [], false⟩,
 ⟨10, (some 18), .load 1 false (.tm 17), (some (16, true)), [], [], false⟩,
 ⟨11, (some 19), .fld 3 (.tm 1), (some (16, true)), [], [], false⟩,
 ⟨12, (some 20), .load 1 false (.tm 19), (some (16, true)), [], [], false⟩,
 ⟨13, (some 21), .fld 4 (.tm 1), (some (16, true)), [], [], false⟩,
 ⟨14, (some 22), .load 1 false (.tm 21), (some (16, true)), [], [], false⟩,
 ⟨15, (some 23), .call n_impl_AdrOk [(.tm 18), (.tm 20), (.tm 22)], (some (16, true)), [], [], false⟩,
 rq 16 24 (.pick (.tm 16) (.tm 23) (.kv (.bool false))),
 rq 17 25 (.move (.tm 24)),
 ⟨18, (some 26), .fld 5 (.tm 1), (some (25, true)), [], [], false⟩,
 ⟨19, (some 27), .load 1 false (.tm 26), (some (25, true)), [], [], false⟩,
 ⟨20, (some 28), .len false (.tm 27), (some (25, true)), [], [], false⟩,
 ⟨21, (some 29), .move (.tm 3), (some (25, true)), [], [], false⟩,
 ⟨22, (some 30), .bin .eql (.tm 28) (.tm 29), (some (25, true)), [], [], false⟩,
 rq 23 31 (.pick (.tm 25) (.tm 30) (.kv (.bool false))),
 rq 24 32 (.move (.tm 31)),
 ⟨25, (some 33), .fld 6 (.tm 1), (some (32, true)), [], [], false⟩,
 ⟨26, (some 34), .load 1 false (.tm 33), (some (32, true)), [], [], false⟩,
 ⟨27, (some 35), .len false (.tm 34), (some (32, true)), [], [], false⟩,
 ⟨28, (some 36), .move (.tm 3), (some (32, true)), [], [], false⟩,
 ⟨29, (some 37), .bin .eql (.tm 35) (.tm 36), (some (32, true)), [], [], false⟩,
 rq 30 38 (.pick (.tm 32) (.tm 37) (.kv (.bool false))),
 rq 31 39 (.move (.tm 38)),
 ⟨32, (some 40), .fld 5 (.tm 1), (some (39, true)), [], [], false⟩,
 ⟨33, (some 41), .load 1 false (.tm 40), (some (39, true)), [], [], false⟩,
 ⟨34, (some 42), .call n_impl_areWords [(.tm 41)], (some (39, true)), [], [], false⟩,
 rq 35 43 (.pick (.tm 39) (.tm 42) (.kv (.bool false))),
 rq 36 44 (.move (.tm 43)),
 ⟨37, (some 45), .fld 6 (.tm 1), (some (44, true)), [], [], false⟩,
 ⟨38, (some 46), .load 1 false (.tm 45), (some (44, true)), [], [], false⟩,
 ⟨39, (some 47), .call n_slices_ContainsFunc_Zint_int [(.tm 46), (.fn n_impl_ReqOk_1)], (some (44, true)), [], [], false⟩,
 ⟨40, (some 48), .un .not (.tm 47), (some (44, true)), [], [], false⟩,
 rq 41 49 (.pick (.tm 44) (.tm 48) (.kv (.bool false))),
 rq 42 50 (.move (.tm 49)),
 ⟨43, (some 51), .fld 1 (.tm 1), (some (50, true)), [], [], false⟩,
 ⟨44, (some 52), .load 1 false (.tm 51), (some (50, true)), [], [], false⟩,
 ⟨45, (some 53), .bin .eql (.tm 52) (ki 1), (some (50, true)), [], [], false⟩,
 ⟨46, (some 54), .move (.tm 53), (some (50, true)), [], [], false⟩,
 ⟨47, (some 55), .fld 1 (.tm 1), (some (54, false)), [], [], false⟩,
 ⟨48, (some 56), .load 1 false (.tm 55), (some (54, false)), [], [], false⟩,
 ⟨49, (some 57), .bin .eql (.tm 56) (ki 2), (some (54, false)), [], [], false⟩,
 ⟨50, (some 58), .pick (.tm 54) (.kv (.bool true)) (.tm 57), (some (50, true)), [], [], false⟩,
 ⟨51, (some 59), .move (.tm 58), (some (50, true)), [], [], false⟩,
 ⟨52, (some 60), .fld 3 (.tm 1), (some (59, false)), [], [], false⟩,
 ⟨53, (some 61), .load 1 false (.tm 60), (some (59, false)), [], [], false⟩,
 ⟨54, (some 62), .bin .eql (.tm 61) (ki 1), (some (59, false)), [], [], false⟩,
 ⟨55, (some 63), .pick (.tm 59) (.kv (.bool true)) (.tm 62), (some (50, true)), [], [], false⟩,
 rq 56 64 (.pick (.tm 50) (.tm 63) (.kv (.bool false))),
 rq 57 2 (.move (.tm 64))] 58 [2])
 .ret))))
def ct_impl_ReqOk : List Cert := [⟨[], [1]⟩, ⟨[], [1, 3]⟩, ⟨[], [1, 3, 5]⟩, ⟨[], [1, 3]⟩, ⟨[], [2]⟩]
def rs_impl_ReqOk : List ResV := [.tm 2]
theorem ok_impl_ReqOk : compF Tryz.prog Tryz.f78 ct_impl_ReqOk = some (ac_impl_ReqOk, rs_impl_ReqOk) := by kernel_rfl
theorem en_impl_ReqOk : EnTy Tryz.prog n_impl_ReqOk Tryz.f78 ac_impl_ReqOk rs_impl_ReqOk :=
  EnTy.mk Tryz.func78 (by kernel_rfl) ok_impl_ReqOk

/- loop.example/crossyard/impl.clone[loop.example/crossyard/impl.TlmJob] -/
def ac_impl_clone_impl_TlmJob : AC :=
 (.seq (.region [rq 0 2 (.move (.kv (.slice none 0 0)))] 1 [0])
 (.seq (.region [rq 0 3 (.move (.tm 0)),
 rq 1 4 (.call n_slices_Clone_ZTlmJob_TlmJob [(.tm 3)]),
 rq 2 5 (.call n_slices_Clip_ZTlmJob_TlmJob [(.tm 4)]),
 rq 3 2 (.move (.tm 5))] 4 [2])
 .ret))
def ct_impl_clone_impl_TlmJob : List Cert := [⟨[], [0]⟩, ⟨[], [2]⟩]
def rs_impl_clone_impl_TlmJob : List ResV := [.tm 2]
theorem ok_impl_clone_impl_TlmJob : compF Tryz.prog Tryz.f79 ct_impl_clone_impl_TlmJob = some (ac_impl_clone_impl_TlmJob, rs_impl_clone_impl_TlmJob) := by kernel_rfl
theorem en_impl_clone_impl_TlmJob : EnTy Tryz.prog n_impl_clone_impl_TlmJob Tryz.f79 ac_impl_clone_impl_TlmJob rs_impl_clone_impl_TlmJob :=
  EnTy.mk Tryz.func79 (by kernel_rfl) ok_impl_clone_impl_TlmJob

/- (loop.example/crossyard/impl.ReqReq).burst -/
def ac_impl_ReqReq_burst : AC :=
 (.seq (.region [rq 0 1 (.box true (.tm 0)),
 rq 1 2 (.move (.kv (.slice none 0 0)))] 2 [1])
 (.seq (.region [rq 0 3 (.fld 2 (.tm 1)),
 rq 1 4 (.load 1 false (.tm 3)),
 rq 2 5 (.fld 3 (.tm 1)),
 rq 3 6 (.load 1 false (.tm 5)),
 rq 4 7 (.fld 4 (.tm 1)),
 rq 5 8 (.load 1 false (.tm 7)),
 rq 6 9 (.call n_impl_AdrBurst [(.tm 4), (.tm 6), (.tm 8)]),
 rq 7 2 (.move (.tm 9))] 8 [2])
 .ret))
def ct_impl_ReqReq_burst : List Cert := [⟨[], [1]⟩, ⟨[], [2]⟩]
def rs_impl_ReqReq_burst : List ResV := [.tm 2]
theorem ok_impl_ReqReq_burst : compF Tryz.prog Tryz.f80 ct_impl_ReqReq_burst = some (ac_impl_ReqReq_burst, rs_impl_ReqReq_burst) := by kernel_rfl
theorem en_impl_ReqReq_burst : EnTy Tryz.prog n_impl_ReqReq_burst Tryz.f80 ac_impl_ReqReq_burst rs_impl_ReqReq_burst :=
  EnTy.mk Tryz.func80 (by kernel_rfl) ok_impl_ReqReq_burst

/- slices.Contains[[]int,int] -/
def ac_slices_Contains_Zint_int : AC :=
 (.seq (.region [rq 0 4 (.move (.kv (.bool false)))] 1 [0, 1])
 (.seq (.region [rq 0 5 (.move (.tm 0)),
 rq 1 6 (.move (.tm 1)),
 rq 2 7 (.call n_slices_Index_Zint_int [(.tm 5), (.tm 6)]),
 rq 3 8 (.bin .geq (.tm 7) (ki 0)),
 rq 4 4 (.move (.tm 8))] 5 [4])
 .ret))
def ct_slices_Contains_Zint_int : List Cert := [⟨[], [0, 1]⟩, ⟨[], [4]⟩]
def rs_slices_Contains_Zint_int : List ResV := [.tm 4]
theorem ok_slices_Contains_Zint_int : compF Tryz.prog Tryz.f82 ct_slices_Contains_Zint_int = some (ac_slices_Contains_Zint_int, rs_slices_Contains_Zint_int) := by kernel_rfl
theorem en_slices_Contains_Zint_int : EnTy Tryz.prog n_slices_Contains_Zint_int Tryz.f82 ac_slices_Contains_Zint_int rs_slices_Contains_Zint_int :=
  EnTy.mk Tryz.func82 (by kernel_rfl) ok_slices_Contains_Zint_int

/- loop.example/crossyard/impl.isMaster -/
def ac_impl_isMaster : AC :=
 (.seq (.region [rq 0 2 (.move (.kv (.bool false)))] 1 [0])
 (.seq (.region [rq 0 3 (.move (.tm 0)),
 rq 1 4 (.call n_impl_in [(.tm 3), (ki 0), (ki 2)]),
 rq 2 2 (.move (.tm 4))] 3 [2])
 .ret))
def ct_impl_isMaster : List Cert := [⟨[], [0]⟩, ⟨[], [2]⟩]
def rs_impl_isMaster : List ResV := [.tm 2]
theorem ok_impl_isMaster : compF Tryz.prog Tryz.f83 ct_impl_isMaster = some (ac_impl_isMaster, rs_impl_isMaster) := by kernel_rfl
theorem en_impl_isMaster : EnTy Tryz.prog n_impl_isMaster Tryz.f83 ac_impl_isMaster rs_impl_isMaster :=
  EnTy.mk Tryz.func83 (by kernel_rfl) ok_impl_isMaster

/- loop.example/crossyard/impl.whole -/
def ac_impl_whole : AC :=
 (.seq (.region [rq 0 3 (.box true (.tm 1)),
 rq 1 4 (.move (ki 0))] 2 [0, 3])
 (.seq (.region [rq 0 5 (.move (.kv (.int .i64 (-1))))] 1 [0, 3, 5])
 (.seq (.seq (.region [rq 0 9 (.load 7 true (.tm 3)),
 rq 1 10 (.call n_impl_ReqReq_burst [(.tm 9)]),
 rq 2 11 (.len false (.tm 10)),
 rq 3 12 (.move (ki 0))] 4 [0, 5, 10, 11, 12])
 (.block 0
 (.loop
 (.seq (.region [rq 0 13 (.bin .lss (.tm 12) (.tm 11))] 1 [0, 5, 10, 11, 12, 13])
 (.seq (.cond (.tm 13)
 .skip
 (.exit 0))
 (.seq (.block 1
 (.seq (.region [rq 0 14 (.move (.tm 12)),
 rq 1 15 (.idx 1 (.tm 10) (.tm 12)),
 rq 2 16 (.load 1 false (.tm 15)),
 rq 3 6 (.move (.tm 14)),
 rq 4 7 (.move (.tm 16))] 5 [0, 5, 6, 7, 10, 11, 12])
 (.seq (.region [rq 0 17 (.move (.tm 0)),
 rq 1 18 (.move (.tm 7)),
 rq 2 19 (.call n_impl_rangeOf [(.tm 17), (.tm 18)]),
 rq 3 8 (.move (.tm 19))] 4 [0, 5, 6, 8, 10, 11, 12])
 (.seq (.seq (.region [rq 0 20 (.move (.tm 8)),
 rq 1 21 (.bin .lss (.tm 20) (ki 0)),
 rq 2 22 (.move (.tm 21)),
 ⟨3, (some 23), .move (.tm 6), (some (22, false)), [], [], false⟩,
 ⟨4, (some 24), .bin .gtr (.tm 23) (ki 0), (some (22, false)), [], [], false⟩,
 ⟨5, (some 25), .move (.tm 24), (some (22, false)), [], [], false⟩,
 ⟨6, (some 26), .move (.tm 8), (some (25, true)), [], [], false⟩,
 ⟨7, (some 27), .move (.tm 5), (some (25, true)), [], [], false⟩,
 ⟨8, (some 28), .bin .neq (.tm 26) (.tm 27), (some (25, true)), [], [], false⟩,
 ⟨9, (some 29), .pick (.tm 25) (.tm 28) (.kv (.bool false)), (some (22, false)), [], [], false⟩,
 rq 10 30 (.pick (.tm 22) (.kv (.bool true)) (.tm 29))] 11 [0, 8, 10, 11, 12, 30])
 (.cond (.tm 30)
 (.seq (.region [rq 0 4 (.move (.kv (.int .i64 (-1))))] 1 [4])
 .ret)
 .skip))
 (.region [rq 0 31 (.move (.tm 8)),
 rq 1 5 (.move (.tm 31))] 2 [0, 5, 10, 11, 12])))))
 (.region [rq 0 32 (.bin .add (.tm 12) (ki 1)),
 rq 1 12 (.move (.tm 32))] 2 [0, 5, 10, 11, 12])))))))
 (.seq (.region [rq 0 33 (.move (.tm 5)),
 rq 1 4 (.move (.tm 33))] 2 [4])
 .ret))))
def ct_impl_whole : List Cert := [⟨[], [0, 3]⟩, ⟨[], [0, 3, 5]⟩, ⟨[], [0, 5, 10, 11, 12]⟩, ⟨[], [0, 5, 10, 11, 12, 13]⟩, ⟨[], [0, 5, 6, 7, 10, 11, 12]⟩, ⟨[], [0, 5, 6, 8, 10, 11, 12]⟩, ⟨[], [0, 8, 10, 11, 12, 30]⟩, ⟨[], [4]⟩, ⟨[], [0, 5, 10, 11, 12]⟩, ⟨[], [0, 5, 10, 11, 12]⟩, ⟨[], [4]⟩]
def rs_impl_whole : List ResV := [.tm 4]
theorem ok_impl_whole : compF Tryz.prog Tryz.f84 ct_impl_whole = some (ac_impl_whole, rs_impl_whole) := by kernel_rfl
theorem en_impl_whole : EnTy Tryz.prog n_impl_whole Tryz.f84 ac_impl_whole rs_impl_whole :=
  EnTy.mk Tryz.func84 (by kernel_rfl) ok_impl_whole

/- (loop.example/crossyard/impl.ReqReq).writes -/
def ac_impl_ReqReq_writes : AC :=
 (.seq (.region [rq 0 1 (.box true (.tm 0)),
 rq 1 2 (.move (.kv (.bool false)))] 2 [1])
 (.seq (.region [rq 0 3 (.fld 1 (.tm 1)),
 rq 1 4 (.load 1 false (.tm 3)),
 rq 2 5 (.bin .eql (.tm 4) (ki 2)),
 rq 3 6 (.move (.tm 5)),
 ⟨4, (some 7), .fld 1 (.tm 1), (some (6, false)), [], [], false⟩,
 ⟨5, (some 8), .load 1 false (.tm 7), (some (6, false)), [], [], false⟩,
 ⟨6, (some 9), .bin .eql (.tm 8) (ki 4), (some (6, false)), [], [], false⟩,
 rq 7 10 (.pick (.tm 6) (.kv (.bool true)) (.tm 9)),
 rq 8 2 (.move (.tm 10))] 9 [2])
 .ret))
def ct_impl_ReqReq_writes : List Cert := [⟨[], [1]⟩, ⟨[], [2]⟩]
def rs_impl_ReqReq_writes : List ResV := [.tm 2]
theorem ok_impl_ReqReq_writes : compF Tryz.prog Tryz.f85 ct_impl_ReqReq_writes = some (ac_impl_ReqReq_writes, rs_impl_ReqReq_writes) := by kernel_rfl
theorem en_impl_ReqReq_writes : EnTy Tryz.prog n_impl_ReqReq_writes Tryz.f85 ac_impl_ReqReq_writes rs_impl_ReqReq_writes :=
  EnTy.mk Tryz.func85 (by kernel_rfl) ok_impl_ReqReq_writes

/- loop.example/crossyard/impl.put -/
def ac_impl_put : AC :=
 (.seq (.region [rq 0 6 (.move (ki 0))] 1 [0, 1, 2])
 (.seq (.region [rq 0 8 (.move (.tm 2)),
 rq 1 9 (.bin .and (.tm 8) (ki 1)),
 rq 2 10 (.bin .mul (.tm 9) (ki 255)),
 rq 3 11 (.move (.tm 2)),
 rq 4 12 (.bin .shr (.tm 11) (.kv (.int .u64 1))),
 rq 5 13 (.bin .mul (.tm 12) (ki 65280)),
 rq 6 14 (.bin .or (.tm 10) (.tm 13)),
 rq 7 7 (.move (.tm 14))] 8 [0, 1, 7])
 (.seq (.region [rq 0 15 (.move (.tm 0)),
 rq 1 16 (.move (.tm 7)),
 rq 2 17 (.bin .andNot (.tm 15) (.tm 16)),
 rq 3 18 (.move (.tm 1)),
 rq 4 19 (.move (.tm 7)),
 rq 5 20 (.bin .and (.tm 18) (.tm 19)),
 rq 6 21 (.bin .or (.tm 17) (.tm 20)),
 rq 7 6 (.move (.tm 21))] 8 [6])
 .ret)))
def ct_impl_put : List Cert := [⟨[], [0, 1, 2]⟩, ⟨[], [0, 1, 7]⟩, ⟨[], [6]⟩]
def rs_impl_put : List ResV := [.tm 6]
theorem ok_impl_put : compF Tryz.prog Tryz.f86 ct_impl_put = some (ac_impl_put, rs_impl_put) := by kernel_rfl
theorem en_impl_put : EnTy Tryz.prog n_impl_put Tryz.f86 ac_impl_put rs_impl_put :=
  EnTy.mk Tryz.func86 (by kernel_rfl) ok_impl_put

/- slices.IndexFunc[[]loop.example/crossyard/impl.TlmEvent,loop.example/crossyard/impl.TlmEvent] -/
def ac_slices_IndexFunc_ZTlmEvent_TlmEvent : AC :=
 (.seq (.region [rq 0 4 (.move (ki 0))] 1 [0, 1])
 (.seq (.seq (.region [rq 0 6 (.move (.tm 0)),
 rq 1 7 (.len false (.tm 6)),
 rq 2 8 (.move (ki 0))] 3 [0, 1, 7, 8])
 (.block 0
 (.loop
 (.seq (.region [rq 0 9 (.bin .lss (.tm 8) (.tm 7))] 1 [0, 1, 7, 8, 9])
 (.seq (.cond (.tm 9)
 .skip
 (.exit 0))
 (.seq (.block 1
 (.seq (.region [rq 0 10 (.move (.tm 8)),
 rq 1 5 (.move (.tm 10))] 2 [0, 1, 5, 7, 8])
 (.seq (.region [rq 0 11 (.move (.tm 1)),
 rq 1 12 (.move (.tm 0)),
 rq 2 13 (.move (.tm 5)),
 rq 3 14 (.idx 3 (.tm 12) (.tm 13)),
 rq 4 15 (.load 3 true (.tm 14)),
 rq 5 16 (.callv (.tm 11) [(.tm 15)])] 6 [0, 1, 5, 7, 8, 16])
 (.cond (.tm 16)
 (.seq (.region [rq 0 17 (.move (.tm 5)),
 rq 1 4 (.move (.tm 17))] 2 [4])
 .ret)
 .skip))))
 (.region [rq 0 18 (.bin .add (.tm 8) (ki 1)),
 rq 1 8 (.move (.tm 18))] 2 [0, 1, 7, 8])))))))
 (.seq (.region [rq 0 4 (.move (.kv (.int .i64 (-1))))] 1 [4])
 .ret)))
def ct_slices_IndexFunc_ZTlmEvent_TlmEvent : List Cert := [⟨[], [0, 1]⟩, ⟨[], [0, 1, 7, 8]⟩, ⟨[], [0, 1, 7, 8, 9]⟩, ⟨[], [0, 1, 5, 7, 8]⟩, ⟨[], [0, 1, 5, 7, 8, 16]⟩, ⟨[], [4]⟩, ⟨[], [0, 1, 7, 8]⟩, ⟨[], [4]⟩]
def rs_slices_IndexFunc_ZTlmEvent_TlmEvent : List ResV := [.tm 4]
theorem ok_slices_IndexFunc_ZTlmEvent_TlmEvent : compF Tryz.prog Tryz.f89 ct_slices_IndexFunc_ZTlmEvent_TlmEvent = some (ac_slices_IndexFunc_ZTlmEvent_TlmEvent, rs_slices_IndexFunc_ZTlmEvent_TlmEvent) := by kernel_rfl
theorem en_slices_IndexFunc_ZTlmEvent_TlmEvent : EnTy Tryz.prog n_slices_IndexFunc_ZTlmEvent_TlmEvent Tryz.f89 ac_slices_IndexFunc_ZTlmEvent_TlmEvent rs_slices_IndexFunc_ZTlmEvent_TlmEvent :=
  EnTy.mk Tryz.func89 (by kernel_rfl) ok_slices_IndexFunc_ZTlmEvent_TlmEvent

/- loop.example/crossyard/spec.l20Map -/
def ac_spec_l20Map : AC :=
 (.seq (.region [rq 0 4 (.move (.kv (.slice none 0 0)))] 1 [0, 1])
 (.seq (.region [rq 0 7 (.build [(.v (.int .i64 0)), (.v (.int .i64 0)), (.v (.int .i64 0)), (.v (.bool false))] [(0, 1, (ki 0)), (1, 1, (ki 15))]),
 rq 1 8 (.build [(.v (.int .i64 0)), (.v (.int .i64 0)), (.v (.int .i64 0)), (.v (.bool false))] [(0, 1, (ki 16)), (1, 1, (ki 31)), (2, 1, (ki 1))]),
 rq 2 9 (.move (.tm 0)),
 rq 3 10 (.call n_spec_l20Rd_pick [(.tm 9), (ki 3)]),
 rq 4 11 (.bin .eql (.tm 10) (ki 0)),
 rq 5 12 (.build [(.v (.int .i64 0)), (.v (.int .i64 0)), (.v (.int .i64 0)), (.v (.bool false))] [(0, 1, (ki 32)), (1, 1, (ki 47)), (2, 1, (ki 2)), (3, 1, (.tm 11))]),
 rq 6 13 (.bslice 4 3 [(.v (.int .i64 0)), (.v (.int .i64 0)), (.v (.int .i64 0)), (.v (.bool false))] [(0, 4, (.tm 7)), (4, 4, (.tm 8)), (8, 4, (.tm 12))]),
 rq 7 5 (.move (.tm 13))] 8 [0, 1, 5])
 (.seq (.seq (.region [rq 0 14 (.move (.tm 0)),
 rq 1 15 (.call n_spec_l20Rd_pick [(.tm 14), (ki 4)])] 2 [0, 1, 5, 15])
 (.block 0
 (.seq (.region [rq 0 17 (.bin .eql (.tm 15) (ki 0)),
 rq 1 16 (.move (.tm 17))] 2 [0, 1, 5, 15, 16])
 (.cond (.tm 16)
 (.region [rq 0 18 (.build [(.v (.int .i64 0)), (.v (.int .i64 0)), (.v (.int .i64 0)), (.v (.bool false))] [(0, 1, (ki 0)), (1, 1, (ki 7))]),
 rq 1 19 (.build [(.v (.int .i64 0)), (.v (.int .i64 0)), (.v (.int .i64 0)), (.v (.bool false))] [(0, 1, (ki 8)), (1, 1, (ki 15)), (2, 1, (ki 1))]),
 rq 2 20 (.move (.tm 0)),
 rq 3 21 (.call n_spec_l20Rd_pick [(.tm 20), (ki 3)]),
 rq 4 22 (.build [(.v (.int .i64 0)), (.v (.int .i64 0)), (.v (.int .i64 0)), (.v (.bool false))] [(0, 1, (ki 20)), (1, 1, (ki 40)), (2, 1, (.tm 21))]),
 rq 5 23 (.move (.tm 0)),
 rq 6 24 (.call n_spec_l20Rd_pick [(.tm 23), (ki 2)]),
 rq 7 25 (.bin .eql (.tm 24) (ki 0)),
 rq 8 26 (.build [(.v (.int .i64 0)), (.v (.int .i64 0)), (.v (.int .i64 0)), (.v (.bool false))] [(0, 1, (ki 41)), (1, 1, (ki 63)), (2, 1, (ki 2)), (3, 1, (.tm 25))]),
 rq 9 27 (.bslice 4 4 [(.v (.int .i64 0)), (.v (.int .i64 0)), (.v (.int .i64 0)), (.v (.bool false))] [(0, 4, (.tm 18)), (4, 4, (.tm 19)), (8, 4, (.tm 22)), (12, 4, (.tm 26))]),
 rq 10 5 (.move (.tm 27))] 11 [0, 1, 5])
 (.seq (.region [rq 0 29 (.bin .eql (.tm 15) (ki 1)),
 rq 1 28 (.move (.tm 29))] 2 [0, 1, 5, 28])
 (.cond (.tm 28)
 (.region [rq 0 30 (.move (.tm 5)),
 rq 1 31 (.move (.tm 0)),
 rq 2 32 (.call n_spec_l20Rd_pick [(.tm 31), (ki 3)]),
 rq 3 33 (.bin .add (ki 1) (.tm 32)),
 rq 4 34 (.slc 4 (.tm 30) none (some (.tm 33)) none),
 rq 5 5 (.move (.tm 34))] 6 [0, 1, 5])
 .skip))))))
 (.seq (.seq (.region [rq 0 35 (.move (.tm 0)),
 rq 1 36 (.move (.tm 1)),
 rq 2 37 (.call n_spec_l20Rd_odd [(.tm 35), (.tm 36)])] 3 [0, 5, 37])
 (.cond (.tm 37)
 (.seq (.region [rq 0 38 (.move (.tm 0)),
 rq 1 39 (.move (.tm 5)),
 rq 2 40 (.len false (.tm 39)),
 rq 3 41 (.call n_spec_l20Rd_pick [(.tm 38), (.tm 40)]),
 rq 4 6 (.move (.tm 41))] 5 [0, 5, 6])
 (.seq (.region [rq 0 42 (.move (.tm 0)),
 rq 1 43 (.call n_spec_l20Rd_pick [(.tm 42), (ki 4)])] 2 [0, 5, 6, 43])
 (.block 1
 (.seq (.region [rq 0 51 (.bin .eql (.tm 43) (ki 0)),
 rq 1 50 (.move (.tm 51))] 2 [0, 5, 6, 43, 50])
 (.cond (.tm 50)
 (.region [rq 0 52 (.move (.tm 5)),
 rq 1 53 (.move (.tm 6)),
 rq 2 54 (.move (.tm 5)),
 rq 3 55 (.move (.tm 6)),
 rq 4 56 (.idx 4 (.tm 54) (.tm 55)),
 rq 5 57 (.fld 1 (.tm 56)),
 ⟨6, (some 58), .load 1 false (.tm 57), none, [8], [], true⟩,
 rq 7 59 (.bin .add (.tm 58) (ki 1)),
 rq 8 60 (.bslice 1 3 [(.v (.int .i64 0))] [(0, 1, (.kv (.int .i64 (-1)))), (1, 1, (.tm 59)), (2, 1, (ki 5))]),
 rq 9 61 (.move (.tm 0)),
 ⟨10, (some 62), .call n_spec_l20Rd_pick [(.tm 61), (ki 3)], none, [8], [6], false⟩,
 rq 11 63 (.idx 1 (.tm 60) (.tm 62)),
 rq 12 64 (.load 1 false (.tm 63)),
 rq 13 65 (.idx 4 (.tm 52) (.tm 53)),
 rq 14 66 (.fld 0 (.tm 65)),
 rn 15 (.store 1 false (.tm 66) (.tm 64))] 16 [5])
 (.seq (.region [rq 0 68 (.bin .eql (.tm 43) (ki 1)),
 rq 1 67 (.move (.tm 68))] 2 [0, 5, 6, 43, 67])
 (.cond (.tm 67)
 (.region [rq 0 69 (.move (.tm 5)),
 rq 1 70 (.move (.tm 6)),
 rq 2 71 (.move (.tm 5)),
 rq 3 72 (.move (.tm 6)),
 rq 4 73 (.idx 4 (.tm 71) (.tm 72)),
 rq 5 74 (.fld 0 (.tm 73)),
 ⟨6, (some 75), .load 1 false (.tm 74), none, [8], [], true⟩,
 rq 7 76 (.bin .sub (.tm 75) (ki 1)),
 rq 8 77 (.bslice 1 3 [(.v (.int .i64 0))] [(0, 1, (ki 64)), (1, 1, (.tm 76)), (2, 1, (ki 40))]),
 rq 9 78 (.move (.tm 0)),
 ⟨10, (some 79), .call n_spec_l20Rd_pick [(.tm 78), (ki 3)], none, [8], [6], false⟩,
 rq 11 80 (.idx 1 (.tm 77) (.tm 79)),
 rq 12 81 (.load 1 false (.tm 80)),
 rq 13 82 (.idx 4 (.tm 69) (.tm 70)),
 rq 14 83 (.fld 1 (.tm 82)),
 rn 15 (.store 1 false (.tm 83) (.tm 81))] 16 [5])
 (.seq (.region [rq 0 85 (.bin .eql (.tm 43) (ki 2)),
 rq 1 84 (.move (.tm 85))] 2 [0, 5, 6, 84])
 (.cond (.tm 84)
 (.region [rq 0 86 (.move (.tm 5)),
 rq 1 87 (.move (.tm 6)),
 rq 2 88 (.bslice 1 2 [(.v (.int .i64 0))] [(0, 1, (.kv (.int .i64 (-1)))), (1, 1, (ki 3))]),
 rq 3 89 (.move (.tm 0)),
 rq 4 90 (.call n_spec_l20Rd_pick [(.tm 89), (ki 2)]),
 rq 5 91 (.idx 1 (.tm 88) (.tm 90)),
 rq 6 92 (.load 1 false (.tm 91)),
 rq 7 93 (.idx 4 (.tm 86) (.tm 87)),
 rq 8 94 (.fld 2 (.tm 93)),
 rn 9 (.store 1 false (.tm 94) (.tm 92))] 10 [5])
 (.region [rq 0 44 (.move (.tm 5)),
 rq 1 45 (.build [(.v (.int .i64 0)), (.v (.int .i64 0)), (.v (.int .i64 0)), (.v (.bool false))] [(0, 1, (ki 60)), (1, 1, (ki 61))]),
 rq 2 46 (.build [(.v (.int .i64 0)), (.v (.int .i64 0)), (.v (.int .i64 0)), (.v (.bool false))] [(0, 1, (ki 62)), (1, 1, (ki 62))]),
 rq 3 47 (.build [(.v (.int .i64 0)), (.v (.int .i64 0)), (.v (.int .i64 0)), (.v (.bool false))] [(0, 1, (ki 63)), (1, 1, (ki 63))]),
 rq 4 48 (.bslice 4 3 [(.v (.int .i64 0)), (.v (.int .i64 0)), (.v (.int .i64 0)), (.v (.bool false))] [(0, 4, (.tm 45)), (4, 4, (.tm 46)), (8, 4, (.tm 47))]),
 rq 5 49 (.append 4 (.tm 44) (.tm 48)),
 rq 6 5 (.move (.tm 49))] 7 [5]))))))))))
 .skip))
 (.seq (.region [rq 0 95 (.move (.tm 5)),
 rq 1 4 (.move (.tm 95))] 2 [4])
 .ret)))))
def ct_spec_l20Map : List Cert := [⟨[], [0, 1]⟩, ⟨[], [0, 1, 5]⟩, ⟨[], [0, 1, 5, 15]⟩, ⟨[], [0, 1, 5, 15, 16]⟩, ⟨[], [0, 1, 5]⟩, ⟨[], [0, 1, 5, 28]⟩, ⟨[], [0, 1, 5]⟩, ⟨[], [0, 5, 37]⟩, ⟨[], [0, 5, 6]⟩, ⟨[], [0, 5, 6, 43]⟩, ⟨[], [0, 5, 6, 43, 50]⟩, ⟨[cz 0, cz 1, cz 2, cz 3, cz 4, cz 5, (6, [8], [], true), cz 7, cz 8, cz 9, (10, [8], [6], false), cz 11, cz 12, cz 13, cz 14, cz 15], [5]⟩, ⟨[], [0, 5, 6, 43, 67]⟩, ⟨[cz 0, cz 1, cz 2, cz 3, cz 4, cz 5, (6, [8], [], true), cz 7, cz 8, cz 9, (10, [8], [6], false), cz 11, cz 12, cz 13, cz 14, cz 15], [5]⟩, ⟨[], [0, 5, 6, 84]⟩, ⟨[], [5]⟩, ⟨[], [5]⟩, ⟨[], [4]⟩]
def rs_spec_l20Map : List ResV := [.tm 4]
theorem ok_spec_l20Map : compF Tryz.prog Tryz.f90 ct_spec_l20Map = some (ac_spec_l20Map, rs_spec_l20Map) := by kernel_rfl
theorem en_spec_l20Map : EnTy Tryz.prog n_spec_l20Map Tryz.f90 ac_spec_l20Map rs_spec_l20Map :=
  EnTy.mk Tryz.func90 (by kernel_rfl) ok_spec_l20Map

end Go.Proofs.YtiimjokpcbapeaaGreat
