/- The code of the functions with types resolved, checked against the program. Printed by a program (gen.py). -/
import Derived.Test.YtiimjokpcbapeaaGreatAcN
namespace Go.Proofs.YtiimjokpcbapeaaGreat
open Go Go.AM
set_option maxRecDepth 100000

/- loop.example/crossyard/laws.crOnce -/
def ac_laws_crOnce : AC :=
 (.seq (.region [rq 0 2 (.move (.kv (.bool false)))] 1 [0])
 (.seq (.seq (.region [rq 0 3 (.move (ki 0))] 1 [0, 3])
 (.block 0
 (.loop
 (.seq (.seq (.region [rq 0 7 (.move (.tm 3)),
 rq 1 8 (.move (.tm 0)),
 rq 2 9 (.len false (.tm 8)),
 rq 3 10 (.bin .lss (.tm 7) (.tm 9))] 4 [0, 3, 10])
 (.cond (.tm 10)
 .skip
 (.exit 0)))
 (.seq (.block 1
 (.seq (.region [rq 0 13 (.move (.tm 0)),
 rq 1 14 (.move (.tm 3)),
 rq 2 15 (.idx 3 (.tm 13) (.tm 14)),
 rq 3 16 (.load 3 true (.tm 15)),
 rq 4 4 (.alloc [(.v (.int .i64 0)), (.v (.int .i64 0)), (.v (.int .i64 0))]),
 rn 5 (.store 3 true (.tm 4) (.tm 16))] 6 [0, 3, 4])
 (.seq (.region [rq 0 17 (.fld 0 (.tm 4)),
 rq 1 18 (.load 1 false (.tm 17)),
 rq 2 19 (.bin .eql (.tm 18) (ki 1)),
 rq 3 5 (.move (.tm 19))] 4 [0, 3, 4, 5])
 (.seq (.seq (.region [rq 0 6 (.move (ki 0))] 1 [0, 3, 4, 5, 6])
 (.block 2
 (.loop
 (.seq (.seq (.region [rq 0 20 (.move (.tm 6)),
 rq 1 21 (.move (.tm 3)),
 rq 2 22 (.bin .lss (.tm 20) (.tm 21))] 3 [0, 3, 4, 5, 6, 22])
 (.cond (.tm 22)
 .skip
 (.exit 2)))
 (.seq (.block 3
 (.seq (.seq (.region [rq 0 25 (.move (.tm 0)),
 rq 1 26 (.move (.tm 6)),
 rq 2 27 (.idx 3 (.tm 25) (.tm 26)),
 rq 3 28 (.load 3 true (.tm 27)),
 rq 4 29 (.load 3 true (.tm 4)),
 rq 5 30 (.xop (.aeq 3) [(.tm 28), (.tm 29)])] 6 [0, 3, 4, 5, 6, 30])
 (.cond (.tm 30)
 (.seq (.region [rq 0 2 (.move (.kv (.bool false)))] 1 [2])
 .ret)
 .skip))
 (.region [rq 0 31 (.move (.tm 5)),
 rq 1 32 (.move (.tm 31)),
 ⟨2, (some 33), .move (.tm 0), (some (32, false)), [], [], false⟩,
 ⟨3, (some 34), .move (.tm 6), (some (32, false)), [], [], false⟩,
 ⟨4, (some 35), .idx 3 (.tm 33) (.tm 34), (some (32, false)), [], [], false⟩,
 ⟨5, (some 36), .load 3 true (.tm 35), (some (32, false)), [], [], false⟩,
 ⟨6, (some 37), .fld 0 (.tm 4), (some (32, false)), [], [], false⟩,
 ⟨7, (some 38), .load 1 false (.tm 37), (some (32, false)), [], [], false⟩,
 ⟨8, (some 39), .bin .sub (.tm 38) (ki 1), (some (32, false)), [], [], false⟩,
 ⟨9, (some 40), .fld 1 (.tm 4), (some (32, false)), [], [], false⟩,
 ⟨10, (some 41), .load 1 false (.tm 40), (some (32, false)), [], [], false⟩,
 ⟨11, (some 42), .fld 2 (.tm 4), (some (32, false)), [], [], false⟩,
 ⟨12, (some 43), .load 1 false (.tm 42), (some (32, false)), [], [], false⟩,
 ⟨13, (some 44), .build [(.v (.int .i64 0)), (.v (.int .i64 0)), (.v (.int .i64 0))] [(0, 1, (.tm 39)), (1, 1, (.tm 41)), (2, 1, (.tm 43))], (some (32, false)), [], [], false⟩,
 ⟨14, (some 45), .xop (.aeq 3) [(.tm 36), (.tm 44)], (some (32, false)), [], [], false⟩,
 rq 15 46 (.pick (.tm 32) (.kv (.bool true)) (.tm 45)),
 rq 16 5 (.move (.tm 46))] 17 [0, 3, 4, 5, 6])))
 (.region [rq 0 23 (.move (.tm 6)),
 rq 1 24 (.bin .add (.tm 23) (ki 1)),
 rq 2 6 (.move (.tm 24))] 3 [0, 3, 4, 5, 6]))))))
 (.seq (.region [rq 0 47 (.move (.tm 5)),
 rq 1 48 (.un .not (.tm 47))] 2 [0, 3, 48])
 (.cond (.tm 48)
 (.seq (.region [rq 0 2 (.move (.kv (.bool false)))] 1 [2])
 .ret)
 .skip))))))
 (.region [rq 0 11 (.move (.tm 3)),
 rq 1 12 (.bin .add (.tm 11) (ki 1)),
 rq 2 3 (.move (.tm 12))] 3 [0, 3]))))))
 (.seq (.region [rq 0 2 (.move (.kv (.bool true)))] 1 [2])
 .ret)))
def ct_laws_crOnce : List Cert := [⟨[], [0]⟩, ⟨[], [0, 3]⟩, ⟨[], [0, 3, 10]⟩, ⟨[], [0, 3, 4]⟩, ⟨[], [0, 3, 4, 5]⟩, ⟨[], [0, 3, 4, 5, 6]⟩, ⟨[], [0, 3, 4, 5, 6, 22]⟩, ⟨[cz 0, cz 1, cz 2, cz 3, cz 4, cz 5], [0, 3, 4, 5, 6, 30]⟩, ⟨[], [2]⟩, ⟨[cz 0, cz 1, cz 2, cz 3, cz 4, cz 5, cz 6, cz 7, cz 8, cz 9, cz 10, cz 11, cz 12, cz 13, cz 14, cz 15, cz 16], [0, 3, 4, 5, 6]⟩, ⟨[], [0, 3, 4, 5, 6]⟩, ⟨[], [0, 3, 48]⟩, ⟨[], [2]⟩, ⟨[], [0, 3]⟩, ⟨[], [2]⟩]
def rs_laws_crOnce : List ResV := [.tm 2]
theorem ok_laws_crOnce : compF Tryz.prog Tryz.f23 ct_laws_crOnce = some (ac_laws_crOnce, rs_laws_crOnce) := by kernel_rfl
theorem en_laws_crOnce : EnTy Tryz.prog n_laws_crOnce Tryz.f23 ac_laws_crOnce rs_laws_crOnce :=
  EnTy.mk Tryz.func23 (by kernel_rfl) ok_laws_crOnce

end Go.Proofs.YtiimjokpcbapeaaGreat
