/- Texts laid together by a program: rules, contracts and the walk that leads to the law. -/
import Derived.Test.YtegiblhkjfiooaaGreatPp3
import Derived.Test.YtegiblhkjfiooaaGreatPp8
import Derived.Test.YtegiblhkjfiooaaGreatPp17
import Derived.Test.YtegiblhkjfiooaaGreatPp11
set_option linter.unusedVariables false
set_option linter.unusedSimpArgs false
set_option linter.unusedSectionVars false
section
namespace Go.Proofs.YtegiblhkjfiooaaGreat
open Go Go.AM
set_option maxRecDepth 100000
def aFC:AC:=
 (.seq (.region [rq 0 1 (.box true (.tm 0)),
 rq 1 2 (.alloc [OZ,OZ,OZ])] 2 [1,2])
 (.seq (.region [RF 0 8 0 1,
 ⟨1,(some 9),.load 1 false (.tm 8),none,[9,11],[],false⟩,
 RF 3 11 1 1,
 ⟨4,(some 12),.load 1 false (.tm 11),none,[9,11],[],true⟩,
 RF 6 14 2 1,
 ⟨7,(some 15),.load 1 false (.tm 14),none,[9,11],[],true⟩,
 rq 8 16 (.len false (.tm 15)),
 rq 9 17 (.kY 1 [OZ] (.tm 16) (.tm 16)),
 rq 11 3 (.alloc [OZ,OZ,OZ]),
 ⟨2,(some 10),.call aE1 [(.tm 9)],none,[9,11],[4,7],false⟩,
 ⟨5,(some 13),.call eX [(.tm 12)],none,[9,11],[7],false⟩,
 rq 10 18 (.build [OZ,OZ,OZ] [(0,1,(.tm 10)),(1,1,(.tm 13)),(2,1,(.tm 17))]),
 rn 12 (.store 3 true (.tm 3) (.tm 18))] 13 [1,2,3])
 (.seq (.seq (.region [RF 0 19 2 1,
 RL 1 20 19,
 rq 2 21 (.len false (.tm 20)),
 rq 3 22 (.move (ki 0))] 4 [2,3,20,21,22])
 (.block 0
 (.loop
 (.seq (.region [rq 0 23 (.bin .lss (.tm 22) (.tm 21))] 1 [2,3,20,21,22,23])
 (.seq (.cond (.tm 23)
 .skip
 (.exit 0))
 (.seq (.block 1
 (.seq (.region [RM 0 24 22,
 rq 1 25 (.idx 1 (.tm 20) (.tm 22)),
 RL 2 26 25,
 RM 3 4 24,
 RM 4 5 26] 5 [2,3,4,5,20,21,22])
 (.seq (.region [RF 0 27 2 3,
 ⟨1,(some 28),.load 1 false (.tm 27),none,[],[],true⟩,
 RM 2 29 4,
 RM 3 30 5,
 ⟨4,(some 31),.call aE3 [(.tm 30)],none,[],[1],false⟩,
 rq 5 32 (.idx 1 (.tm 28) (.tm 29)),
 rn 6 (.store 1 false (.tm 32) (.tm 31))] 7 [2,3,4,5,20,21,22])
 (.seq (.region [RM 0 33 5,
 rq 1 34 (.len false (.tm 33)),
 rq 2 35 (.move (ki 0))] 3 [2,3,4,20,21,22,33,34,35])
 (.block 2
 (.loop
 (.seq (.region [rq 0 36 (.bin .lss (.tm 35) (.tm 34))] 1 [2,3,4,20,21,22,33,34,35,36])
 (.seq (.cond (.tm 36)
 .skip
 (.exit 2))
 (.seq (.block 3
 (.seq (.region [RM 0 37 35,
 rq 1 38 (.idx 7 (.tm 33) (.tm 35)),
 rq 2 39 (.load 7 true (.tm 38)),
 rq 3 7 (.alloc [VZ,VZ,VZ,VZ,(.v (.bool false)),OZ,OZ]),
 RM 4 6 37,
 rn 5 (.store 7 true (.tm 7) (.tm 39))] 6 [2,3,4,6,7,20,21,22,33,34,35])
 (.region [RF 0 40 2 3,
 ⟨1,(some 41),.load 1 false (.tm 40),none,[],[],true⟩,
 RM 2 42 4,
 rq 3 43 (.idx 1 (.tm 41) (.tm 42)),
 ⟨4,(some 44),.load 1 false (.tm 43),none,[],[],true⟩,
 RM 5 45 6,
 rq 6 46 (.load 7 true (.tm 7)),
 ⟨7,(some 47),.call aFF [(.tm 46)],none,[],[1,4],false⟩,
 rq 8 48 (.idx 7 (.tm 44) (.tm 45)),
 rn 9 (.store 7 true (.tm 48) (.tm 47))] 10 [2,3,4,20,21,22,33,34,35])))
 (.region [rq 0 49 (.bin .add (.tm 35) (ki 1)),
 RM 1 35 49] 2 [2,3,4,20,21,22,33,34,35]))))))))))
 (.region [rq 0 50 (.bin .add (.tm 22) (ki 1)),
 RM 1 22 50] 2 [2,3,20,21,22])))))))
 (.seq (.region [rq 0 51 (.load 3 true (.tm 3)),
 rn 1 (.store 3 true (.tm 2) (.tm 51))] 2 [2])
 .ret))))
def aGP:List Cert:=[⟨[],[1,2]⟩,⟨[cz 0,(1,[9,11],[],false),cz 3,(4,[9,11],[],true),cz 6,(7,[9,11],[],true),cz 8,cz 9,cz 11,(2,[9,11],[4,7],false),(5,[9,11],[7],false),cz 10,cz 12],[1,2,3]⟩,⟨[],[2,3,20,21,22]⟩,⟨[],[2,3,20,21,22,23]⟩,⟨[],[2,3,4,5,20,21,22]⟩,⟨[cz 0,(1,[],[],true),cz 2,cz 3,(4,[],[1],false),cz 5,cz 6],[2,3,4,5,20,21,22]⟩,⟨[],[2,3,4,20,21,22,33,34,35]⟩,⟨[],[2,3,4,20,21,22,33,34,35,36]⟩,⟨[],[2,3,4,6,7,20,21,22,33,34,35]⟩,⟨[cz 0,(1,[],[],true),cz 2,cz 3,(4,[],[],true),cz 5,cz 6,(7,[],[1,4],false),cz 8,cz 9],[2,3,4,20,21,22,33,34,35]⟩,⟨[],[2,3,4,20,21,22,33,34,35]⟩,⟨[],[2,3,20,21,22]⟩,⟨[],[2]⟩]
def aFV:List aW:=[.cell 2 3 true]
theorem aGN:aO Tryz.prog Tryz.f60 aGP=some (aFC,aFV):=by kernel_rfl
def aE6:AC:=
 (.seq (.region [rq 0 2 (.move (.kv (.slice none 0 0)))] 1 [0])
 (.seq (.region [RM 0 3 0,
 rq 1 4 (.call aEV [(.tm 3)]),
 rq 2 5 (.call aEW [(.tm 4)]),
 RM 3 2 5] 4 [2])
 .ret))
def aF9:List Cert:=[⟨[],[0]⟩,⟨[],[2]⟩]
def aFE:List aW:=[.tm 2]
theorem aF8:aO Tryz.prog Tryz.f118 aF9=some (aE6,aFE):=by kernel_rfl
theorem aF7:aN Tryz.prog aE1 Tryz.f118 aE6 aFE:=
 aN.mk Tryz.func118 (by kernel_rfl) aF8
def aE9:AC:=
 (.seq (.region [rq 0 2 (.move (.kv (.slice none 0 0)))] 1 [0])
 (.seq (.region [RM 0 3 0,
 rq 1 4 (.call aEX [(.tm 3)]),
 rq 2 5 (.call aEY [(.tm 4)]),
 RM 3 2 5] 4 [2])
 .ret))
def aGF:List Cert:=[⟨[],[0]⟩,⟨[],[2]⟩]
def aFH:List aW:=[.tm 2]
theorem aGG:aO Tryz.prog Tryz.f120 aGF=some (aE9,aFH):=by kernel_rfl
theorem aGH:aN Tryz.prog aE3 Tryz.f120 aE9 aFH:=
 aN.mk Tryz.func120 (by kernel_rfl) aGG
def aFD:AC:=
 (.seq (.region [rq 0 1 (.box true (.tm 0)),
 rq 1 2 (.alloc [VZ,VZ,VZ,VZ,(.v (.bool false)),OZ,OZ])] 2 [1,2])
 (.seq (.region [RF 0 3 5 1,
 RL 1 4 3,
 RF 3 6 6 1,
 ⟨4,(some 7),.load 1 false (.tm 6),none,[],[],true⟩,
 ⟨2,(some 5),.call eX [(.tm 4)],none,[],[4],false⟩,
 RF 6 9 5 1,
 rq 5 8 (.call eX [(.tm 7)]),
 rn 7 (.store 1 false (.tm 9) (.tm 5)),
 RF 8 10 6 1,
 rn 9 (.store 1 false (.tm 10) (.tm 8))] 10 [1,2])
 (.seq (.region [rq 0 11 (.load 7 true (.tm 1)),
 rn 1 (.store 7 true (.tm 2) (.tm 11))] 2 [2])
 .ret)))
def aGO:List Cert:=[⟨[],[1,2]⟩,⟨[cz 0,cz 1,cz 3,(4,[],[],true),(2,[],[4],false),cz 6,cz 5,cz 7,cz 8,cz 9],[1,2]⟩,⟨[],[2]⟩]
def aFU:List aW:=[.cell 2 7 true]
theorem aGQ:aO Tryz.prog Tryz.f121 aGO=some (aFD,aFU):=by kernel_rfl
def aE0:AC:=
 (.seq (.region [rq 0 2 (.move (.kv (.slice none 0 0)))] 1 [0])
 (.seq (.region [RM 0 3 0,
 RM 1 4 0,
 rq 2 5 (.len false (.tm 4)),
 RM 3 6 0,
 rq 4 7 (.len false (.tm 6)),
 rq 5 8 (.slc 4 (.tm 3) none (some (.tm 5)) (some (.tm 7))),
 RM 6 2 8] 7 [2])
 .ret))
def aFO:List Cert:=[⟨[],[0]⟩,⟨[],[2]⟩]
def aE8:List aW:=[.tm 2]
theorem aFR:aO Tryz.prog Tryz.f185 aFO=some (aE0,aE8):=by kernel_rfl
theorem aFQ:aN Tryz.prog aEW Tryz.f185 aE0 aE8:=
 aN.mk Tryz.func185 (by kernel_rfl) aFR
def aEZ:AC:=
 (.seq (.region [rq 0 2 (.move (.kv (.slice none 0 0)))] 1 [0])
 (.seq (.seq (.region [RM 0 3 0,
 rq 1 4 (.xop (.qJ false) [(.tm 3)])] 2 [0,4])
 (.cond (.tm 4)
 (.seq (.region [rq 0 2 (.move (.kv (.slice none 0 0)))] 1 [2])
 .ret)
 .skip))
 (.seq (.region [rq 0 5 (.bC 4 0 [VZ,VZ,VZ,(.v (.bool false))] []),
 RM 1 6 0,
 rq 2 7 (.append 4 (.tm 5) (.tm 6)),
 RM 3 2 7] 4 [2])
 .ret)))
def aFJ:List Cert:=[⟨[],[0]⟩,⟨[],[0,4]⟩,⟨[],[2]⟩,⟨[],[2]⟩]
def aE7:List aW:=[.tm 2]
theorem aFL:aO Tryz.prog Tryz.f186 aFJ=some (aEZ,aE7):=by kernel_rfl
theorem aFM:aN Tryz.prog aEV Tryz.f186 aEZ aE7:=
 aN.mk Tryz.func186 (by kernel_rfl) aFL
def aE4:AC:=
 (.seq (.region [rq 0 2 (.move (.kv (.slice none 0 0)))] 1 [0])
 (.seq (.region [RM 0 3 0,
 RM 1 4 0,
 rq 2 5 (.len false (.tm 4)),
 RM 3 6 0,
 rq 4 7 (.len false (.tm 6)),
 rq 5 8 (.slc 7 (.tm 3) none (some (.tm 5)) (some (.tm 7))),
 RM 6 2 8] 7 [2])
 .ret))
def aF4:List Cert:=[⟨[],[0]⟩,⟨[],[2]⟩]
def aFB:List aW:=[.tm 2]
theorem aF0:aO Tryz.prog Tryz.f189 aF4=some (aE4,aFB):=by kernel_rfl
theorem aF1:aN Tryz.prog aEY Tryz.f189 aE4 aFB:=
 aN.mk Tryz.func189 (by kernel_rfl) aF0
def aE2:AC:=
 (.seq (.region [rq 0 2 (.move (.kv (.slice none 0 0)))] 1 [0])
 (.seq (.seq (.region [RM 0 3 0,
 rq 1 4 (.xop (.qJ false) [(.tm 3)])] 2 [0,4])
 (.cond (.tm 4)
 (.seq (.region [rq 0 2 (.move (.kv (.slice none 0 0)))] 1 [2])
 .ret)
 .skip))
 (.seq (.region [rq 0 5 (.bC 7 0 [VZ,VZ,VZ,VZ,(.v (.bool false)),OZ,OZ] []),
 RM 1 6 0,
 rq 2 7 (.append 7 (.tm 5) (.tm 6)),
 RM 3 2 7] 4 [2])
 .ret)))
def aFX:List Cert:=[⟨[],[0]⟩,⟨[],[0,4]⟩,⟨[],[2]⟩,⟨[],[2]⟩]
def aFA:List aW:=[.tm 2]
theorem aFZ:aO Tryz.prog Tryz.f190 aFX=some (aE2,aFA):=by kernel_rfl
theorem aFW:aN Tryz.prog aEX Tryz.f190 aE2 aFA:=
 aN.mk Tryz.func190 (by kernel_rfl) aFZ
end Go.Proofs.YtegiblhkjfiooaaGreat
end
section
namespace Go.Proofs.YtegiblhkjfiooaaGreat
open Go Go.AM
set_option maxRecDepth 100000
set_option maxHeartbeats 8000000
section
variable {H : aA} {nx : Nat} {K : D → aA → Nat → Prop}
theorem aG4 {τ:Nat→Nat} {n m:Nat} {l:List Rng}:bA.rn τ ⟨n,m,l.map eN⟩=⟨n,m,l.map eN⟩:=by
 refine rF fun r hr x hx=> ?_
 obtain⟨y,_,rfl⟩:=List.mem_map.1 hr
 exact List.all_eq_true.1 (K3 y).2 x hx
theorem aFN (l:List Rng) (hl:l.length<2^20):aB Tryz.prog aEV [dS (l.map eN)] (hp []) 0
 fun r H' n'=>∃cap,l.length≤cap∧n'=1∧H'=hp [(0,⟨4,cap,l.map eN⟩)]∧r=dO 4 0 l.length cap:=by
 refine aFM rfl fun Q hQ=> ?_
 unfold aEZ
 refine aM.seq (aM.EJ 4 ?_)
 repeat' (first| (with_reducible first| (refine hK _ _ _ ?_;clear hK K)| (refine hA ?_;clear hA hB A B)| (refine hB ?_;clear hA hB A B)|refine Z1 ?_|refine Z2 ?_|refine Z7 (fun h=> ?_) fun h=> ?_|refine fun(cap:Nat) (hcap:_≤cap)=> ?_|refine fun(hcp:_≤cap)=> ?_|refine fun(b:Bool)=> ?_)| (with_reducible first|refine Y2 fun K hK=> ?_|refine Y3 fun A B hA hB=> ?_)<;>(simp only[go_sem])| ((with_reducible refine Y8 ?_);try simp only[AQ.then,AQ.blk,reduceIte,Nat.reduceEqDiff])| ((with_reducible refine Z8 (fun h=> ?_) (fun h=> ?_))<;>try subst h)|refine⟨by omega,?_⟩|fail)
 all_goals first
  | (have hcap':=Nat.le_refl cap
     (refine hQ _ _ _ _ _ 1 (dO 4 0 l.length cap) (hp [(0,⟨4,cap,l.map eN⟩)]) _ _ (.inr rfl) rfl (fU [6] (by omega) (by repeat' (first| ((with_reducible refine C0 ?_);exact CQ (by omega) rfl rfl (by rfl) rfl)| ((with_reducible refine D0 ?_);refine CJ ?_)|fail)) ⟨⟨by simp,by simp[sgL],_,rfl,bP (aG K3 _) rfl rfl⟩,trivial⟩ (by simp[sgL])) ?_)
     exact⟨cap,by omega,rfl,rfl,rfl⟩)
  | (have h0:l=[]:=List.eq_nil_of_length_eq_zero (by omega)
     subst h0
     (refine hQ _ _ _ _ _ 1 (dO 4 0 0 0) (hp [(0,⟨4,0,([]:List Rng).map eN⟩)]) _ _ (.inr rfl) rfl (fU [0] (by omega) (by repeat' (first| ((with_reducible refine C0 ?_);exact CC)| ((with_reducible refine D0 ?_);refine CJ ?_)|fail)) ⟨⟨by simp,by simp[sgL],_,rfl,bP (aG K3 _) rfl rfl⟩,trivial⟩ (by simp[sgL])) ?_)
     exact⟨0,Nat.le_refl _,rfl,rfl,rfl⟩)
theorem aFP {l:List Rng} (hl:l.length<2^20) (h: ∀cap,l.length≤cap→K (dO 4 nx l.length cap) (H.set nx ⟨4,cap,l.map eN⟩) (nx+1)):aB Tryz.prog aEV [dS (l.map eN)] H nx K:=by
 refine(aFN l hl).AF (l0:=[]) [] rfl ⟨aE rfl,trivial⟩ trivial (by simp) (by simp) (by simp) fun r H' n' _ ⟨cap,q0,q1,q2,q3⟩=> ?_
 have h:=h cap q0
 subst q1;subst q2;subst q3
 have e1:back (tau 0 nx (nth [])) (hp [(0,⟨4,cap,l.map eN⟩)]) 1 H=H.set nx ⟨4,cap,l.map eN⟩:=by
  simp only[back,hp,aA.set,tau,Nat.not_lt_zero,if_true,if_false,Nat.sub_zero,Nat.add_zero,Option.map_some,aG4,aA.eL]
 rw[←e1] at h
 exact h
theorem aFT (l:List Rng) (cap m:Nat) (hl:l.length<2^20) (hc:l.length≤cap):aB Tryz.prog aEW [dO 4 0 l.length cap] (hp [(0,⟨4,m,l.map eN⟩)]) 1
 fun r H' n'=>n'=1∧ ∃o',H'=hp [(0,o')]∧C7 o'∧o'=⟨4,m,l.map eN⟩∧r=dO 4 0 l.length l.length:=by
 refine aFQ rfl fun Q hQ=> ?_
 unfold aE0
 repeat' (first| (with_reducible first| (refine hK _ _ _ ?_;clear hK K)|refine Z1 ?_)| (with_reducible refine Y2 fun K hK=> ?_)<;>(simp only[go_sem])| ((with_reducible refine Y8 ?_);try simp only[AQ.then,AQ.blk,reduceIte,Nat.reduceEqDiff])|refine⟨by omega,?_⟩|fail)
 exact lA hQ (dO 4 0 l.length l.length) _ _ rfl (by repeat' (first| ((with_reducible refine C0 ?_);exact CQ (by omega) rfl rfl (by rfl) rfl)| ((with_reducible refine D0 ?_);refine CJ ?_)|fail)) rfl (oB K3 _) ⟨rfl,rfl⟩
theorem aFS {l:List Rng} {cap m i:Nat} (hl:l.length<2^20) (hc:l.length≤cap) (hi:i<nx) (ho:H i=some ⟨4,m,l.map eN⟩) (h:K (dO 4 i l.length l.length) (H.set i ⟨4,m,l.map eN⟩) nx):
 aB Tryz.prog aEW [dO 4 i l.length cap] H nx K:=
 (aFT l cap m hl hc).OU i rfl (gW ⟨qS (by omega) rfl rfl rfl rfl,trivial⟩) hi ho (oB K3 _) fun r o' ⟨h1,h2⟩=>by
  subst h1;subst h2;exact h
theorem aGA (l:List Rng) (hl:l.length<2^20):aB Tryz.prog aE1 [dS (l.map eN)] (hp []) 0
 fun r H' n'=>∃cap,l.length≤cap∧n'=1∧H'=hp [(0,⟨4,cap,l.map eN⟩)]∧r=dO 4 0 l.length l.length:=by
 refine aF7 rfl fun Q hQ=> ?_
 unfold aE6
 repeat' (first| (with_reducible first| (refine hK _ _ _ ?_;clear hK K)|refine Z1 ?_)| (first| (with_reducible refine Y2 fun K hK=> ?_)| (refine aFP hl (fun cap hcap=> ?_))| (refine aFS hl hcap (by omega) rfl ?_))<;>(simp only[go_sem])| ((with_reducible refine Y8 ?_);try simp only[AQ.then,AQ.blk,reduceIte,Nat.reduceEqDiff])|fail)
 (refine hQ _ _ _ _ _ 1 (dO 4 0 l.length l.length) (hp [(0,⟨4,cap,l.map eN⟩)]) _ _ (.inr rfl) rfl (fU [5] (by omega) (by repeat' (first| ((with_reducible refine C0 ?_);exact CQ (by omega) rfl rfl (by rfl) rfl)| ((with_reducible refine D0 ?_);refine CJ ?_)|fail)) ⟨⟨by simp,by simp[sgL],_,rfl,bP (aG K3 _) rfl rfl⟩,trivial⟩ (by simp[sgL])) ?_)
 exact⟨cap,hcap,rfl,rfl,rfl⟩
theorem aGD {l:List Rng} (hl:l.length<2^20) (h: ∀m,l.length≤m→K (dO 4 nx l.length l.length) (H.set nx ⟨4,m,l.map eN⟩) (nx+1)):aB Tryz.prog aE1 [dS (l.map eN)] H nx K:=by
 refine(aGA l hl).AF (l0:=[]) [] rfl ⟨aE rfl,trivial⟩ trivial (by simp) (by simp) (by simp) fun r H' n' _ ⟨cap,q0,q1,q2,q3⟩=> ?_
 have h:=h cap q0
 subst q1;subst q2;subst q3
 have e1:back (tau 0 nx (nth [])) (hp [(0,⟨4,cap,l.map eN⟩)]) 1 H=H.set nx ⟨4,cap,l.map eN⟩:=by
  simp only[back,hp,aA.set,tau,Nat.not_lt_zero,if_true,if_false,Nat.sub_zero,Nat.add_zero,Option.map_some,aG4,aA.eL]
 rw[←e1] at h
 exact h
theorem aG5 {τ:Nat→Nat} {n m:Nat} {l:List Req}:bA.rn τ ⟨n,m,l.map eB⟩=⟨n,m,l.map eB⟩:=by
 refine rF fun r hr x hx=> ?_
 obtain⟨y,_,rfl⟩:=List.mem_map.1 hr
 exact List.all_eq_true.1 (rL y).2 x hx
theorem aF2 (l:List Req) (hl:l.length<2^20):aB Tryz.prog aEX [dS (l.map eB)] (hp []) 0
 fun r H' n'=>∃cap,l.length≤cap∧n'=1∧H'=hp [(0,⟨7,cap,l.map eB⟩)]∧r=dO 7 0 l.length cap:=by
 refine aFW rfl fun Q hQ=> ?_
 unfold aE2
 refine aM.seq (aM.EJ 7 ?_)
 repeat' (first| (with_reducible first| (refine hK _ _ _ ?_;clear hK K)| (refine hA ?_;clear hA hB A B)| (refine hB ?_;clear hA hB A B)|refine Z1 ?_|refine Z2 ?_|refine Z7 (fun h=> ?_) fun h=> ?_|refine fun(cap:Nat) (hcap:_≤cap)=> ?_|refine fun(hcp:_≤cap)=> ?_|refine fun(b:Bool)=> ?_)| (with_reducible first|refine Y2 fun K hK=> ?_|refine Y3 fun A B hA hB=> ?_)<;>(simp only[go_sem])| ((with_reducible refine Y8 ?_);try simp only[AQ.then,AQ.blk,reduceIte,Nat.reduceEqDiff])| ((with_reducible refine Z8 (fun h=> ?_) (fun h=> ?_))<;>try subst h)|refine⟨by omega,?_⟩|fail)
 all_goals first
  | (have hcap':=Nat.le_refl cap
     (refine hQ _ _ _ _ _ 1 (dO 7 0 l.length cap) (hp [(0,⟨7,cap,l.map eB⟩)]) _ _ (.inr rfl) rfl (fU [6] (by omega) (by repeat' (first| ((with_reducible refine C0 ?_);exact CQ (by omega) rfl rfl (by rfl) rfl)| ((with_reducible refine D0 ?_);refine CJ ?_)|fail)) ⟨⟨by simp,by simp[sgL],_,rfl,bP (aG rL _) rfl rfl⟩,trivial⟩ (by simp[sgL])) ?_)
     exact⟨cap,by omega,rfl,rfl,rfl⟩)
  | (have h0:l=[]:=List.eq_nil_of_length_eq_zero (by omega)
     subst h0
     (refine hQ _ _ _ _ _ 1 (dO 7 0 0 0) (hp [(0,⟨7,0,([]:List Req).map eB⟩)]) _ _ (.inr rfl) rfl (fU [0] (by omega) (by repeat' (first| ((with_reducible refine C0 ?_);exact CC)| ((with_reducible refine D0 ?_);refine CJ ?_)|fail)) ⟨⟨by simp,by simp[sgL],_,rfl,bP (aG rL _) rfl rfl⟩,trivial⟩ (by simp[sgL])) ?_)
     exact⟨0,Nat.le_refl _,rfl,rfl,rfl⟩)
theorem aF3 {l:List Req} (hl:l.length<2^20) (h: ∀cap,l.length≤cap→K (dO 7 nx l.length cap) (H.set nx ⟨7,cap,l.map eB⟩) (nx+1)):aB Tryz.prog aEX [dS (l.map eB)] H nx K:=by
 refine(aF2 l hl).AF (l0:=[]) [] rfl ⟨aE rfl,trivial⟩ trivial (by simp) (by simp) (by simp) fun r H' n' _ ⟨cap,q0,q1,q2,q3⟩=> ?_
 have h:=h cap q0
 subst q1;subst q2;subst q3
 have e1:back (tau 0 nx (nth [])) (hp [(0,⟨7,cap,l.map eB⟩)]) 1 H=H.set nx ⟨7,cap,l.map eB⟩:=by
  simp only[back,hp,aA.set,tau,Nat.not_lt_zero,if_true,if_false,Nat.sub_zero,Nat.add_zero,Option.map_some,aG5,aA.eL]
 rw[←e1] at h
 exact h
theorem aF5 (l:List Req) (cap m:Nat) (hl:l.length<2^20) (hc:l.length≤cap):aB Tryz.prog aEY [dO 7 0 l.length cap] (hp [(0,⟨7,m,l.map eB⟩)]) 1
 fun r H' n'=>n'=1∧ ∃o',H'=hp [(0,o')]∧C7 o'∧o'=⟨7,m,l.map eB⟩∧r=dO 7 0 l.length l.length:=by
 refine aF1 rfl fun Q hQ=> ?_
 unfold aE4
 repeat' (first| (with_reducible first| (refine hK _ _ _ ?_;clear hK K)|refine Z1 ?_)| (with_reducible refine Y2 fun K hK=> ?_)<;>(simp only[go_sem])| ((with_reducible refine Y8 ?_);try simp only[AQ.then,AQ.blk,reduceIte,Nat.reduceEqDiff])|refine⟨by omega,?_⟩|fail)
 exact lA hQ (dO 7 0 l.length l.length) _ _ rfl (by repeat' (first| ((with_reducible refine C0 ?_);exact CQ (by omega) rfl rfl (by rfl) rfl)| ((with_reducible refine D0 ?_);refine CJ ?_)|fail)) rfl (oB rL _) ⟨rfl,rfl⟩
theorem aF6 {l:List Req} {cap m i:Nat} (hl:l.length<2^20) (hc:l.length≤cap) (hi:i<nx) (ho:H i=some ⟨7,m,l.map eB⟩) (h:K (dO 7 i l.length l.length) (H.set i ⟨7,m,l.map eB⟩) nx):
 aB Tryz.prog aEY [dO 7 i l.length cap] H nx K:=
 (aF5 l cap m hl hc).OU i rfl (gW ⟨qS (by omega) rfl rfl rfl rfl,trivial⟩) hi ho (oB rL _) fun r o' ⟨h1,h2⟩=>by
  subst h1;subst h2;exact h
theorem aGK (l:List Req) (hl:l.length<2^20):aB Tryz.prog aE3 [dS (l.map eB)] (hp []) 0
 fun r H' n'=>∃cap,l.length≤cap∧n'=1∧H'=hp [(0,⟨7,cap,l.map eB⟩)]∧r=dO 7 0 l.length l.length:=by
 refine aGH rfl fun Q hQ=> ?_
 unfold aE9
 repeat' (first| (with_reducible first| (refine hK _ _ _ ?_;clear hK K)|refine Z1 ?_)| (first| (with_reducible refine Y2 fun K hK=> ?_)| (refine aF3 hl (fun cap hcap=> ?_))| (refine aF6 hl hcap (by omega) rfl ?_))<;>(simp only[go_sem])| ((with_reducible refine Y8 ?_);try simp only[AQ.then,AQ.blk,reduceIte,Nat.reduceEqDiff])|fail)
 (refine hQ _ _ _ _ _ 1 (dO 7 0 l.length l.length) (hp [(0,⟨7,cap,l.map eB⟩)]) _ _ (.inr rfl) rfl (fU [5] (by omega) (by repeat' (first| ((with_reducible refine C0 ?_);exact CQ (by omega) rfl rfl (by rfl) rfl)| ((with_reducible refine D0 ?_);refine CJ ?_)|fail)) ⟨⟨by simp,by simp[sgL],_,rfl,bP (aG rL _) rfl rfl⟩,trivial⟩ (by simp[sgL])) ?_)
 exact⟨cap,hcap,rfl,rfl,rfl⟩
theorem aGJ {l:List Req} (hl:l.length<2^20) (h: ∀m,l.length≤m→K (dO 7 nx l.length l.length) (H.set nx ⟨7,m,l.map eB⟩) (nx+1)):aB Tryz.prog aE3 [dS (l.map eB)] H nx K:=by
 refine(aGK l hl).AF (l0:=[]) [] rfl ⟨aE rfl,trivial⟩ trivial (by simp) (by simp) (by simp) fun r H' n' _ ⟨cap,q0,q1,q2,q3⟩=> ?_
 have h:=h cap q0
 subst q1;subst q2;subst q3
 have e1:back (tau 0 nx (nth [])) (hp [(0,⟨7,cap,l.map eB⟩)]) 1 H=H.set nx ⟨7,cap,l.map eB⟩:=by
  simp only[back,hp,aA.set,tau,Nat.not_lt_zero,if_true,if_false,Nat.sub_zero,Nat.add_zero,Option.map_some,aG5,aA.eL]
 rw[←e1] at h
 exact h
end
end Go.Proofs.YtegiblhkjfiooaaGreat
end
section
namespace Go.Proofs.YtegiblhkjfiooaaGreat
open Go Go.AM
set_option maxRecDepth 100000
end Go.Proofs.YtegiblhkjfiooaaGreat
end
section
namespace Go.Proofs.YtegiblhkjfiooaaGreat
open Go Go.AM
set_option maxRecDepth 100000
set_option maxHeartbeats 8000000
theorem umM {b:Nat} {l:List Nat} {H:aA}:dT b l H (msk b l H)=H:=by
 funext j;simp only[dT,msk];split<;>rfl
theorem muM {b:Nat} {l:List Nat} {H G:aA}:msk b l (dT b l H G)=msk b l G:=by
 funext j;simp only[dT,msk];split<;>rfl
section
variable {H : aA} {nx : Nat} {K : D → aA → Nat → Prop}
theorem aa9:aB Tryz.prog E2 [] .nil 0 fun rr _ _=>rr.plain=true∧rr=dB true:=by
 refine XX rfl fun Q hQ=> ?_
 unfold CP
 repeat' (first| (with_reducible first| (refine hK _ _ _ ?_;clear hK K)|refine Z1 ?_)| (first| (with_reducible refine Y2 fun K hK=> ?_)| (with_reducible refine wS ?_))<;>(simp only[go_sem])| ((with_reducible refine Y8 ?_);try simp only[AQ.then,AQ.blk,reduceIte,Nat.reduceEqDiff])|fail)
 all_goals first|with_reducible refine aZ hQ _ rfl rfl ?_|skip
 all_goals exact(q9 (by decide)).symm
theorem apY (h:K (dB true) H nx):aB Tryz.prog E2 [] H nx K:=
 (aa9).pure rfl (aI trivial) (fun r hr=>hr▸h)
end
end Go.Proofs.YtegiblhkjfiooaaGreat
end
section
namespace Go.Proofs.YtegiblhkjfiooaaGreat
open Go Go.AM
set_option maxRecDepth 100000
set_option maxHeartbeats 8000000
theorem aGR:cJ Tryz.prog aFF Tryz.f121 aFD aFU:=cJ.mk Tryz.func121 (by kernel_rfl) aGQ
theorem aGM:cJ Tryz.prog aFG Tryz.f60 aFC aFV:=cJ.mk Tryz.func60 (by kernel_rfl) aGN
section
variable {H : aA} {nx : Nat} {K : D → aA → Nat → Prop}
theorem aGS {q:Req} (hd:q.data.length<2^20) (hl:q.lanes.length<2^20) (h: ∀H' nx',nx≤nx'→(∀id,id<nx→H' id=H id)→K (dA (eB q)) H' nx'):aB Tryz.prog aFF [dA (eB q)] H nx K:=by
 refine aB.tW ?_
 refine aGR rfl fun Q hQ=> ?_
 unfold aFD
 repeat' (first| (with_reducible first| (refine hK _ _ _ ?_;clear hK K)|refine Z1 ?_)| (first| (with_reducible refine Y2 fun K hK=> ?_)| (refine kH hd (fun m1 hm1=> ?_))| (refine kH hl (fun m2 hm2=> ?_)))<;>(simp only[go_sem,Nat.add_assoc,Nat.left_eq_add,Nat.add_eq_left])| ((with_reducible refine Y8 ?_);try simp only[AQ.then,AQ.blk,reduceIte,Nat.reduceEqDiff])|fail)
 refine(fun(h: ∀G,G=_→Q _ _ G _)=>h _ rfl) fun G hG=> ?_
 have f1:G (nx+1)=some ⟨7,1,[[cI q.id,cI q.kind,cI q.addr,cI q.many,cB q.wrap,.osl 1 (nx+12) 0 q.data.length q.data.length,.osl 1 (nx+13) 0 q.lanes.length q.lanes.length]]⟩:=by rw[hG];simp[aA.set]
 have f2:G (nx+12)=some ⟨1,m1,q.data.map aJ⟩:=by rw[hG];simp[aA.set]
 have f3:G (nx+13)=some ⟨1,m2,q.lanes.map aJ⟩:=by rw[hG];simp[aA.set]
 have ff: ∀id,id<nx→G id=H id:=fun id hid=>by rw[hG];simp[aA.set,show ¬id=nx by omega,show ¬id=nx+1 by omega,show ¬id=nx+12 by omega,show ¬id=nx+13 by omega]
 clear hG
 refine hQ _ _ _ _ _ (.inr rfl) (fZ rfl f1 rfl) ⟨dA (eB q),without (fun j=>j=nx+12∨j=nx+13) G,fun j=>j=nx+12∨j=nx+13,?_,kS,h _ _ (by omega) fun id hid=> ?_⟩
 ·exact lY (aH (bB rfl) (aH (bB rfl) (aH (bB rfl) (aH (bB rfl) (aH (bB rfl) (aH (bW bF f2 rfl (Nat.le_refl _) (.inl rfl)) (aH (bW bF f3 rfl (Nat.le_refl _) (.inr rfl)) eP)))))))
 ·rw[iI (by omega)];exact ff id hid
theorem aHB {F:Nat→Prop} {σ:Nat→Nat} {nh n m m':Nat} {R rows' rows:List (List D1)} {r' r:List D1} {i:Nat} (e':rows'=R) (e:rows=R.set i r) (hi:R[i]?=some r') (hR: ∀r∈R,∀x∈r,x.dQ=true∨x= .osl 0 0 0 0 0) (hm:m'=m) (h:CvL H F σ nh r' r):CvO H F σ nh ⟨n,m',rows'⟩ ⟨n,m,rows⟩:=by
 subst e';subst e;subst hm
 refine⟨rfl,rfl,by simp,fun _ h=>by dsimp only at h ⊢;rw[h];rfl,fun j r1 h1=> ?_⟩
 simp only[List.getElem?_set]
 by_cases hj:i=j
 ·subst hj
  rw[hi] at h1;cases h1
  have hlt:i<rows'.length:=(List.getElem?_eq_some_iff.1 hi).1
  exact⟨r,by simp[hlt],h⟩
 ·refine⟨r1,by simp[hj];exact h1,rfl,fun k a b ha hb=> ?_⟩
  rw[ha] at hb;cases hb
  rcases hR r1 (List.mem_of_getElem? h1) a (List.mem_of_getElem? ha) with h|h
  ·exact bB h
  ·subst h;exact afQ
theorem aGU {c:Cfg} (hb:aQ c) (hcf:jO c) (h: ∀H' nx' b,nx≤nx'→nx≤b→b<nx'→H' b=some ⟨1,3,c.cP.map jR⟩→(∀id,id<nx→H' id=H id)→K (.one (.agg [.isl (c.map.map eN),.isl (c.lat.map aJ),.osl 1 b 0 3 3])) H' nx'):aB Tryz.prog aFG [dA (cU c)] H nx K:=by
 have hp3:=(hC hb).1
 have hml:=hb.1.1
 have hll:=hb.2.1
 refine aB.tW ?_
 refine aGM rfl fun Q hQ=> ?_
 unfold aFC
 repeat' (first| (with_reducible first| (refine hK _ _ _ ?_;clear hK K)|refine Z1 ?_|refine Z3 fun KB hKB=> ?_)| (first| (with_reducible refine Y2 fun K hK=> ?_)| (refine aGD (l:=c.map) (by omega) (fun m1 hm1=> ?_))| (refine kH (l:=c.lat) (by omega) (fun m2 hm2=> ?_)))<;>(simp only[go_sem,Nat.add_assoc,Nat.left_eq_add,Nat.add_eq_left,hp3,umB,umS,umM,muM])|refine⟨by omega,?_⟩|fail)
 (have hKX:=hKB;clear hKB)
 refine aM.TF fun G0 hG0=> ?_
 have c1:G0 (nx+1)=some ⟨3,1,[[.osl 0 0 0 0 0,.osl 0 0 0 0 0,.osl 0 0 0 0 0]]⟩:=by rw[hG0];simp[aA.set]
 have c13:G0 (nx+13)=some ⟨3,1,[[.osl 4 (nx+15) 0 c.map.length c.map.length,.osl 1 (nx+16) 0 c.lat.length c.lat.length,.osl 1 (nx+11) 0 3 3]]⟩:=by rw[hG0];simp[aA.set]
 have c11:G0 (nx+11)=some ⟨1,3,[[.osl 0 0 0 0 0],[.osl 0 0 0 0 0],[.osl 0 0 0 0 0]]⟩:=by rw[hG0];simp[aA.set]
 have c15:G0 (nx+15)=some ⟨4,m1,c.map.map eN⟩:=by rw[hG0];simp[aA.set]
 have c16:G0 (nx+16)=some ⟨1,m2,c.lat.map aJ⟩:=by rw[hG0];simp[aA.set]
 have cfr: ∀id,id<nx→G0 id=H id:=fun id hid=>by rw[hG0];simp[aA.set,show ¬id=nx by omega,show ¬id=nx+1 by omega,show ¬id=nx+11 by omega,show ¬id=nx+13 by omega,show ¬id=nx+15 by omega,show ¬id=nx+16 by omega]
 clear hG0
 obtain⟨R,hR⟩: ∃R:Nat→List (List D1),R=fun k=>(c.cP.take k).map jR++List.replicate (3-k) [.osl 0 0 0 0 0]:=⟨_,rfl⟩
 have hRl: ∀k,k≤3→(R k).length=3:=fun k hk=>by rw[hR];simp;omega
 have hRi: ∀k,∀r∈R k,∀y∈r,y.dQ=true∨y= .osl 0 0 0 0 0:=fun k r hr y hy=>by
  rw[hR] at hr
  rcases List.mem_append.1 hr with hr|hr
  ·exact .inl ((aG iR _ r hr).2 y hy)
  ·rw[(List.mem_replicate.1 hr).2] at hy;simp at hy;exact .inr hy
 have hRs: ∀k,k<3→R (k+1)=(R k).set k (jR (c.cP.getD k default)):=fun k hk=>by
  have:k=0∨k=1∨k=2:=by omega
  obtain⟨a,b,d,hP⟩: ∃a b d,c.cP=[a,b,d]:=by
   match hc:c.cP,hp3 with
   | [a,b,d],_=>exact⟨a,b,d,rfl⟩
  rw[hR,hP]
  rcases this with rfl|rfl|rfl<;>rfl
 have hw: ∀j,¬(j=nx+15∨j=nx+16)→without (fun j=>j=nx+15∨j=nx+16) G0 j=G0 j:=fun j hj=>iI (F:=fun j=>j=nx+15∨j=nx+16) hj
 refine aM.gP (β:=Nat) (fun k=>en [(22,dI k),(21,dI 3),(20,dS (c.cP.map jR)),(3,.one (.c (.ptr 3 (nx+13) 0 0))),(2,.one (.c (.ptr 3 (nx+1) 0 0)))])
  (fun k H1 _=>k≤3∧H1 (nx+1)=some ⟨3,1,[[.osl 0 0 0 0 0,.osl 0 0 0 0 0,.osl 0 0 0 0 0]]⟩∧H1 (nx+13)=some ⟨3,1,[[.isl (c.map.map eN),.isl (c.lat.map aJ),.osl 1 (nx+11) 0 3 3]]⟩∧H1 (nx+11)=some ⟨1,3,R k⟩∧ ∀id,id<nx→H1 id=H id) (fun k=>3-k) 0
  ⟨fun j=>j=nx+15∨j=nx+16,(without (fun j=>j=nx+15∨j=nx+16) G0).set (nx+13) ⟨3,1,[[.isl (c.map.map eN),.isl (c.lat.map aJ),.osl 1 (nx+11) 0 3 3]]⟩,by repeat' (first| (with_reducible first|exact C1|refine C2 ?_ ?_)| ((with_reducible refine C0 ?_);exact CE (by omega) rfl)| ((with_reducible refine D0 ?_);first|exact CA rfl|refine CJ ?_)|fail),?_,by omega,by rw[aA.aC (by omega),hw _ (by omega)];exact c1,aA.bH,by rw[aA.aC (by omega),hw _ (by omega),c11,hR];rfl,fun id hid=>by rw[aA.aC (by omega),hw _ (by omega)];exact cfr id hid⟩ ?_
 ·refine apO (t:=nx+13) (o':=⟨3,1,[[.isl (c.map.map eN),.isl (c.lat.map aJ),.osl 1 (nx+11) 0 3 3]]⟩) (fun j hj=> ?_) aA.bH c13 (by omega) (aP (aH (bW K3 c15 rfl (Nat.le_refl _) (.inl rfl)) (aH (bW bF c16 rfl (Nat.le_refl _) (.inr rfl)) (aH (.osl _ _ _ _ _ (by omega)) eP)))) fun j hj1 hj2=> ?_
  ·have:j≠nx+13:=by rcases hj with rfl|rfl<;>omega
   rw[aA.aC this];exact if_pos hj
  ·rw[aA.aC hj1,hw _ hj2]
 clear c1 c13 c11 c15 c16 cfr hw
 rintro k H1 nx1 hnx1 ⟨hk,g1,g13,g11,hfr⟩ KL hKL
 have hA:bQ nx1 [nx+1,nx+13,nx+11]:=AM.apart (by simp) (by simp;omega)
 simp only[bQ,eZ] at hA
 have r3:=hRl k hk
 by_cases hlt:k<3
 ·obtain⟨pr,hpr⟩: ∃pr,pr=c.cP.getD k default:=⟨_,rfl⟩
  have hpr':c.cP.getD k default=pr:=hpr.symm
  have hpl:=(hC hb).2 k
  rw[hpr'] at hpl
  have hpro: ∀q∈pr,dH q:=fun q hq=>by
   have h5:=hb.2.2.2.2
   rw[cH] at h5
   have h7:mV pr:=Classical.not_not.1 fun hc=>h5 ⟨pr,by rw[hpr];exact cC (by omega),decide_eq_true hc⟩
   exact Classical.not_not.1 fun hc=>h7.2 (cH.2 ⟨q,hq,decide_eq_true hc⟩)
  have hRk:(R k)[k]?=some [.osl 0 0 0 0 0]:=by
   have:k=0∨k=1∨k=2:=by omega
   obtain⟨a,b,d,hP⟩: ∃a b d,c.cP=[a,b,d]:=by
    match hc:c.cP,hp3 with
    | [a,b,d],_=>exact⟨a,b,d,rfl⟩
   rw[hR,hP]
   rcases this with rfl|rfl|rfl<;>rfl
  repeat' (first| (with_reducible first| (refine hK _ _ _ ?_;clear hK K)| (refine hA ?_;clear hA hB A B)|refine Z1 ?_|refine Z2 ?_|refine Z3 fun KB hKB=> ?_|refine Z4 (by omega) ?_)| (first| (with_reducible first|refine Y2 fun K hK=> ?_|refine Y3 fun A B hA hB=> ?_)| (refine aGJ (l:=pr) (by omega) (fun m hm=> ?_)))<;>(simp only[go_sem,Nat.add_assoc,Nat.left_eq_add,Nat.add_eq_left,hp3,hpr',g1,g13,g11,r3,hA,hRk])|refine⟨by omega,?_⟩|fail)
  (have hKY:=hKB;clear hKB)
  obtain⟨aHE,hR2⟩: ∃aHE,aHE=(R k).set k [.osl 7 (nx1+13) 0 pr.length pr.length]:=⟨_,rfl⟩
  have hR2k:aHE[k]?=some [.osl 7 (nx1+13) 0 pr.length pr.length]:=by rw[hR2];exact List.getElem?_set_self (by omega)
  have hR2l:aHE.length=3:=by rw[hR2];simpa using r3
  refine aM.TF fun aHF hG1=> ?_
  have d1:aHF (nx+1)=some ⟨3,1,[[.osl 0 0 0 0 0,.osl 0 0 0 0 0,.osl 0 0 0 0 0]]⟩:=by rw[hG1,aA.aC (by omega),aA.aC (by omega)];exact g1
  have d13:aHF (nx+13)=some ⟨3,1,[[.isl (c.map.map eN),.isl (c.lat.map aJ),.osl 1 (nx+11) 0 3 3]]⟩:=by rw[hG1,aA.aC (by omega),aA.aC (by omega)];exact g13
  have d11:aHF (nx+11)=some ⟨1,3,aHE⟩:=by rw[hG1,hR2];exact aA.bH
  have db:aHF (nx1+13)=some ⟨7,m,pr.map eB⟩:=by rw[hG1,aA.aC (by omega)];exact aA.bH
  have dfr: ∀id,id<nx→aHF id=H id:=fun id hid=>by rw[hG1,aA.aC (by omega),aA.aC (by omega)];exact hfr id hid
  clear hG1 g1 g13 g11 hA
  refine aM.gP (β:=Nat) (fun j=>en [(35,dI j),(34,dI pr.length),(33,dS (pr.map eB)),(22,dI k),(21,dI 3),(20,dS (c.cP.map jR)),(4,dI k),(3,.one (.c (.ptr 3 (nx+13) 0 0))),(2,.one (.c (.ptr 3 (nx+1) 0 0)))])
   (fun j H2 _=>j≤pr.length∧H2 (nx+1)=some ⟨3,1,[[.osl 0 0 0 0 0,.osl 0 0 0 0 0,.osl 0 0 0 0 0]]⟩∧H2 (nx+13)=some ⟨3,1,[[.isl (c.map.map eN),.isl (c.lat.map aJ),.osl 1 (nx+11) 0 3 3]]⟩∧H2 (nx+11)=some ⟨1,3,aHE⟩∧H2 (nx1+13)=some ⟨7,m,pr.map eB⟩∧ ∀id,id<nx→H2 id=H id) (fun j=>pr.length-j) 0
   ⟨noF,_,by repeat' (first| (with_reducible first|exact C1|refine C2 ?_ ?_)| ((with_reducible refine C0 ?_);exact CE (by omega) rfl)| ((with_reducible refine D0 ?_);first|exact CA rfl|refine CJ ?_)|fail),aK,by omega,d1,d13,d11,db,dfr⟩ ?_
  clear d1 d13 d11 db dfr hfr
  rintro j H2 nx2 hnx2 ⟨hj,g1,g13,g11,gb,hfr⟩ KM hKM
  have hA:bQ nx2 [nx+1,nx+13,nx+11,nx1+13]:=AM.apart (by simp;omega) (by simp;omega)
  simp only[bQ,eZ] at hA
  by_cases hjl:j<pr.length
  ·obtain⟨q,hq⟩: ∃q,q=pr.getD j default:=⟨_,rfl⟩
   have hq':pr.getD j default=q:=hq.symm
   have hqo:=hpro q (by rw[hq];exact cC hjl)
   have hql:q.data.length<2^20∧q.lanes.length<2^20:=by
    have h4:=hqo.2.2.2.1
    have h5:=hqo.2.2.2.2.1
    have h6:=hqo.2.2.1.1
    unfold n5 at h4 h5
    split at h4<;>split at h5<;>omega
   repeat' (first| (with_reducible first| (refine hK _ _ _ ?_;clear hK K)| (refine hA ?_;clear hA hB A B)|refine Z1 ?_|refine Z2 ?_|refine Z3 fun KB hKB=> ?_|refine Z4 (by omega) ?_)| (with_reducible first|refine Y2 fun K hK=> ?_|refine Y3 fun A B hA hB=> ?_)<;>(simp only[go_sem,Nat.add_assoc,Nat.left_eq_add,Nat.add_eq_left,hq',g1,g13,g11,gb,hA,hR2k,hR2l])|refine⟨by omega,?_⟩|fail)
   refine aGS hql.1 hql.2 fun H3 nx3 hx3 ffr3=> ?_
   have e1:=(ffr3 (nx+1) (by omega)).trans ((aA.aC (by omega)).trans g1)
   have e13:=(ffr3 (nx+13) (by omega)).trans ((aA.aC (by omega)).trans g13)
   have e11:=(ffr3 (nx+11) (by omega)).trans ((aA.aC (by omega)).trans g11)
   have eb:=(ffr3 (nx1+13) (by omega)).trans ((aA.aC (by omega)).trans gb)
   have ef: ∀id,id<nx→H3 id=H id:=fun id hid=>(ffr3 id (by omega)).trans ((aA.aC (by omega)).trans (hfr id hid))
   have hjT:(pr.map eB)[j]?=some (eB q):=by rw[←hq'];exact atN hjl
   clear ffr3 hA
   simp only[go_sem,e13,e11,eb,hR2k,hjT]
   have hps:pr.set j q=pr:=by
    rw[hq]
    refine List.ext_getElem (by simp) fun i h1 h2=> ?_
    rw[List.getElem_set]
    split
    ·rename_i e;subst e;simp[List.getD,hjl]
    ·rfl
   rw[hps]
   refine⟨by omega,?_⟩
   refine hK _ _ _ ?_
   clear hK K
   repeat' (first| (with_reducible (refine hK _ _ _ ?_;clear hK K))| (with_reducible refine Y2 fun K hK=> ?_)<;>(simp only[go_sem];try simp (disch:=omega) only[Iw])| ((with_reducible refine Y0 ?_);simp only[AQ.then,AQ.blk])| (with_reducible refine hKB _ _ _ ?_)|fail)
   exact hKM _ _ _ (j+1) noF _ (by omega) (by omega) (by repeat' (first| (with_reducible first|exact C1|refine C2 ?_ ?_)| ((with_reducible refine C0 ?_);exact CE (by omega) rfl)| ((with_reducible refine D0 ?_);first|exact CA rfl|refine CJ ?_)|fail)) aK ⟨by omega,by rw[aA.aC (by omega)];exact e1,by rw[aA.aC (by omega)];exact e13,by rw[aA.aC (by omega)];exact e11,aA.bH,fun id hid=>by rw[aA.aC (by omega)];exact ef id hid⟩
  ·repeat' (first| (with_reducible first| (refine hK _ _ _ ?_;clear hK K)| (refine hB ?_;clear hA hB A B)|refine Z1 ?_|refine Z5 (by omega) ?_|refine hKY _ _ _ ?_)| (with_reducible first|refine Y2 fun K hK=> ?_|refine Y3 fun A B hA hB=> ?_)<;>(simp only[go_sem,g1,g13,g11,gb,hA,hR2k,hR2l];try simp (disch:=omega) only[Iw])| ((with_reducible refine Y9 ?_);try simp only[AQ.then,AQ.blk,reduceIte,Nat.reduceEqDiff])| ((with_reducible refine Y0 ?_);simp only[AQ.then,AQ.blk])| (with_reducible refine hKB _ _ _ ?_)|fail)
   have hw: ∀i,i≠nx1+13→without (fun t=>t=nx1+13) H2 i=H2 i:=fun i hi=>iI (F:=fun t=>t=nx1+13) hi
   refine hKL _ _ _ (k+1) (fun t=>t=nx1+13) ((without (fun t=>t=nx1+13) H2).set (nx+11) ⟨1,3,R (k+1)⟩) (by omega) (by omega) (by repeat' (first| (with_reducible first|exact C1|refine C2 ?_ ?_)| ((with_reducible refine C0 ?_);exact CE (by omega) rfl)| ((with_reducible refine D0 ?_);first|exact CA rfl|refine CJ ?_)|fail)) ?_ ⟨by omega,by rw[aA.aC (by omega),hw _ (by omega)];exact g1,by rw[aA.aC (by omega),hw _ (by omega)];exact g13,aA.bH,fun id hid=>by rw[aA.aC (by omega),hw _ (by omega)];exact hfr id hid⟩
   refine apO (t:=nx+11) (o':=⟨1,3,R (k+1)⟩) (fun i hi=> ?_) aA.bH g11 (by omega) (aHB (R:=R (k+1)) (i:=k) (r':=jR pr) rfl ?_ ?_ (hRi (k+1)) rfl (aH (bW rL gb rfl (Nat.le_refl _) rfl) eP)) fun i h1 h2=> ?_
   ·have:i=nx1+13:=hi
    rw[aA.aC (by omega)];exact if_pos hi
   ·rw[hR2,hRs k hlt,List.set_set]
   ·rw[hRs k hlt,hpr'];exact List.getElem?_set_self (by omega)
   ·rw[aA.aC h1,hw i h2]
 ·have hk3:k=3:=by omega
  subst hk3
  repeat' (first| (with_reducible first| (refine hK _ _ _ ?_;clear hK K)| (refine hB ?_;clear hA hB A B)|refine Z1 ?_|refine Z5 (by omega) ?_|refine hKX _ _ _ ?_)| (with_reducible first|refine Y2 fun K hK=> ?_|refine Y3 fun A B hA hB=> ?_)<;>(simp only[go_sem,Nat.add_assoc,Nat.left_eq_add,Nat.add_eq_left,g1,g13,g11])| ((with_reducible first|refine Y8 ?_|refine Y9 ?_);try simp only[AQ.then,AQ.blk,reduceIte,Nat.reduceEqDiff])|fail)
  have hR3:R 3=c.cP.map jR:=by rw[hR];dsimp only;rw[List.take_of_length_le (by omega)];simp
  refine hQ _ _ _ _ _ (.inr rfl) (fZ (m:=1) rfl aA.bH rfl) ⟨.one (.agg [.isl (c.map.map eN),.isl (c.lat.map aJ),.osl 1 (nx+11) 0 3 3]),_,noF,lY (aH (bB rfl) (aH (bB rfl) (aH (.osl _ _ _ _ _ (by omega)) eP))),aK,h _ _ (nx+11) (by omega) (by omega) (by omega) (by rw[aA.aC (by omega),←hR3];exact g11) fun id hid=>by rw[aA.aC (by omega)];exact hfr id hid⟩
end
end Go.Proofs.YtegiblhkjfiooaaGreat
end
section
namespace Go.AM
def aE5 (who:Nat):List Prog→Nat→List Prog
 |P,0=>P
 |P,k+1=>if k=who then aE5 who P k else (aE5 who P k).set k []
def aGT (c:Cfg) (who:Nat):Cfg:=⟨c.map,c.lat,aE5 who c.cP 3⟩
theorem aGE {who:Nat} {P:List Prog}: ∀k,(aE5 who P k).length=P.length
 |0=>rfl
 |k+1=>by unfold aE5;split<;>simp[aGE k]
theorem aG2 {who:Nat} {P:List Prog}: ∀k,k≤P.length→∀j,(aE5 who P k).getD j default=if j<k∧j≠who then [] else P.getD j default
 |0,_,j=>by simp[aE5]
 |k+1,hk,j=>by
  have ih:=aG2 (who:=who) (P:=P) k (by omega) j
  unfold aE5
  split
  ·rename_i e
   rw[ih]
   by_cases h:j<k∧j≠who
   ·rw[if_pos h,if_pos ⟨by omega,h.2⟩]
   ·rw[if_neg h,if_neg (by omega)]
  ·rename_i e
   rw[pY (by rw[aGE];omega),ih]
   by_cases hj:j=k
   ·rw[if_pos hj,if_pos ⟨by omega,by omega⟩]
   ·rw[if_neg hj]
    by_cases h:j<k∧j≠who
    ·rw[if_pos h,if_pos ⟨by omega,h.2⟩]
    ·rw[if_neg h,if_neg (by omega)]
theorem aGC {who:Nat} {P:List Prog}: ∀k,∀p∈aE5 who P k,p∈P∨p=[]
 |0,p,hp=>.inl hp
 |k+1,p,hp=>by
  unfold aE5 at hp
  split at hp
  ·exact aGC k p hp
  ·rcases List.mem_or_eq_of_mem_set hp with hp|hp
   ·exact aGC k p hp
   ·exact .inr hp
theorem aHA {c:Cfg} (hb:aQ c) (who:Nat):aQ (aGT c who):=by
 obtain⟨h1,h2,h3,h4,h5⟩:=hb
 refine⟨h1,h2,h3,by show ((aE5 who c.cP 3).length:Int)=3;rw[aGE];exact h4,fun hc=>h5 ?_⟩
 obtain⟨x,hx,hx2⟩:=cH.1 hc
 rcases aGC 3 x hx with hx|rfl
 ·exact cH.2 ⟨x,hx,hx2⟩
 ·exact absurd (of_decide_eq_true hx2) (Classical.not_not.2 ⟨by simp,fun hc=>by obtain⟨y,hy,_⟩:=cH.1 hc;cases hy⟩)
theorem aG7 {c:Cfg} (hf:jO c) (who:Nat):jO (aGT c who):=by
 refine⟨hf.map,hf.lat,by show (aE5 who c.cP 3).length<_;rw[aGE];exact hf.cP,fun p hp=> ?_,fun p hp q hq=> ?_⟩
 ·rcases aGC 3 p hp with hp|rfl
  ·exact hf.prog p hp
  ·simp
 ·rcases aGC 3 p hp with hp|rfl
  ·exact hf.req p hp q hq
  ·cases hq
theorem aG3 {c:Cfg} (hb:aQ c) {who k:Nat} (hk:k<3):(aGT c who).cP.getD k default=if k=who then c.cP.getD k default else []:=by
 show (aE5 who c.cP 3).getD k default=_
 rw[aG2 3 (by have:=(hC hb).1;omega)]
 by_cases h:k=who
 ·rw[if_pos h,if_neg (by omega)]
 ·rw[if_neg h,if_pos ⟨hk,h⟩]
end Go.AM
namespace Go.Proofs.YtegiblhkjfiooaaGreat
open Go Go.AM
set_option maxRecDepth 100000
set_option maxHeartbeats 8000000
theorem aG0:cJ Tryz.prog aFI Tryz.f15 aFY aGL:=cJ.mk Tryz.func15 (by kernel_rfl) aGY
section
variable {H : aA} {nx : Nat} {K : D → aA → Nat → Prop}
theorem aG1 {c:Cfg} {who:Nat} (hb:aQ c) (hcf:jO c) (hwho:who<3) (h: ∀H' nx',nx≤nx'→(∀id,id<nx→H' id=H id)→K (dA (cU (aGT c who))) H' nx'):aB Tryz.prog aFI [dA (cU c),dI who] H nx K:=by
 have hp3:=(hC hb).1
 have hm:(0≤(who:Int)∧(who:Int)≤2)=True:=eq_true (by omega)
 refine aB.tW ?_
 refine aG0 rfl fun Q hQ=> ?_
 unfold aFY
 repeat' (first| (with_reducible first| (refine hK _ _ _ ?_;clear hK K)| (refine hB ?_;clear hA hB A B)|refine Z1 ?_|refine Z2 ?_|refine Z3 fun KB hKB=> ?_)| (first| (with_reducible first|refine Y2 fun K hK=> ?_|refine Y3 fun A B hA hB=> ?_)| (refine W6 hcf ?_)| (with_reducible refine oR ?_)| (refine aGU hb hcf (fun H1 nx1 b hx1 hb1 hb2 hbb ffr=> ?_)))<;>(simp only[go_sem,Nat.add_assoc,Nat.left_eq_add,Nat.add_eq_left,eq_true hb,hm])|fail)
 (have hKX:=hKB;clear hKB)
 have c1:H1 (nx+1)=some ⟨3,1,[[.osl 0 0 0 0 0,.osl 0 0 0 0 0,.osl 0 0 0 0 0]]⟩:=by rw[ffr _ (by omega)];simp[aA.set]
 have cfr: ∀id,id<nx→H1 id=H id:=fun id hid=>by rw[ffr _ (by omega)];simp[aA.set,show ¬id=nx by omega,show ¬id=nx+1 by omega]
 clear ffr
 have hlP:=fun k=>aGE (who:=who) (P:=c.cP) k
 refine aM.gP (β:=Nat) (fun k=>en [(21,dI k),(20,dI 3),(5,.one (.c (.ptr 3 (nx+12) 0 0))),(4,.one (.c (.ptr 3 (nx+1) 0 0))),(1,dI who)])
  (fun k H2 _=>k≤3∧H2 (nx+1)=some ⟨3,1,[[.osl 0 0 0 0 0,.osl 0 0 0 0 0,.osl 0 0 0 0 0]]⟩∧H2 (nx+12)=some ⟨3,1,[[.isl (c.map.map eN),.isl (c.lat.map aJ),.osl 1 b 0 3 3]]⟩∧H2 b=some ⟨1,3,(aE5 who c.cP k).map jR⟩∧ ∀id,id<nx→H2 id=H id) (fun k=>3-k) 0
  ⟨noF,_,by repeat' (first| (with_reducible first|exact C1|refine C2 ?_ ?_)| ((with_reducible refine C0 ?_);exact CE (by omega) rfl)| ((with_reducible refine D0 ?_);first|exact CA rfl|refine CJ ?_)|fail),aK,by omega,by rw[aA.aC (by omega)];exact c1,aA.bH,by rw[aA.aC (by omega)];exact hbb,fun id hid=>by rw[aA.aC (by omega)];exact cfr id hid⟩ ?_
 clear c1 hbb cfr
 rintro k H2 nx2 hnx2 ⟨hk,g1,g12,gb,hfr⟩ KL hKL
 have hA:bQ nx2 [nx+1,nx+12,b]:=AM.apart (by simp;omega) (by simp;omega)
 simp only[bQ,eZ] at hA
 have hlk:=hlP k
 by_cases hlt:k<3
 ·by_cases hkw:k=who
  ·have hkT:((k:Int)=who)=True:=eq_true (by omega)
   repeat' (first| (with_reducible first| (refine hK _ _ _ ?_;clear hK K)| (refine hA ?_;clear hA hB A B)| (refine hB ?_;clear hA hB A B)|refine Z1 ?_|refine Z2 ?_|refine Z3 fun KB hKB=> ?_|refine Z4 (by omega) ?_)| (with_reducible first|refine Y2 fun K hK=> ?_|refine Y3 fun A B hA hB=> ?_)<;>(simp only[go_sem,Nat.add_assoc,Nat.left_eq_add,Nat.add_eq_left,g1,g12,gb,hA,hkT];try simp (disch:=omega) only[Iw])| ((with_reducible refine Y0 ?_);simp only[AQ.then,AQ.blk])| (with_reducible refine hKB _ _ _ ?_)|fail)
   exact hKL _ _ _ (k+1) noF _ (by omega) (by omega) (by repeat' (first| (with_reducible first|exact C1|refine C2 ?_ ?_)| ((with_reducible refine C0 ?_);exact CE (by omega) rfl)| ((with_reducible refine D0 ?_);first|exact CA rfl|refine CJ ?_)|fail)) aK ⟨by omega,g1,g12,by rw[aE5,if_pos hkw];exact gb,hfr⟩
  ·have hkF:((k:Int)=who)=False:=eq_false (by omega)
   have hbk:((aE5 who c.cP k).map jR)[k]?=some (jR ((aE5 who c.cP k).getD k default)):=atN (by omega)
   have hll:((aE5 who c.cP k).map jR).length=3:=by rw[List.length_map];omega
   repeat' (first| (with_reducible first| (refine hK _ _ _ ?_;clear hK K)| (refine hA ?_;clear hA hB A B)|refine Z1 ?_|refine Z2 ?_|refine Z3 fun KB hKB=> ?_|refine Z4 (by omega) ?_)| (with_reducible first|refine Y2 fun K hK=> ?_|refine Y3 fun A B hA hB=> ?_)<;>(simp only[go_sem,Nat.add_assoc,Nat.left_eq_add,Nat.add_eq_left,g1,g12,gb,hA,hkF,hp3,hlk];try simp (disch:=omega) only[Iw])| ((with_reducible refine Y0 ?_);simp only[AQ.then,AQ.blk])|refine⟨by omega,?_⟩| (with_reducible refine hKB _ _ _ ?_)|fail)
   refine hKL _ _ _ (k+1) noF ((H2.set b ⟨1,3,((aE5 who c.cP k).map jR).set k [.osl 0 0 0 0 0]⟩).set b ⟨1,3,(aE5 who c.cP (k+1)).map jR⟩) (by omega) (by omega) (by repeat' (first| (with_reducible first|exact C1|refine C2 ?_ ?_)| ((with_reducible refine C0 ?_);exact CE (by omega) rfl)| ((with_reducible refine D0 ?_);first|exact CA rfl|refine CJ ?_)|fail)) (KO (i:=b) aA.bH (ak7 (R:=(aE5 who c.cP (k+1)).map jR) (i:=k) (r':=jR []) (r:=[.osl 0 0 0 0 0]) rfl ?_ ?_ (fun r hr=>(aG iR _ r hr).2) rfl (aH xG eP))) ⟨by omega,by rw[aA.aC (by omega),aA.aC (by omega)];exact g1,by rw[aA.aC (by omega),aA.aC (by omega)];exact g12,aA.bH,fun id hid=>by rw[aA.aC (by omega),aA.aC (by omega)];exact hfr id hid⟩
   ·rw[aE5,if_neg hkw,List.map_set,List.set_set];rfl
   ·rw[aE5,if_neg hkw,List.map_set];exact List.getElem?_set_self (by omega)
 ·have hk3:k=3:=by omega
  subst hk3
  repeat' (first| (with_reducible first| (refine hK _ _ _ ?_;clear hK K)| (refine hB ?_;clear hA hB A B)|refine Z1 ?_|refine Z5 (by omega) ?_|refine hKX _ _ _ ?_)| (with_reducible first|refine Y2 fun K hK=> ?_|refine Y3 fun A B hA hB=> ?_)<;>(simp only[go_sem,g1,g12,gb])| ((with_reducible first|refine Y8 ?_|refine Y9 ?_);try simp only[AQ.then,AQ.blk,reduceIte,Nat.reduceEqDiff])|fail)
  refine hQ _ _ _ _ _ (.inr rfl) (fZ (m:=1) rfl aA.bH rfl) ⟨dA (cU (aGT c who)),without (fun t=>t=b) _,fun t=>t=b,lY (aH (bB rfl) (aH (bB rfl) (aH (bW iR (by rw[aA.aC (by omega)];exact gb) (by show 3=(aE5 who c.cP 3).length;omega) (by show (aE5 who c.cP 3).length≤3;omega) rfl) eP))),kS,h _ _ (by omega) fun id hid=> ?_⟩
  rw[iI (F:=fun t=>t=b) (show ¬id=b by omega),aA.aC (by omega)];exact hfr id hid
end
end Go.Proofs.YtegiblhkjfiooaaGreat
end
section
namespace Go.Proofs.YtegiblhkjfiooaaGreat
open Go Go.AM
set_option maxRecDepth 100000
def yM:AC:=
 (.seq (.region [rq 0 4 (.move (.kv (.slice none 0 0)))] 1 [0,1])
 (.seq (.region [rq 0 5 (.move (.kv (.slice none 0 0)))] 1 [0,1,5])
 (.seq (.seq (.region [RM 0 8 0,
 rq 1 9 (.len false (.tm 8)),
 rq 2 10 (.move (ki 0))] 3 [1,5,8,9,10])
 (.block 0
 (.loop
 (.seq (.region [rq 0 11 (.bin .lss (.tm 10) (.tm 9))] 1 [1,5,8,9,10,11])
 (.seq (.cond (.tm 11)
 .skip
 (.exit 0))
 (.seq (.block 1
 (.seq (.region [rq 0 12 (.idx 5 (.tm 8) (.tm 10)),
 rq 1 13 (.load 5 true (.tm 12)),
 rq 2 7 (.alloc [VZ,VZ,VZ,VZ,OZ]),
 rn 3 (.store 5 true (.tm 7) (.tm 13))] 4 [1,5,7,8,9,10])
 (.seq (.region [RF 0 14 0 7,
 RL 1 15 14,
 RM 2 16 1,
 rq 3 17 (.bin .eql (.tm 15) (.tm 16))] 4 [1,5,7,8,9,10,17])
 (.cond (.tm 17)
 (.region [RM 0 18 5,
 rq 1 19 (.load 5 true (.tm 7)),
 rq 2 20 (.bC 5 1 [VZ,VZ,VZ,VZ,OZ] [(0,5,(.tm 19))]),
 rq 3 21 (.append 5 (.tm 18) (.tm 20)),
 RM 4 5 21] 5 [1,5,8,9,10])
 .skip))))
 (.region [rq 0 22 (.bin .add (.tm 10) (ki 1)),
 RM 1 10 22] 2 [1,5,8,9,10])))))))
 (.seq (.region [RM 0 23 5,
 rq 1 24 (.call eO [(.tm 23)]),
 RM 2 4 24] 3 [4])
 .ret))))
def QB:List Cert:=[⟨[],[0,1]⟩,⟨[],[0,1,5]⟩,⟨[],[1,5,8,9,10]⟩,⟨[],[1,5,8,9,10,11]⟩,⟨[],[1,5,7,8,9,10]⟩,⟨[],[1,5,7,8,9,10,17]⟩,⟨[],[1,5,8,9,10]⟩,⟨[],[1,5,8,9,10]⟩,⟨[],[4]⟩]
def E8:List aW:=[.tm 4]
theorem RO:aO Tryz.prog Tryz.f31 QB=some (yM,E8):=by kernel_rfl
theorem RG:aN Tryz.prog zR Tryz.f31 yM E8:=
 aN.mk Tryz.func31 (by kernel_rfl) RO
end Go.Proofs.YtegiblhkjfiooaaGreat
end
section
namespace Go.Proofs.YtegiblhkjfiooaaGreat
open Go Go.AM
set_option maxRecDepth 100000
set_option maxHeartbeats 8000000
section
variable {H : aA} {nx : Nat} {K : D → aA → Nat → Prop}
theorem VD (l:List Job) (who:Int) (hl:l.length<2^20) (hd: ∀j∈l,j.rsp.data.length<2^20):aB Tryz.prog zR [dS (l.map aS),dI who] .nil 0 fun r _ n=>n=0∧r.imm=true∧r=dS ((fS l who).map aS):=by
 refine RG rfl fun Q hQ=> ?_
 unfold yM
 have hmd:=fun j (hj:j∈fS l who)=>hd j (WN j hj)
 have hmL:=WJ (l:=l) (who:=who)
 repeat' (first| (with_reducible first| (refine hK _ _ _ ?_;clear hK K)|refine Z1 ?_|refine Z3 fun KB hKB=> ?_)| (with_reducible refine Y2 fun K hK=> ?_)<;>(simp only[go_sem])|fail)
 (have hQX:=hKB;clear hKB)
 refine aM.sG 1 (β:=Nat×Nat) (fun b u=>en [(10,dI u.1),(9,dI l.length),(8,dS (l.map aS)),(5,aaT 5 b (fS (l.take u.1) who).length u.2),(1,dI who)])
  (fun b u=>hpN b (fS (l.take u.1) who).length ⟨5,u.2,(fS (l.take u.1) who).map aS⟩) (fun u=>u.1≤l.length∧(fS (l.take u.1) who).length≤u.2) (fun u=>l.length-u.1) (0,0) (bU (by omega) (by simp only[fS,List.take_zero,List.filter_nil,List.length_nil,aaT,if_true];unfold D1.nil;repeat' (first| (with_reducible first|exact C1|refine C2 ?_ ?_)| ((with_reducible refine C0 ?_);exact CC)| ((with_reducible refine D0 ?_);first|exact CA rfl|refine CJ ?_)|fail))) ⟨by omega,by simp[fS]⟩ ?_
 rintro⟨k,cap⟩ ⟨hk,hc⟩ KL hKL
 dsimp only at hk hc
 have hml:=WJ (l:=l.take k) (who:=who)
 have htl:(l.take k).length=k:=by simp;omega
 rcases Nat.eq_zero_or_pos (fS (l.take k) who).length with h0|h0
 ·simp only[aaT,hpN,h0,if_true]
  unfold D1.nil
  by_cases hlt:k<l.length
  ·by_cases hw:(l.getD k default).who=who
   ·have hy:=WA hlt hw
    have hz:=List.length_eq_zero_iff.1 h0
    rw[hz,List.nil_append] at hy
    have hyl:=congrArg List.length hy
    rw[List.length_singleton] at hyl
    repeat' (first| (with_reducible first| (refine hK _ _ _ ?_;clear hK K)| (refine hA ?_;clear hA hB A B)|refine Z1 ?_|refine Z2 ?_|refine Z3 fun KB hKB=> ?_|refine Z4 (by omega) ?_|refine fun(cap:Nat) (hcap:_≤cap)=> ?_|refine fun(hcp:_≤cap)=> ?_)| (with_reducible first|refine Y2 fun K hK=> ?_|refine Y3 fun A B hA hB=> ?_)<;>(simp only[go_sem];try simp (disch:=omega) only[Iw])| ((with_reducible refine Y0 ?_);simp only[AQ.then,AQ.blk])|refine⟨by omega,?_⟩| (with_reducible refine hKB _ _ _ ?_)|fail)
    exact hKL _ _ _ (k+1,cap) (by omega) (by dsimp only;simp only[aaT,hpN,hyl,hy,Nat.one_ne_zero,if_false];(refine cR [18] (by omega) (by repeat' (first| (with_reducible first|exact C1|refine C2 ?_ ?_)| ((with_reducible refine C0 ?_);exact CQ (by omega) rfl rfl (by rfl) rfl)| ((with_reducible refine D0 ?_);first|exact CA rfl|refine CJ ?_)|fail)) ⟨⟨by simp,by simp[sgL],_,rfl,bP (aG dZ _) rfl rfl⟩,trivial⟩ (by simp[sgL]))) ⟨by dsimp only;omega,by dsimp only;omega⟩ (by dsimp only;omega)
   ·have hn:=abI hlt hw
    repeat' (first| (with_reducible first| (refine hK _ _ _ ?_;clear hK K)| (refine hA ?_;clear hA hB A B)| (refine hB ?_;clear hA hB A B)|refine Z1 ?_|refine Z2 ?_|refine Z3 fun KB hKB=> ?_|refine Z4 (by omega) ?_|refine Z5 (by omega) ?_)| (with_reducible first|refine Y2 fun K hK=> ?_|refine Y3 fun A B hA hB=> ?_)<;>(simp only[go_sem];try simp (disch:=omega) only[Iw])| ((with_reducible refine Y0 ?_);simp only[AQ.then,AQ.blk])|refine⟨by omega,?_⟩| (with_reducible refine hKB _ _ _ ?_)|fail)
    exact hKL _ _ _ (k+1,cap) (by omega) (by simp only[aaT,hpN,hn,h0,if_true];unfold D1.nil;exact bU (by omega) (by repeat' (first| (with_reducible first|exact C1|refine C2 ?_ ?_)| ((with_reducible refine C0 ?_);exact CC)| ((with_reducible refine D0 ?_);first|exact CA rfl|refine CJ ?_)|fail))) ⟨by dsimp only;omega,by dsimp only;rw[hn];omega⟩ (by dsimp only;omega)
  ·have hk2:k=l.length:=by omega
   subst hk2
   rw[List.take_length] at h0
   have hz:=List.length_eq_zero_iff.1 h0
   rw[hz] at hQ
   repeat' (first| (with_reducible first| (refine hK _ _ _ ?_;clear hK K)| (refine hB ?_;clear hA hB A B)|refine Z1 ?_|refine Z5 (by omega) ?_)| (with_reducible first|refine Y2 fun K hK=> ?_|refine Y3 fun A B hA hB=> ?_)<;>(simp only[go_sem])| ((with_reducible refine Y9 ?_);try simp only[AQ.then,AQ.blk,reduceIte,Nat.reduceEqDiff])|fail)
   refine hQX _ _ _ ?_
   refine aM.aqB 0 (en [(5,dS (([]:List Job).map aS))]) .nil (bU (by omega) (oF K6 xG)) ?_
   repeat' (first| (with_reducible first| (refine hK _ _ _ ?_;clear hK K)|refine Z1 ?_)| (first| (with_reducible refine Y2 fun K hK=> ?_)| (refine gY (l:=[]) (by simp) (by simp) (fun m hm=> ?_)))<;>(simp only[go_sem])| ((with_reducible refine Y8 ?_);try simp only[AQ.then,AQ.blk,reduceIte,Nat.reduceEqDiff])|fail)
   exact V4 hQ (dS _) _ rfl (yP (l:=[]) dZ rfl rfl (Nat.le_refl _) trivial) rfl rfl
 ·simp only[aaT,hpN,show ¬(fS (l.take k) who).length=0 by omega,if_false]
  by_cases hlt:k<l.length
  ·by_cases hw:(l.getD k default).who=who
   ·have hy:=WA hlt hw
    have hyl:=congrArg List.length hy
    simp only[List.length_append,List.length_cons,List.length_nil] at hyl
    have hy2:=congrArg (List.map aS) hy
    repeat' (first| (with_reducible first| (refine hK _ _ _ ?_;clear hK K)| (refine hA ?_;clear hA hB A B)|refine Z1 ?_|refine Z2 ?_|refine Z3 fun KB hKB=> ?_|refine Z4 (by omega) ?_|refine fun(cap:Nat) (hcap:_≤cap)=> ?_|refine fun(hcp:_≤cap)=> ?_)| (with_reducible first|refine Y2 fun K hK=> ?_|refine Y3 fun A B hA hB=> ?_)<;>(simp only[go_sem];try simp (disch:=omega) only[Iw])| ((with_reducible refine Y0 ?_);simp only[AQ.then,AQ.blk])|refine⟨by omega,?_⟩| (with_reducible refine hKB _ _ _ ?_)|fail)
    exact hKL _ _ _ (k+1,cap) (by omega) (by simp only[aaT,hpN,show ¬(fS (l.take (k+1)) who).length=0 by omega,if_false];(refine cR [18] (by omega) (by repeat' (first| (with_reducible first|exact C1|refine C2 ?_ ?_)| ((with_reducible refine C0 ?_);exact CQ (by omega) rfl rfl (by omega) rfl)| ((with_reducible refine D0 ?_);first|exact CA rfl|refine CJ ?_)|fail)) ⟨⟨by simp,by simp[sgL],_,rfl,bP (aG dZ _) hy2 rfl⟩,trivial⟩ (by simp[sgL]))) ⟨by dsimp only;omega,by dsimp only;omega⟩ (by dsimp only;omega)
   ·have hn:=abI hlt hw
    repeat' (first| (with_reducible first| (refine hK _ _ _ ?_;clear hK K)| (refine hA ?_;clear hA hB A B)| (refine hB ?_;clear hA hB A B)|refine Z1 ?_|refine Z2 ?_|refine Z3 fun KB hKB=> ?_|refine Z4 (by omega) ?_|refine Z5 (by omega) ?_)| (with_reducible first|refine Y2 fun K hK=> ?_|refine Y3 fun A B hA hB=> ?_)<;>(simp only[go_sem];try simp (disch:=omega) only[Iw])| ((with_reducible refine Y0 ?_);simp only[AQ.then,AQ.blk])|refine⟨by omega,?_⟩| (with_reducible refine hKB _ _ _ ?_)|fail)
    exact hKL _ _ _ (k+1,cap) (by omega) (by simp only[aaT,hpN,hn,show ¬(fS (l.take k) who).length=0 by omega,if_false];(refine cR [5] (by omega) (by repeat' (first| (with_reducible first|exact C1|refine C2 ?_ ?_)| ((with_reducible refine C0 ?_);exact CQ (by omega) rfl rfl (by rfl) rfl)| ((with_reducible refine D0 ?_);first|exact CA rfl|refine CJ ?_)|fail)) ⟨⟨by simp,by simp[sgL],_,rfl,bP (aG dZ _) rfl rfl⟩,trivial⟩ (by simp[sgL]))) ⟨by dsimp only;omega,by dsimp only;rw[hn];omega⟩ (by dsimp only;omega)
  ·have hk2:k=l.length:=by omega
   subst hk2
   rw[List.take_length] at*
   repeat' (first| (with_reducible first| (refine hK _ _ _ ?_;clear hK K)| (refine hB ?_;clear hA hB A B)|refine Z1 ?_|refine Z5 (by omega) ?_)| (with_reducible first|refine Y2 fun K hK=> ?_|refine Y3 fun A B hA hB=> ?_)<;>(simp only[go_sem])| ((with_reducible refine Y9 ?_);try simp only[AQ.then,AQ.blk,reduceIte,Nat.reduceEqDiff])|fail)
   refine hQX _ _ _ ?_
   refine aM.aqB 0 (en [(5,dS ((fS l who).map aS))]) .nil (bU (by omega) (oF K6 (yP dZ rfl rfl (by omega) trivial))) ?_
   repeat' (first| (with_reducible first| (refine hK _ _ _ ?_;clear hK K)|refine Z1 ?_)| (first| (with_reducible refine Y2 fun K hK=> ?_)| (refine gY (l:=fS l who) (by omega) hmd (fun m hm=> ?_)))<;>(simp only[go_sem])| ((with_reducible refine Y8 ?_);try simp only[AQ.then,AQ.blk,reduceIte,Nat.reduceEqDiff])|fail)
   exact V4 hQ (dS _) _ rfl (yP dZ rfl rfl (Nat.le_refl _) trivial) rfl rfl
theorem anE {l:List Job} {who:Int} (hl:l.length<2^20) (hd: ∀j∈l,j.rsp.data.length<2^20) (h:K (dS ((fS l who).map aS)) H nx):aB Tryz.prog zR [dS (l.map aS),dI who] H nx K:=
 (VD l who hl hd).fresh rfl fun r hr=>hr▸h
end
end Go.Proofs.YtegiblhkjfiooaaGreat
end
