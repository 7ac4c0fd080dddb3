/- Texts laid together by a program: rules, contracts and the walk that leads to the law. -/
import Derived.Test.YtmccpdapaccnoaaPG3
import Derived.Test.YtmccpdapaccnoaaPG15
import Derived.Test.YtmccpdapaccnoaaPG24
import Derived.Test.YtmccpdapaccnoaaPG11
import Derived.Test.YtmccpdapaccnoaaPG12
import Derived.Test.YtmccpdapaccnoaaPG8
import Derived.Test.YtmccpdapaccnoaaPG13
set_option linter.unusedVariables false
set_option linter.unusedSimpArgs false
set_option linter.unusedSectionVars false
section
namespace Go.Proofs.Ytmccpdapaccnoaa
open Go Go.AM
set_option maxRecDepth 100000
def aJA:AC:=
 (.seq (.region [rq 0 1 (.box true (.tm 0)),
 rq 1 2 (.alloc [OZ,OZ,OZ,OZ,OZ,OZ])] 2 [1,2])
 (.seq (.region [RF 0 9 0 1,
 ⟨1,(some 10),.load 2 true (.tm 9),none,[7],[],false⟩,
 RF 3 12 4 1,
 ⟨4,(some 13),.load 1 false (.tm 12),none,[7],[],true⟩,
 rq 7 3 (.alloc [OZ,OZ,OZ,OZ,OZ,OZ]),
 ⟨2,(some 11),.call aIR [(.tm 10)],none,[7],[4],false⟩,
 ⟨5,(some 14),.call aIM [(.tm 13)],none,[7],[],false⟩,
 rq 6 15 (.build [OZ,OZ,OZ,OZ,OZ,OZ] [(0,2,(.tm 11)),(5,1,(.tm 14))]),
 rn 8 (.store 6 true (.tm 3) (.tm 15))] 9 [1,2,3])
 (.seq (.seq (.region [rq 0 4 (.move (ki 0))] 1 [1,2,3,4])
 (.block 0
 (.loop
 (.seq (.seq (.region [RM 0 16 4,
 RF 1 17 2 1,
 RL 2 18 17,
 rq 3 19 (.len false (.tm 18)),
 rq 4 20 (.bin .lss (.tm 16) (.tm 19))] 5 [1,2,3,4,20])
 (.cond (.tm 20)
 .skip
 (.exit 0)))
 (.seq (.block 1
 (.seq (.region [RF 0 23 2 3,
 ⟨1,(some 24),.load 1 false (.tm 23),none,[8],[],false⟩,
 RF 2 25 2 1,
 RL 3 26 25,
 RM 4 27 4,
 rq 5 28 (.idx 4 (.tm 26) (.tm 27)),
 RF 6 29 0 28,
 RL 7 30 29,
 rq 8 31 (.bC 1 1 [VZ] [(0,1,(.tm 30))]),
 rq 9 32 (.append 1 (.tm 24) (.tm 31)),
 RF 10 33 2 3,
 rn 11 (.store 1 false (.tm 33) (.tm 32))] 12 [1,2,3,4])
 (.seq (.region [rq 0 5 (.move (ki 0))] 1 [1,2,3,4,5])
 (.block 2
 (.loop
 (.seq (.seq (.region [RM 0 34 5,
 RF 1 35 2 1,
 RL 2 36 35,
 RM 3 37 4,
 rq 4 38 (.idx 4 (.tm 36) (.tm 37)),
 RF 5 39 1 38,
 RL 6 40 39,
 rq 7 41 (.len false (.tm 40)),
 rq 8 42 (.bin .lss (.tm 34) (.tm 41))] 9 [1,2,3,4,5,42])
 (.cond (.tm 42)
 .skip
 (.exit 2)))
 (.seq (.block 3
 (.region [RF 0 45 3 3,
 RL 1 46 45,
 RM 2 47 4,
 RF 3 48 2 1,
 RL 4 49 48,
 RM 5 50 4,
 rq 6 51 (.idx 4 (.tm 49) (.tm 50)),
 RF 7 52 1 51,
 RL 8 53 52,
 RM 9 54 5,
 rq 10 55 (.idx 1 (.tm 53) (.tm 54)),
 RL 11 56 55,
 rq 12 57 (.build [VZ,VZ,VZ,VZ,OZ] [(0,1,(.tm 47)),(1,1,(.tm 56))]),
 rq 13 58 (.call aJS [(.tm 46),(.tm 57)]),
 RF 14 59 3 3,
 rn 15 (.store 1 false (.tm 59) (.tm 58))] 16 [1,2,3,4,5]))
 (.region [RM 0 43 5,
 rq 1 44 (.bin .add (.tm 43) (ki 1)),
 RM 2 5 44] 3 [1,2,3,4,5]))))))))
 (.region [RM 0 21 4,
 rq 1 22 (.bin .add (.tm 21) (ki 1)),
 RM 2 4 22] 3 [1,2,3,4]))))))
 (.seq (.seq (.region [rq 0 6 (.move (ki 0))] 1 [1,2,3,6])
 (.block 4
 (.loop
 (.seq (.seq (.region [RM 0 60 6,
 RF 1 61 3 1,
 RL 2 62 61,
 rq 3 63 (.len false (.tm 62)),
 rq 4 64 (.bin .lss (.tm 60) (.tm 63))] 5 [1,2,3,6,64])
 (.cond (.tm 64)
 .skip
 (.exit 4)))
 (.seq (.block 5
 (.seq (.seq (.region [rq 0 7 (.move (ki 0))] 1 [1,2,3,6,7])
 (.block 6
 (.loop
 (.seq (.seq (.region [RM 0 67 7,
 RF 1 68 3 1,
 RL 2 69 68,
 RM 3 70 6,
 rq 4 71 (.idx 3 (.tm 69) (.tm 70)),
 RF 5 72 0 71,
 RL 6 73 72,
 rq 7 74 (.len false (.tm 73)),
 rq 8 75 (.bin .lss (.tm 67) (.tm 74))] 9 [1,2,3,6,7,75])
 (.cond (.tm 75)
 .skip
 (.exit 6)))
 (.seq (.block 7
 (.region [RF 0 78 3 3,
 RL 1 79 78,
 RF 2 80 3 1,
 RL 3 81 80,
 RM 4 82 6,
 rq 5 83 (.idx 3 (.tm 81) (.tm 82)),
 RF 6 84 0 83,
 RL 7 85 84,
 RM 8 86 7,
 rq 9 87 (.idx 3 (.tm 85) (.tm 86)),
 RF 10 88 0 87,
 RL 11 89 88,
 RF 12 90 3 1,
 RL 13 91 90,
 RM 14 92 6,
 rq 15 93 (.idx 3 (.tm 91) (.tm 92)),
 RF 16 94 0 93,
 RL 17 95 94,
 RM 18 96 7,
 rq 19 97 (.idx 3 (.tm 95) (.tm 96)),
 RF 20 98 1 97,
 RL 21 99 98,
 rq 22 100 (.build [VZ,VZ,VZ,VZ,OZ] [(0,1,(.tm 89)),(1,1,(.tm 99))]),
 rq 23 101 (.call aJS [(.tm 79),(.tm 100)]),
 RF 24 102 3 3,
 rn 25 (.store 1 false (.tm 102) (.tm 101))] 26 [1,2,3,6,7]))
 (.region [RM 0 76 7,
 rq 1 77 (.bin .add (.tm 76) (ki 1)),
 RM 2 7 77] 3 [1,2,3,6,7]))))))
 (.seq (.region [rq 0 8 (.move (ki 0))] 1 [1,2,3,6,8])
 (.block 8
 (.loop
 (.seq (.seq (.region [RM 0 103 8,
 RF 1 104 3 1,
 RL 2 105 104,
 RM 3 106 6,
 rq 4 107 (.idx 3 (.tm 105) (.tm 106)),
 RF 5 108 1 107,
 RL 6 109 108,
 rq 7 110 (.len false (.tm 109)),
 rq 8 111 (.bin .lss (.tm 103) (.tm 110))] 9 [1,2,3,6,8,111])
 (.cond (.tm 111)
 .skip
 (.exit 8)))
 (.seq (.block 9
 (.region [RF 0 114 4 3,
 RL 1 115 114,
 RF 2 116 3 1,
 RL 3 117 116,
 RM 4 118 6,
 rq 5 119 (.idx 3 (.tm 117) (.tm 118)),
 RF 6 120 1 119,
 RL 7 121 120,
 RM 8 122 8,
 rq 9 123 (.idx 5 (.tm 121) (.tm 122)),
 rq 10 124 (.load 5 true (.tm 123)),
 rq 11 125 (.call aJS [(.tm 115),(.tm 124)]),
 RF 12 126 4 3,
 rn 13 (.store 1 false (.tm 126) (.tm 125))] 14 [1,2,3,6,8]))
 (.region [RM 0 112 8,
 rq 1 113 (.bin .add (.tm 112) (ki 1)),
 RM 2 8 113] 3 [1,2,3,6,8]))))))))
 (.region [RM 0 65 6,
 rq 1 66 (.bin .add (.tm 65) (ki 1)),
 RM 2 6 66] 3 [1,2,3,6]))))))
 (.seq (.region [rq 0 127 (.load 6 true (.tm 3)),
 rq 1 128 (.call aI0 [(.tm 127)]),
 rn 2 (.store 6 true (.tm 2) (.tm 128))] 3 [2])
 .ret)))))
def aLF:List Cert:=[⟨[],[1,2]⟩,⟨[cz 0,(1,[7],[],false),cz 3,(4,[7],[],true),cz 7,(2,[7],[4],false),(5,[7],[],false),cz 6,cz 8],[1,2,3]⟩,⟨[],[1,2,3,4]⟩,⟨[],[1,2,3,4,20]⟩,⟨[cz 0,(1,[8],[],false),cz 2,cz 3,cz 4,cz 5,cz 6,cz 7,cz 8,cz 9,cz 10,cz 11],[1,2,3,4]⟩,⟨[],[1,2,3,4,5]⟩,⟨[],[1,2,3,4,5,42]⟩,⟨[cz 0,cz 1,cz 2,cz 3,cz 4,cz 5,cz 6,cz 7,cz 8,cz 9,cz 10,cz 11,cz 12,cz 13,cz 14,cz 15],[1,2,3,4,5]⟩,⟨[],[1,2,3,4,5]⟩,⟨[],[1,2,3,4]⟩,⟨[],[1,2,3,6]⟩,⟨[],[1,2,3,6,64]⟩,⟨[],[1,2,3,6,7]⟩,⟨[],[1,2,3,6,7,75]⟩,⟨[cz 0,cz 1,cz 2,cz 3,cz 4,cz 5,cz 6,cz 7,cz 8,cz 9,cz 10,cz 11,cz 12,cz 13,cz 14,cz 15,cz 16,cz 17,cz 18,cz 19,cz 20,cz 21,cz 22,cz 23,cz 24,cz 25],[1,2,3,6,7]⟩,⟨[],[1,2,3,6,7]⟩,⟨[],[1,2,3,6,8]⟩,⟨[],[1,2,3,6,8,111]⟩,⟨[cz 0,cz 1,cz 2,cz 3,cz 4,cz 5,cz 6,cz 7,cz 8,cz 9,cz 10,cz 11,cz 12,cz 13],[1,2,3,6,8]⟩,⟨[],[1,2,3,6,8]⟩,⟨[],[1,2,3,6]⟩,⟨[],[2]⟩]
def aJV:List aW:=[.cell 2 6 true]
theorem aK2:aO Try.prog Try.f7 aLF=some (aJA,aJV):=by kernel_rfl
theorem aLK:aN Try.prog aIZ Try.f7 aJA aJV:=
 aN.mk Try.func7 (by kernel_rfl) aK2
end Go.Proofs.Ytmccpdapaccnoaa
end
section
namespace Go.AM
structure beV (c:Cfg) (who:Nat) (p:fR) (k:Nat):Prop where
 all: ∀i,i<k→a5K c who p (p.out.getD i default)
 srt: ∀i j,i<j→j<k→(p.out.getD i default).n<(p.out.getD j default).n
 ids: ∀i j,i<j→j<k→(bT c who (p.out.getD i default).n).id=(bT c who (p.out.getD j default).n).id→(p.out.getD i default).left=(p.out.getD j default).left
theorem beV.next {c:Cfg} {who:Nat} {p:fR} {k:Nat} (h:beV c who p k) (h1:a5K c who p (p.out.getD k default)) (h2:0<k→(p.out.getD (k-1) default).n<(p.out.getD k default).n)
 (h3: ∀i,i<k→(bT c who (p.out.getD i default).n).id=(bT c who (p.out.getD k default).n).id→(p.out.getD i default).left=(p.out.getD k default).left):beV c who p (k+1):=by
 refine⟨iS h.all h1,fun i j hij hj=> ?_,fun i j hij hj he=> ?_⟩
 ·by_cases hjk:j<k
  ·exact h.srt i j hij hjk
  ·obtain rfl:j=k:=by omega
   have h4:=h2 (by omega)
   by_cases hi:i=j-1
   ·subst hi;omega
   ·have:=h.srt i (j-1) (by omega) (by omega);omega
 ·by_cases hjk:j<k
  ·exact h.ids i j hij hjk he
  ·obtain rfl:j=k:=by omega
   exact h3 i hij he
def a23 (s:CSt) (who n:Int) (st:Nat):Prop:=(0≤who∧who≤2)∧ ∃j∈(aF s who.toNat).out,j.n=n∧j.left=st
end Go.AM
namespace Go.Proofs.Ytmccpdapaccnoaa
open Go Go.AM
set_option maxRecDepth 100000
set_option maxHeartbeats 8000000
section
variable {H : aA} {nx : Nat} {K : D → aA → Nat → Prop}
end
end Go.Proofs.Ytmccpdapaccnoaa
end
section
namespace Go.AM
theorem a23.asks {c:Cfg} {s:CSt} {st:Nat} {who n:Int} (hp:a19 c s) (h:a23 s who n st):oA c who n:=by
 obtain⟨hw,j,hj,h1,_⟩:=h
 have hpo:=hp.port who.toNat (by omega)
 obtain⟨_,h2,_⟩:=hpo.out _ hj
 have:=hpo.asks (n:=n) (by omega) (by omega) (by omega)
 rwa [show ((who.toNat:Nat):Int)=who by omega] at this
end Go.AM
namespace Go.Proofs.Ytmccpdapaccnoaa
open Go Go.AM
set_option maxRecDepth 100000
set_option maxHeartbeats 8000000
section
variable {H : aA} {nx : Nat} {K : D → aA → Nat → Prop}
end
end Go.Proofs.Ytmccpdapaccnoaa
end
section
namespace Go.Proofs.Ytmccpdapaccnoaa
open Go Go.AM
set_option maxRecDepth 100000
set_option maxHeartbeats 8000000
section
variable {H : aA} {nx : Nat} {K : D → aA → Nat → Prop}
end
end Go.Proofs.Ytmccpdapaccnoaa
end
section
namespace Go.Proofs.Ytmccpdapaccnoaa
open Go Go.AM
set_option maxRecDepth 100000
set_option maxHeartbeats 8000000
section
variable {H : aA} {nx : Nat} {K : D → aA → Nat → Prop}
end
end Go.Proofs.Ytmccpdapaccnoaa
end
section
namespace Go.Proofs.Ytmccpdapaccnoaa
open Go Go.AM
set_option maxRecDepth 100000
set_option maxHeartbeats 8000000
section
variable {H : aA} {nx : Nat} {K : D → aA → Nat → Prop}
end
end Go.Proofs.Ytmccpdapaccnoaa
end
section
namespace Go.Proofs.Ytmccpdapaccnoaa
open Go Go.AM
set_option maxRecDepth 100000
set_option maxHeartbeats 8000000
theorem umM {b:Nat} {l:List Nat} {H:aA}:dT b l H (msk b l H)=H:=by
 funext j;simp only[dT,msk];split<;>rfl
theorem muM {b:Nat} {l:List Nat} {H G:aA}:msk b l (dT b l H G)=msk b l G:=by
 funext j;simp only[dT,msk];split<;>rfl
section
variable {H : aA} {nx : Nat} {K : D → aA → Nat → Prop}
theorem aa9:aB Try.prog E2 [] .nil 0 fun rr _ _=>rr.plain=true∧rr=dB true:=by
 refine XX rfl fun Q hQ=> ?_
 unfold CP
 repeat' (first| (with_reducible first| (refine hK _ _ _ ?_;clear hK K)| (refine hA ?_;clear hA hB A B)| (refine hB ?_;clear hA hB A B)|refine Z1 ?_|refine Z2 ?_|refine Z3 fun KB hKB=> ?_|refine Z4 (by omega) ?_|refine Z5 (by omega) ?_|refine Z6 (fun h=> ?_) fun h=> ?_|refine Z7 (fun h=> ?_) fun h=> ?_|refine fun(cap:Nat) (hcap:_≤cap)=> ?_|refine fun(hcp:_≤cap)=> ?_|refine fun(b:Bool)=> ?_|refine hKX _ _ _ ?_|refine hKY _ _ _ ?_|refine hKZ _ _ _ ?_)| (first| (with_reducible first|refine Y1 fun K hK=> ?_|refine Y2 fun K hK=> ?_|refine Y3 fun A B hA hB=> ?_|refine Y4 (by omega) ?_|refine Y5 (by omega) ?_|refine Y6 (fun h=> ?_) fun h=> ?_| (refine Y7 (fun h=> ?_) (fun h=> ?_)<;>try subst h))| (with_reducible refine wS ?_))<;>(simp only[go_sem];try simp (disch:=omega) only[Iw])| ((with_reducible first|refine Y8 ?_|refine Y9 ?_);try simp only[AQ.then,AQ.blk,reduceIte,Nat.reduceEqDiff])| ((with_reducible refine Y0 ?_);simp only[AQ.then,AQ.blk])| ((with_reducible refine Z8 (fun h=> ?_) (fun h=> ?_))<;>try subst h)|refine⟨by omega,?_⟩| (refine⟨by(rw[List.length_take];omega),?_⟩)| (with_reducible first|refine hKB _ _ _ ?_| (clear hKB KB;refine hKB _ _ _ ?_)| (clear hKB KB;clear hKB KB;refine hKB _ _ _ ?_))|fail)
 all_goals first|with_reducible refine aZ hQ _ rfl rfl ?_|skip
 all_goals exact(q9 (by decide)).symm
theorem apY (h:K (dB true) H nx):aB Try.prog E2 [] H nx K:=
 (aa9).pure rfl (aI trivial) (fun r hr=>hr▸h)
end
end Go.Proofs.Ytmccpdapaccnoaa
end
section
namespace Go.AM
theorem a7H {l:List Job} {x:Job}:jX (l++[x])=BM (jX l) x:=by unfold jX;rw[List.foldl_append];rfl
theorem bbP {l:List Job}:(jX l).length=l.length:=(fH l).length_eq
end Go.AM
namespace Go.Proofs.Ytmccpdapaccnoaa
open Go Go.AM
set_option maxRecDepth 100000
set_option maxHeartbeats 8000000
section
variable {H : aA} {nx : Nat} {K : D → aA → Nat → Prop}
theorem bdK (s:CSt) (hf:bdV s):aB Try.prog aIZ [dA (eI s)] .nil 0 fun rr _ nn=>nn=0∧rr.imm=true∧rr=dA (eSt (cX s)):=by
 refine aLK rfl fun Q hQ=> ?_
 unfold aJA
 have hpl:=hf.pl
 have hsl:=hf.sl
 obtain⟨N,hN⟩: ∃N,N=s.dD.length:=⟨_,rfl⟩
 rw[←hN] at hsl
 have hN':=hN.symm
 have hst:=hf.st
 have hwl:s.words.length<2^21:=hst.words
 have hhl:s.holds.length<2^21:=hst.holds
 have htl:s.told.length<2^21:=hst.told
 have hSr: ∀j∈s.told,j.rsp.data.length<2^21:=fun j hj=>hst.data j (List.mem_append_right _ hj)
 repeat' (first| (with_reducible first| (refine hK _ _ _ ?_;clear hK K)|refine Z1 ?_|refine Z3 fun KB hKB=> ?_)| (first| (with_reducible refine Y2 fun K hK=> ?_)| (refine aKA (w:=s.words) (u:=s.holds) (by omega) (by omega) ?_)| (refine aI1 (l:=s.told) (by omega) hSr ?_))<;>(simp only[go_sem,umB,umS,umM,muM])|fail)
 (have hKX:=hKB;clear hKB)
 refine aM.EJ 1 ?_
 refine aM.tW _ _ noF (fun t=>.inl rfl) (KO (i:=9) (o':=⟨6,1,[[.isl (s.words.map aJ),.isl (s.holds.map aJ),.osl 1 12 0 0 0,.isl ((jX []).map aS),.isl ((jX []).map aS),.isl (s.told.map aS)]]⟩) (by rw[aA.aC (by omega)];exact aA.bH) (aP (aH (bB rfl) (aH (bB rfl) (aH (.VS ..) (aH xG (aH xG (aH (bB rfl) eP)))))))) ?_
 refine aM.TF fun G0 hG0=> ?_
 have c0:G0 0=some ⟨5,1,[eI s]⟩:=by rw[hG0];rfl
 have c1:G0 1=some ⟨6,1,[[.osl 0 0 0 0 0,.osl 0 0 0 0 0,.osl 0 0 0 0 0,.osl 0 0 0 0 0,.osl 0 0 0 0 0,.osl 0 0 0 0 0]]⟩:=by rw[hG0];rfl
 have bf1:G0 9=some ⟨6,1,[[.isl (s.words.map aJ),.isl (s.holds.map aJ),.osl 1 12 0 0 0,.isl ((jX []).map aS),.isl ((jX []).map aS),.isl (s.told.map aS)]]⟩:=by rw[hG0];exact aA.bH
 have c12:G0 12=some ⟨1,0,[]⟩:=by rw[hG0];rfl
 clear hG0
 obtain⟨A,hA0⟩: ∃A:Nat→List Int,A=fun k=>(s.bM.take k).map (·.next):=⟨_,rfl⟩
 have hAl: ∀k,k≤3→(A k).length=k:=fun k hk=>by rw[hA0];simp;omega
 have hAs: ∀k,k<3→A (k+1)=A k++[(s.bM.getD k default).next]:=fun k hk=>by
  rw[hA0]
  dsimp only
  rw[List.take_succ_eq_append_getElem (by omega),List.map_append]
  simp[List.getD,show k<s.bM.length by omega]
 have hA3:A 3=(cX s).asked:=by rw[hA0];dsimp only;rw[List.take_of_length_le (by omega)];rfl
 have hqs: ∀k,k<3→(jJ s k).length≤3:=fun k hk=>by have:=hf.q k hk;simpa [jJ] using this
 have hvs: ∀k,k<N→(hJ s k).length≤3∧(aL s k).done.length≤3:=fun k hk=>⟨by have:=(hf.v k (by omega)).1;simpa [hJ] using this,(hf.v k (by omega)).2⟩
 obtain⟨bf5,hQJ⟩: ∃bf5:Nat→List Job,bf5=fun k=>(List.range k).flatMap (jJ s):=⟨_,rfl⟩
 have hQJs: ∀k,bf5 (k+1)=bf5 k++jJ s k:=fun k=>by rw[hQJ];exact CL
 have hQJl: ∀k,k≤3→(bf5 k).length≤3*k:=fun k hk=>by rw[hQJ];exact QU k fun j hj=>hqs j (by omega)
 have hQJ0:bf5 0=[]:=by rw[hQJ];rfl
 refine aM.gP (β:=Nat×Nat×Nat) (fun u=>en [(4,dI u.1),(3,.one (.c (.ptr 6 9 0 0))),(2,.one (.c (.ptr 6 1 0 0))),(1,.one (.c (.ptr 5 0 0 0)))])
  (fun u H1 n1=>u.1≤3∧H1 0=some ⟨5,1,[eI s]⟩∧H1 1=some ⟨6,1,[[.osl 0 0 0 0 0,.osl 0 0 0 0 0,.osl 0 0 0 0 0,.osl 0 0 0 0 0,.osl 0 0 0 0 0,.osl 0 0 0 0 0]]⟩∧H1 9=some ⟨6,1,[[.isl (s.words.map aJ),.isl (s.holds.map aJ),.osl 1 u.2.1 0 u.1 u.2.2,.isl ((jX (bf5 u.1)).map aS),.isl ((jX []).map aS),.isl (s.told.map aS)]]⟩∧(∃m,H1 u.2.1=some ⟨1,m,(A u.1).map aJ⟩∧u.1≤u.2.2∧u.2.2≤m)∧12≤u.2.1∧u.2.1<n1) (fun u=>3-u.1) (0,12,0)
  ⟨noF,_,by repeat' (first| (with_reducible first|exact C1|refine C2 ?_ ?_)| ((with_reducible refine C0 ?_);exact CE (by omega) rfl)| ((with_reducible refine D0 ?_);first|exact CA rfl|refine CJ ?_)|fail),aK,by dsimp only;omega,c0,c1,by dsimp only;rw[hQJ0];exact bf1,⟨0,by rw[c12,hA0];rfl,Nat.le_refl _,Nat.le_refl _⟩,by dsimp only;omega,by dsimp only;omega⟩ ?_
 clear c0 c1 bf1 c12
 rintro⟨k,ia,ca⟩ H1 nx1 hnx1 ⟨hk,g0,g1,g9,⟨m,ga,ga1,ga2⟩,hia1,hia2⟩ KL hKL
 dsimp only at hk g9 ga ga1 ga2 hia1 hia2
 have hA:bQ nx1 [0,1,9,ia]:=AM.apart (by simp;omega) (by simp;omega)
 simp only[bQ,eZ] at hA
 have hAk:=hAl k hk
 by_cases hlt:k<3
 ·obtain⟨P,hP⟩: ∃P,P=aF s k:=⟨_,rfl⟩
  have hP':s.bM.getD k default=P:=hP.symm
  have hPq:=hf.q k hlt
  rw[←hP] at hPq
  have a6: ∀G:aA,msk (nx1+5) [8] G 9=G 9:=fun G=>by unfold msk;rw[if_neg (by simp)]
  rw[←hAk] at g9 ga1
  repeat' (first| (with_reducible first| (refine hK _ _ _ ?_;clear hK K)| (refine hA ?_;clear hA hB A B)|refine Z1 ?_|refine Z2 ?_|refine Z3 fun KB hKB=> ?_|refine Z4 (by omega) ?_|refine fun(cap:Nat) (hcap:_≤cap)=> ?_|refine fun(hcp:_≤cap)=> ?_)| (with_reducible first|refine Y2 fun K hK=> ?_|refine Y3 fun A B hA hB=> ?_)<;>(simp only[go_sem,Nat.add_assoc,Nat.left_eq_add,Nat.add_eq_left,g0,g1,g9,a6,ga,hpl,hP',hA])|refine⟨by omega,?_⟩|fail)
  (have hKY:=hKB;clear hKB)
  refine aM.TF fun aHF hG1=> ?_
  have hc:A k++[P.next]=A (k+1):=by rw[hAs k hlt,hP']
  have d0:aHF 0=some ⟨5,1,[eI s]⟩:=by rw[hG1];simp[aA.set,aA.del,hA,g0]
  have d1:aHF 1=some ⟨6,1,[[.osl 0 0 0 0 0,.osl 0 0 0 0 0,.osl 0 0 0 0 0,.osl 0 0 0 0 0,.osl 0 0 0 0 0,.osl 0 0 0 0 0]]⟩:=by rw[hG1];simp[aA.set,aA.del,hA,g1]
  have aHG:aHF 9=some ⟨6,1,[[.isl (s.words.map aJ),.isl (s.holds.map aJ),.osl 1 (nx1+14) 0 (k+1) cap,.isl ((jX (bf5 k)).map aS),.isl ((jX []).map aS),.isl (s.told.map aS)]]⟩:=by rw[hG1,hAk];exact aA.bH
  have dA:aHF (nx1+14)=some ⟨1,cap,(A (k+1)).map aJ⟩:=by rw[hG1,aA.aC (by omega),←hc];exact aA.bH
  clear hG1 g0 g1 g9 ga hA
  refine aM.gP (β:=Nat) (fun j=>en [(5,dI j),(4,dI k),(3,.one (.c (.ptr 6 9 0 0))),(2,.one (.c (.ptr 6 1 0 0))),(1,.one (.c (.ptr 5 0 0 0)))])
   (fun j H2 _=>j≤P.queue.length∧H2 0=some ⟨5,1,[eI s]⟩∧H2 1=some ⟨6,1,[[.osl 0 0 0 0 0,.osl 0 0 0 0 0,.osl 0 0 0 0 0,.osl 0 0 0 0 0,.osl 0 0 0 0 0,.osl 0 0 0 0 0]]⟩∧H2 9=some ⟨6,1,[[.isl (s.words.map aJ),.isl (s.holds.map aJ),.osl 1 (nx1+14) 0 (k+1) cap,.isl ((jX (bf5 k++(jJ s k).take j)).map aS),.isl ((jX []).map aS),.isl (s.told.map aS)]]⟩∧H2 (nx1+14)=some ⟨1,cap,(A (k+1)).map aJ⟩) (fun j=>P.queue.length-j) 0
   ⟨noF,_,by repeat' (first| (with_reducible first|exact C1|refine C2 ?_ ?_)| ((with_reducible refine C0 ?_);exact CE (by omega) rfl)| ((with_reducible refine D0 ?_);first|exact CA rfl|refine CJ ?_)|fail),aK,by omega,d0,d1,by rw[List.take_zero,List.append_nil];exact aHG,dA⟩ ?_
  clear d0 d1 aHG dA
  rintro j H2 nx2 hnx2 ⟨hj,g0,g1,g9,ga⟩ KM hKM
  obtain⟨W,aYL⟩: ∃W,W=bf5 k++(jJ s k).take j:=⟨_,rfl⟩
  rw[←aYL] at g9
  have hWl:(jX W).length<2^21:=by
   have h1:=hQJl k hk
   have h2:=hqs k hlt
   rw[bbP,aYL,List.length_append,List.length_take];omega
  have hA:bQ nx2 [0,1,9,nx1+14]:=AM.apart (by simp) (by simp;omega)
  simp only[bQ,eZ] at hA
  by_cases hlt2:j<P.queue.length
  ·obtain⟨n,hn⟩: ∃n,P.queue.getD j default=n:=⟨_,rfl⟩
   repeat' (first| (with_reducible first| (refine hK _ _ _ ?_;clear hK K)| (refine hA ?_;clear hA hB A B)|refine Z1 ?_|refine Z2 ?_|refine Z3 fun KB hKB=> ?_|refine Z4 (by omega) ?_)| (first| (with_reducible first|refine Y2 fun K hK=> ?_|refine Y3 fun A B hA hB=> ?_)| (refine aR1 hWl ?_))<;>(simp only[go_sem,Nat.add_assoc,Nat.left_eq_add,Nat.add_eq_left,g0,g1,g9,hpl,hP',hn,hA];try simp (disch:=omega) only[Iw])| ((with_reducible refine Y0 ?_);simp only[AQ.then,AQ.blk])|refine⟨by omega,?_⟩| (with_reducible refine hKB _ _ _ ?_)|fail)
   have hWe:bf5 k++(jJ s k).take (j+1)=W++[(⟨k,n,oW⟩:Job)]:=by
    rw[nK (by simpa [jJ,←hP] using hlt2),←List.append_assoc,←aYL]
    congr 2
    rw[←hn]
    simp[jJ,←hP,List.getD,hlt2]
   exact hKM _ _ _ (j+1) noF _ (by omega) (by omega) (by repeat' (first| (with_reducible first|exact C1|refine C2 ?_ ?_)| ((with_reducible refine C0 ?_);exact CE (by omega) rfl)| ((with_reducible refine D0 ?_);first|exact CA rfl|refine CJ ?_)|fail)) aK ⟨by omega,by rw[aA.aC (by omega)];exact g0,by rw[aA.aC (by omega)];exact g1,by rw[hWe,a7H];exact aA.bH,by rw[aA.aC (by omega)];exact ga⟩
  ·have hj2:j=P.queue.length:=by omega
   have hWe:W=bf5 (k+1):=by rw[aYL,hQJs,List.take_of_length_le (by simp[jJ,←hP];omega)]
   repeat' (first| (with_reducible first| (refine hK _ _ _ ?_;clear hK K)| (refine hB ?_;clear hA hB A B)|refine Z1 ?_|refine Z5 (by omega) ?_|refine hKY _ _ _ ?_)| (with_reducible first|refine Y2 fun K hK=> ?_|refine Y3 fun A B hA hB=> ?_)<;>(simp only[go_sem,g0,hpl,hP'];try simp (disch:=omega) only[Iw])| ((with_reducible refine Y9 ?_);try simp only[AQ.then,AQ.blk,reduceIte,Nat.reduceEqDiff])| ((with_reducible refine Y0 ?_);simp only[AQ.then,AQ.blk])|refine⟨by omega,?_⟩| (with_reducible refine hKB _ _ _ ?_)|fail)
   exact hKL _ _ _ (k+1,nx1+14,cap) noF _ (by omega) (by dsimp only;omega) (by repeat' (first| (with_reducible first|exact C1|refine C2 ?_ ?_)| ((with_reducible refine C0 ?_);exact CE (by omega) rfl)| ((with_reducible refine D0 ?_);first|exact CA rfl|refine CJ ?_)|fail)) aK ⟨by dsimp only;omega,g0,g1,by dsimp only;rw[←hWe];exact g9,⟨cap,ga,by dsimp only;omega,Nat.le_refl _⟩,by dsimp only;omega,by dsimp only;omega⟩
 ·have hk3:k=3:=by omega
  subst hk3
  repeat' (first| (with_reducible first| (refine hK _ _ _ ?_;clear hK K)| (refine hB ?_;clear hA hB A B)|refine Z1 ?_|refine Z3 fun KB hKB=> ?_|refine Z5 (by omega) ?_|refine hKX _ _ _ ?_)| (with_reducible first|refine Y2 fun K hK=> ?_|refine Y3 fun A B hA hB=> ?_)<;>(simp only[go_sem,g0,g1,g9])| ((with_reducible refine Y9 ?_);try simp only[AQ.then,AQ.blk,reduceIte,Nat.reduceEqDiff])|fail)
  (have hKY:=hKB;clear hKB)
  obtain⟨bf6,hPJ⟩: ∃bf6:Nat→List Job,bf6=fun k=>bf5 3++(List.range k).flatMap (hJ s):=⟨_,rfl⟩
  have hPJs: ∀k,bf6 (k+1)=bf6 k++hJ s k:=fun k=>by rw[hPJ];dsimp only;rw[CL,List.append_assoc]
  have hPJl: ∀k,k≤N→(bf6 k).length≤9+3*k:=fun k hk=>by
   have h1:=hQJl 3 (by omega)
   have h2:=QU (f:=hJ s) (m:=3) k fun j hj=>(hvs j (by omega)).1
   rw[hPJ];dsimp only;rw[List.length_append];omega
  have hPJ0:bf6 0=bf5 3:=by rw[hPJ];simp
  obtain⟨bf7,hDJ⟩: ∃bf7:Nat→List Job,bf7=fun k=>(List.range k).flatMap fun k=>(aL s k).done:=⟨_,rfl⟩
  have hDJs: ∀k,bf7 (k+1)=bf7 k++(aL s k).done:=fun k=>by rw[hDJ];exact CL
  have hDJl: ∀k,k≤N→(bf7 k).length≤3*k:=fun k hk=>by rw[hDJ];exact QU k fun j hj=>(hvs j (by omega)).2
  have hDJ0:bf7 0=[]:=by rw[hDJ];rfl
  refine aM.gP (β:=Nat) (fun k=>en [(6,dI k),(3,.one (.c (.ptr 6 9 0 0))),(2,.one (.c (.ptr 6 1 0 0))),(1,.one (.c (.ptr 5 0 0 0)))])
   (fun k H2 _=>k≤N∧H2 0=some ⟨5,1,[eI s]⟩∧H2 1=some ⟨6,1,[[.osl 0 0 0 0 0,.osl 0 0 0 0 0,.osl 0 0 0 0 0,.osl 0 0 0 0 0,.osl 0 0 0 0 0,.osl 0 0 0 0 0]]⟩∧H2 9=some ⟨6,1,[[.isl (s.words.map aJ),.isl (s.holds.map aJ),.osl 1 ia 0 3 ca,.isl ((jX (bf6 k)).map aS),.isl ((jX (bf7 k)).map aS),.isl (s.told.map aS)]]⟩∧H2 ia=some ⟨1,m,(A 3).map aJ⟩) (fun k=>N-k) 0
   ⟨noF,_,by repeat' (first| (with_reducible first|exact C1|refine C2 ?_ ?_)| ((with_reducible refine C0 ?_);exact CE (by omega) rfl)| ((with_reducible refine D0 ?_);first|exact CA rfl|refine CJ ?_)|fail),aK,by omega,g0,g1,by rw[hPJ0,hDJ0];exact g9,ga⟩ ?_
  clear g0 g1 g9 ga hA
  rintro k H2 nx2 hnx2 ⟨hk4,g0,g1,g9,ga⟩ KM hKM
  have hA:bQ nx2 [0,1,9,ia]:=AM.apart (by simp;omega) (by simp;omega)
  simp only[bQ,eZ] at hA
  by_cases hlt4:k<N
  ·obtain⟨V,hV⟩: ∃V,V=aL s k:=⟨_,rfl⟩
   have hV':s.dD.getD k default=V:=hV.symm
   obtain⟨hV1,hV2⟩:=hvs k hlt4
   have hV1':V.pipe.length≤3:=by simpa [hJ,←hV] using hV1
   rw[←hV] at hV2
   repeat' (first| (with_reducible first| (refine hK _ _ _ ?_;clear hK K)| (refine hA ?_;clear hA hB A B)|refine Z1 ?_|refine Z2 ?_|refine Z3 fun KB hKB=> ?_|refine Z4 (by omega) ?_)| (with_reducible first|refine Y2 fun K hK=> ?_|refine Y3 fun A B hA hB=> ?_)<;>(simp only[go_sem,g0,g1,g9,hN'])|fail)
   (have hKZ:=hKB;clear hKB)
   refine aM.gP (β:=Nat) (fun j=>en [(7,dI j),(6,dI k),(3,.one (.c (.ptr 6 9 0 0))),(2,.one (.c (.ptr 6 1 0 0))),(1,.one (.c (.ptr 5 0 0 0)))])
    (fun j H3 _=>j≤V.pipe.length∧H3 0=some ⟨5,1,[eI s]⟩∧H3 1=some ⟨6,1,[[.osl 0 0 0 0 0,.osl 0 0 0 0 0,.osl 0 0 0 0 0,.osl 0 0 0 0 0,.osl 0 0 0 0 0,.osl 0 0 0 0 0]]⟩∧H3 9=some ⟨6,1,[[.isl (s.words.map aJ),.isl (s.holds.map aJ),.osl 1 ia 0 3 ca,.isl ((jX (bf6 k++(hJ s k).take j)).map aS),.isl ((jX (bf7 k)).map aS),.isl (s.told.map aS)]]⟩∧H3 ia=some ⟨1,m,(A 3).map aJ⟩) (fun j=>V.pipe.length-j) 0
    ⟨noF,_,by repeat' (first| (with_reducible first|exact C1|refine C2 ?_ ?_)| ((with_reducible refine C0 ?_);exact CE (by omega) rfl)| ((with_reducible refine D0 ?_);first|exact CA rfl|refine CJ ?_)|fail),aK,by omega,g0,g1,by rw[List.take_zero,List.append_nil];exact g9,ga⟩ ?_
   clear g0 g1 g9 ga
   rintro j H3 nx3 hnx3 ⟨hj,g0,g1,g9,ga⟩ KN hKN
   obtain⟨W,aYL⟩: ∃W,W=bf6 k++(hJ s k).take j:=⟨_,rfl⟩
   rw[←aYL] at g9
   have hWl:(jX W).length<2^21:=by
    have h1:=hPJl k hk4
    rw[bbP,aYL,List.length_append,List.length_take];omega
   have hA3:bQ nx3 [0,1,9,ia]:=AM.apart (by simp;omega) (by simp;omega)
   simp only[bQ,eZ] at hA3
   by_cases hlt2:j<V.pipe.length
   ·obtain⟨x,hx⟩: ∃x,V.pipe.getD j default=x:=⟨_,rfl⟩
    repeat' (first| (with_reducible first| (refine hK _ _ _ ?_;clear hK K)| (refine hA ?_;clear hA hB A B)|refine Z1 ?_|refine Z2 ?_|refine Z3 fun KB hKB=> ?_|refine Z4 (by omega) ?_)| (first| (with_reducible first|refine Y2 fun K hK=> ?_|refine Y3 fun A B hA hB=> ?_)| (refine aR1 hWl ?_))<;>(simp only[go_sem,Nat.add_assoc,Nat.left_eq_add,Nat.add_eq_left,g0,g1,g9,hN',hV',hx,hA3];try simp (disch:=omega) only[Iw])| ((with_reducible refine Y0 ?_);simp only[AQ.then,AQ.blk])|refine⟨by omega,?_⟩| (with_reducible refine hKB _ _ _ ?_)|fail)
    have hWe:bf6 k++(hJ s k).take (j+1)=W++[(⟨x.who,x.n,oW⟩:Job)]:=by
     rw[nK (by simpa [hJ,←hV] using hlt2),←List.append_assoc,←aYL]
     congr 2
     rw[←hx]
     simp[hJ,←hV,List.getD,hlt2]
    exact hKN _ _ _ (j+1) noF _ (by omega) (by omega) (by repeat' (first| (with_reducible first|exact C1|refine C2 ?_ ?_)| ((with_reducible refine C0 ?_);exact CE (by omega) rfl)| ((with_reducible refine D0 ?_);first|exact CA rfl|refine CJ ?_)|fail)) aK ⟨by omega,by rw[aA.aC (by omega)];exact g0,by rw[aA.aC (by omega)];exact g1,by rw[hWe,a7H];exact aA.bH,by rw[aA.aC (by omega)];exact ga⟩
   ·have hj2:j=V.pipe.length:=by omega
    have hWe:W=bf6 (k+1):=by rw[aYL,hPJs,List.take_of_length_le (by simp[hJ,←hV];omega)]
    rw[hWe] at g9
    repeat' (first| (with_reducible first| (refine hK _ _ _ ?_;clear hK K)| (refine hB ?_;clear hA hB A B)|refine Z1 ?_|refine Z3 fun KB hKB=> ?_|refine Z5 (by omega) ?_|refine hKZ _ _ _ ?_)| (with_reducible first|refine Y2 fun K hK=> ?_|refine Y3 fun A B hA hB=> ?_)<;>(simp only[go_sem,g0,hN',hV'])| ((with_reducible refine Y9 ?_);try simp only[AQ.then,AQ.blk,reduceIte,Nat.reduceEqDiff])|refine⟨by omega,?_⟩|fail)
    (have hKW:=hKB;clear hKB)
    refine aM.gP (β:=Nat) (fun j=>en [(8,dI j),(6,dI k),(3,.one (.c (.ptr 6 9 0 0))),(2,.one (.c (.ptr 6 1 0 0))),(1,.one (.c (.ptr 5 0 0 0)))])
     (fun j H3 _=>j≤V.done.length∧H3 0=some ⟨5,1,[eI s]⟩∧H3 1=some ⟨6,1,[[.osl 0 0 0 0 0,.osl 0 0 0 0 0,.osl 0 0 0 0 0,.osl 0 0 0 0 0,.osl 0 0 0 0 0,.osl 0 0 0 0 0]]⟩∧H3 9=some ⟨6,1,[[.isl (s.words.map aJ),.isl (s.holds.map aJ),.osl 1 ia 0 3 ca,.isl ((jX (bf6 (k+1))).map aS),.isl ((jX (bf7 k++V.done.take j)).map aS),.isl (s.told.map aS)]]⟩∧H3 ia=some ⟨1,m,(A 3).map aJ⟩) (fun j=>V.done.length-j) 0
     ⟨noF,_,by repeat' (first| (with_reducible first|exact C1|refine C2 ?_ ?_)| ((with_reducible refine C0 ?_);exact CE (by omega) rfl)| ((with_reducible refine D0 ?_);first|exact CA rfl|refine CJ ?_)|fail),aK,by omega,g0,g1,by rw[List.take_zero,List.append_nil];exact g9,ga⟩ ?_
    clear g0 g1 g9 ga hA3 hWl aYL hWe W hj hj2 hlt2
    rintro j H4 nx4 hnx4 ⟨hj,g0,g1,g9,ga⟩ aNB hKO
    obtain⟨W,aYL⟩: ∃W,W=bf7 k++V.done.take j:=⟨_,rfl⟩
    rw[←aYL] at g9
    have hWl:(jX W).length<2^21:=by
     have h1:=hDJl k hk4
     rw[bbP,aYL,List.length_append,List.length_take];omega
    have hA3:bQ nx4 [0,1,9,ia]:=AM.apart (by simp;omega) (by simp;omega)
    simp only[bQ,eZ] at hA3
    by_cases hlt2:j<V.done.length
    ·obtain⟨x,hx⟩: ∃x,V.done.getD j default=x:=⟨_,rfl⟩
     repeat' (first| (with_reducible first| (refine hK _ _ _ ?_;clear hK K)| (refine hA ?_;clear hA hB A B)|refine Z1 ?_|refine Z2 ?_|refine Z3 fun KB hKB=> ?_|refine Z4 (by omega) ?_)| (first| (with_reducible first|refine Y2 fun K hK=> ?_|refine Y3 fun A B hA hB=> ?_)| (refine aS4 (l:=jX W) (j:=x) hWl ?_))<;>(simp only[go_sem,Nat.add_assoc,Nat.left_eq_add,Nat.add_eq_left,g0,g1,g9,hN',hV',hx,hA3];try simp (disch:=omega) only[Iw])| ((with_reducible refine Y0 ?_);simp only[AQ.then,AQ.blk])|refine⟨by omega,?_⟩| (with_reducible refine hKB _ _ _ ?_)|fail)
     have hWe:bf7 k++V.done.take (j+1)=W++[x]:=by
      rw[nK hlt2,←List.append_assoc,←aYL,hx]
     exact hKO _ _ _ (j+1) noF _ (by omega) (by omega) (by repeat' (first| (with_reducible first|exact C1|refine C2 ?_ ?_)| ((with_reducible refine C0 ?_);exact CE (by omega) rfl)| ((with_reducible refine D0 ?_);first|exact CA rfl|refine CJ ?_)|fail)) aK ⟨by omega,by rw[aA.aC (by omega)];exact g0,by rw[aA.aC (by omega)];exact g1,by rw[hWe,a7H];exact aA.bH,by rw[aA.aC (by omega)];exact ga⟩
    ·have hj2:j=V.done.length:=by omega
     have hWe:W=bf7 (k+1):=by rw[aYL,hDJs,List.take_of_length_le (by omega),hV]
     rw[hWe] at g9
     repeat' (first| (with_reducible first| (refine hK _ _ _ ?_;clear hK K)| (refine hB ?_;clear hA hB A B)|refine Z1 ?_|refine Z5 (by omega) ?_)| (with_reducible first|refine Y2 fun K hK=> ?_|refine Y3 fun A B hA hB=> ?_)<;>(simp only[go_sem,g0,hN',hV'])| ((with_reducible refine Y9 ?_);try simp only[AQ.then,AQ.blk,reduceIte,Nat.reduceEqDiff])|refine⟨by omega,?_⟩|fail)
     refine hKW _ _ _ ?_
     repeat' (first| (with_reducible (refine hK _ _ _ ?_;clear hK K))| (with_reducible refine Y2 fun K hK=> ?_)<;>(simp only[go_sem];try simp (disch:=omega) only[Iw])| ((with_reducible refine Y0 ?_);simp only[AQ.then,AQ.blk])| (with_reducible refine hKB _ _ _ ?_)|fail)
     exact hKM _ _ _ (k+1) noF _ (by omega) (by omega) (by repeat' (first| (with_reducible first|exact C1|refine C2 ?_ ?_)| ((with_reducible refine C0 ?_);exact CE (by omega) rfl)| ((with_reducible refine D0 ?_);first|exact CA rfl|refine CJ ?_)|fail)) aK ⟨by omega,g0,g1,g9,ga⟩
  ·have hk5:k=N:=by omega
   have hW3:jX (bf6 k)=(cX s).wait:=by rw[hPJ,hQJ,hk5];show _=jX (qU s);unfold qU;rw[hpl,hN]
   have hD3:jX (bf7 k)=(cX s).done:=by rw[hDJ,hk5];show _=jX (uQ s);unfold uQ;rw[hN]
   rw[hW3,hD3] at g9
   repeat' (first| (with_reducible first| (refine hK _ _ _ ?_;clear hK K)| (refine hB ?_;clear hA hB A B)|refine Z1 ?_|refine Z5 (by omega) ?_|refine hKY _ _ _ ?_)| (with_reducible first|refine Y2 fun K hK=> ?_|refine Y3 fun A B hA hB=> ?_)<;>(simp only[go_sem,g0,g1,g9,hN',hA])| ((with_reducible refine Y9 ?_);try simp only[AQ.then,AQ.blk,reduceIte,Nat.reduceEqDiff])|fail)
   refine aB.ao4 (args':=[dA (eSt (cX s))]) (without (fun j=>j=ia) H2) (fun j=>j=ia) rfl (fun i d0 d h1 h2=> ?_) kS ?_
   ·cases i with
    |succ i=>simp at h1
    |zero=>
     simp only[List.getElem?_cons_zero,Option.some.injEq] at h1 h2
     subst h1;subst h2
     refine lY ?_
     show CvL _ _ _ _ [.isl (s.words.map aJ),.isl (s.holds.map aJ),.isl ((cX s).asked.map aJ),.isl ((cX s).wait.map aS),.isl ((cX s).done.map aS),.isl (s.told.map aS)] _
     rw[←hA3]
     exact aH (bB rfl) (aH (bB rfl) (aH (bW bF ga (by rw[hAl 3 (by omega)]) (by rw[hAl 3 (by omega)];exact ga1) rfl) (aH (bB rfl) (aH (bB rfl) (aH (bB rfl) eP)))))
   have w1:(without (fun j=>j=ia) H2) 1=some ⟨6,1,[[.osl 0 0 0 0 0,.osl 0 0 0 0 0,.osl 0 0 0 0 0,.osl 0 0 0 0 0,.osl 0 0 0 0 0,.osl 0 0 0 0 0]]⟩:=by rw[iI (F:=fun j=>j=ia) (by omega)];exact g1
   refine aQR hst fun aZJ nx5 b0 b1 b2 b3 b4 b5 k0 k1 k2 k3 k4 k5 aUV aUW aIG aII aUX aIH aUY o0 o1 o2 o3 o4 o5 fr=> ?_
   have w2:=(fr 1 (by omega)).trans w1
   simp only[go_sem,w2]
   refine hK _ _ _ ?_
   clear hK K
   repeat' (first| ((with_reducible refine Y8 ?_);try simp only[AQ.then,AQ.blk,reduceIte,Nat.reduceEqDiff])|fail)
   refine V4 hQ (dA (eSt (cX s))) _ (fZ (m:=1) rfl aA.bH rfl) (lY (aH ((o0.of (aA.aC (by omega))).frz bF (by simp)) (aH ((o1.of (aA.aC (by omega))).frz bF (by simp)) (aH ((o2.of (aA.aC (by omega))).frz bF (by simp)) (aH ((o3.of (aA.aC (by omega))).frz dZ (by simp)) (aH ((o4.of (aA.aC (by omega))).frz dZ (by simp)) (aH ((o5.of (aA.aC (by omega))).frz dZ (by simp)) eP))))))) rfl rfl
theorem bdR {s:CSt} (hf:bdV s) (h:K (dA (eSt (cX s))) H nx):aB Try.prog aIZ [dA (eI s)] H nx K:=
 (bdK s hf).fresh rfl (fun r hr=>hr▸h)
end
end Go.Proofs.Ytmccpdapaccnoaa
end
section
namespace Go.Proofs.Ytmccpdapaccnoaa
open Go Go.AM
set_option maxRecDepth 100000
def av4:AC:=
 (.seq (.region [rq 0 2 (.box true (.tm 0)),
 rq 1 3 (.box true (.tm 1)),
 rq 2 4 (.move (.kv (.bool false)))] 3 [2,3])
 (.seq (.region [RF 0 5 0 2,
 rq 1 6 (.load 2 true (.tm 5)),
 RF 2 7 0 3,
 rq 3 8 (.load 2 true (.tm 7)),
 rq 4 9 (.call wK [(.tm 6),(.tm 8)]),
 RM 5 10 9,
 GQ 6 11 (.fld 2 (.tm 2)) 10 true,
 GQ 7 12 (.load 1 false (.tm 11)) 10 true,
 GQ 8 13 (.fld 2 (.tm 3)) 10 true,
 GQ 9 14 (.load 1 false (.tm 13)) 10 true,
 GQ 10 15 (.call jM [(.tm 12),(.tm 14)]) 10 true,
 rq 11 16 (.pick (.tm 10) (.tm 15) (.kv (.bool false))),
 RM 12 17 16,
 GQ 13 18 (.fld 3 (.tm 2)) 17 true,
 GQ 14 19 (.load 1 false (.tm 18)) 17 true,
 GQ 15 20 (.fld 3 (.tm 3)) 17 true,
 GQ 16 21 (.load 1 false (.tm 20)) 17 true,
 GQ 17 22 (.call jN [(.tm 19),(.tm 21)]) 17 true,
 rq 18 23 (.pick (.tm 17) (.tm 22) (.kv (.bool false))),
 RM 19 24 23,
 GQ 20 25 (.fld 4 (.tm 2)) 24 true,
 GQ 21 26 (.load 1 false (.tm 25)) 24 true,
 GQ 22 27 (.fld 4 (.tm 3)) 24 true,
 GQ 23 28 (.load 1 false (.tm 27)) 24 true,
 GQ 24 29 (.call jN [(.tm 26),(.tm 28)]) 24 true,
 rq 25 30 (.pick (.tm 24) (.tm 29) (.kv (.bool false))),
 RM 26 31 30,
 GQ 27 32 (.fld 5 (.tm 2)) 31 true,
 GQ 28 33 (.load 1 false (.tm 32)) 31 true,
 GQ 29 34 (.fld 5 (.tm 3)) 31 true,
 GQ 30 35 (.load 1 false (.tm 34)) 31 true,
 GQ 31 36 (.call jN [(.tm 33),(.tm 35)]) 31 true,
 rq 32 37 (.pick (.tm 31) (.tm 36) (.kv (.bool false))),
 RM 33 4 37] 34 [4])
 .ret))
def ayQ:List Cert:=[⟨[],[2,3]⟩,⟨[],[4]⟩]
def aw2:List aW:=[.tm 4]
theorem ayU:aO Try.prog Try.f6 ayQ=some (av4,aw2):=by kernel_rfl
theorem ayR:aN Try.prog au9 Try.f6 av4 aw2:=
 aN.mk Try.func6 (by kernel_rfl) ayU
end Go.Proofs.Ytmccpdapaccnoaa
end
section
namespace Go.Proofs.Ytmccpdapaccnoaa
open Go Go.AM
set_option maxRecDepth 100000
def xO:AC:=
 (.seq (.region [rq 0 4 (.move (.kv (.bool false)))] 1 [0,1])
 (.seq (.seq (.region [RM 0 6 0,
 rq 1 7 (.len false (.tm 6)),
 RM 2 8 1,
 rq 3 9 (.len false (.tm 8)),
 rq 4 10 (.bin .neq (.tm 7) (.tm 9))] 5 [0,1,10])
 (.cond (.tm 10)
 (.seq (.region [rq 0 4 (.move (.kv (.bool false)))] 1 [4])
 .ret)
 .skip))
 (.seq (.seq (.region [rq 0 5 (.move (ki 0))] 1 [0,1,5])
 (.block 0
 (.loop
 (.seq (.seq (.region [RM 0 11 5,
 RM 1 12 0,
 rq 2 13 (.len false (.tm 12)),
 rq 3 14 (.bin .lss (.tm 11) (.tm 13))] 4 [0,1,5,14])
 (.cond (.tm 14)
 .skip
 (.exit 0)))
 (.seq (.block 1
 (.seq (.region [RM 0 17 0,
 RM 1 18 5,
 rq 2 19 (.idx 1 (.tm 17) (.tm 18)),
 RL 3 20 19,
 RM 4 21 1,
 RM 5 22 5,
 rq 6 23 (.idx 1 (.tm 21) (.tm 22)),
 RL 7 24 23,
 rq 8 25 (.bin .neq (.tm 20) (.tm 24))] 9 [0,1,5,25])
 (.cond (.tm 25)
 (.seq (.region [rq 0 4 (.move (.kv (.bool false)))] 1 [4])
 .ret)
 .skip)))
 (.region [RM 0 15 5,
 rq 1 16 (.bin .add (.tm 15) (ki 1)),
 RM 2 5 16] 3 [0,1,5]))))))
 (.seq (.region [rq 0 4 (.move (.kv (.bool true)))] 1 [4])
 .ret))))
def P9:List Cert:=[⟨[],[0,1]⟩,⟨[],[0,1,10]⟩,⟨[],[4]⟩,⟨[],[0,1,5]⟩,⟨[],[0,1,5,14]⟩,⟨[cz 0,cz 1,cz 2,cz 3,cz 4,cz 5,cz 6,cz 7,cz 8],[0,1,5,25]⟩,⟨[],[4]⟩,⟨[],[0,1,5]⟩,⟨[],[4]⟩]
def GS:List aW:=[.tm 4]
theorem P1:aO Try.prog Try.f16 P9=some (xO,GS):=by kernel_rfl
theorem SU:aN Try.prog jM Try.f16 xO GS:=
 aN.mk Try.func16 (by kernel_rfl) P1
end Go.Proofs.Ytmccpdapaccnoaa
end
section
namespace Go.Proofs.Ytmccpdapaccnoaa
open Go Go.AM
set_option maxRecDepth 100000
def AT:AC:=
 (.seq (.region [rq 0 2 (.box true (.tm 0)),
 rq 1 3 (.box true (.tm 1)),
 rq 2 4 (.move (.kv (.bool false)))] 3 [2,3])
 (.seq (.region [RF 0 5 0 2,
 RL 1 6 5,
 RF 2 7 0 3,
 RL 3 8 7,
 rq 4 9 (.bin .eql (.tm 6) (.tm 8)),
 RM 5 10 9,
 GQ 6 11 (.fld 1 (.tm 2)) 10 true,
 GQ 7 12 (.load 1 false (.tm 11)) 10 true,
 GQ 8 13 (.fld 1 (.tm 3)) 10 true,
 GQ 9 14 (.load 1 false (.tm 13)) 10 true,
 GQ 10 15 (.bin .eql (.tm 12) (.tm 14)) 10 true,
 rq 11 16 (.pick (.tm 10) (.tm 15) (.kv (.bool false))),
 RM 12 17 16,
 GQ 13 18 (.fld 2 (.tm 2)) 17 true,
 GQ 14 19 (.load 1 false (.tm 18)) 17 true,
 GQ 15 20 (.fld 2 (.tm 3)) 17 true,
 GQ 16 21 (.load 1 false (.tm 20)) 17 true,
 GQ 17 22 (.call jM [(.tm 19),(.tm 21)]) 17 true,
 rq 18 23 (.pick (.tm 17) (.tm 22) (.kv (.bool false))),
 RM 19 4 23] 20 [4])
 .ret))
def T1:List Cert:=[⟨[],[2,3]⟩,⟨[],[4]⟩]
def II:List aW:=[.tm 4]
theorem U0:aO Try.prog Try.f21 T1=some (AT,II):=by kernel_rfl
theorem UL:aN Try.prog qO Try.f21 AT II:=
 aN.mk Try.func21 (by kernel_rfl) U0
end Go.Proofs.Ytmccpdapaccnoaa
end
section
namespace Go.Proofs.Ytmccpdapaccnoaa
open Go Go.AM
set_option maxRecDepth 100000
def xT:AC:=
 (.seq (.region [rq 0 4 (.move (.kv (.bool false)))] 1 [0,1])
 (.seq (.seq (.region [RM 0 6 0,
 rq 1 7 (.len false (.tm 6)),
 RM 2 8 1,
 rq 3 9 (.len false (.tm 8)),
 rq 4 10 (.bin .neq (.tm 7) (.tm 9))] 5 [0,1,10])
 (.cond (.tm 10)
 (.seq (.region [rq 0 4 (.move (.kv (.bool false)))] 1 [4])
 .ret)
 .skip))
 (.seq (.seq (.region [rq 0 5 (.move (ki 0))] 1 [0,1,5])
 (.block 0
 (.loop
 (.seq (.seq (.region [RM 0 11 5,
 RM 1 12 0,
 rq 2 13 (.len false (.tm 12)),
 rq 3 14 (.bin .lss (.tm 11) (.tm 13))] 4 [0,1,5,14])
 (.cond (.tm 14)
 .skip
 (.exit 0)))
 (.seq (.block 1
 (.seq (.region [RM 0 17 0,
 RM 1 18 5,
 rq 2 19 (.idx 5 (.tm 17) (.tm 18)),
 RF 3 20 0 19,
 RL 4 21 20,
 RM 5 22 1,
 RM 6 23 5,
 rq 7 24 (.idx 5 (.tm 22) (.tm 23)),
 RF 8 25 0 24,
 RL 9 26 25,
 rq 10 27 (.bin .neq (.tm 21) (.tm 26)),
 RM 11 28 27,
 GQ 12 29 (.move (.tm 0)) 28 false,
 GQ 13 30 (.move (.tm 5)) 28 false,
 GQ 14 31 (.idx 5 (.tm 29) (.tm 30)) 28 false,
 GQ 15 32 (.fld 1 (.tm 31)) 28 false,
 GQ 16 33 (.load 1 false (.tm 32)) 28 false,
 GQ 17 34 (.move (.tm 1)) 28 false,
 GQ 18 35 (.move (.tm 5)) 28 false,
 GQ 19 36 (.idx 5 (.tm 34) (.tm 35)) 28 false,
 GQ 20 37 (.fld 1 (.tm 36)) 28 false,
 GQ 21 38 (.load 1 false (.tm 37)) 28 false,
 GQ 22 39 (.bin .neq (.tm 33) (.tm 38)) 28 false,
 rq 23 40 (.pick (.tm 28) (.kv (.bool true)) (.tm 39)),
 RM 24 41 40,
 GQ 25 42 (.move (.tm 0)) 41 false,
 GQ 26 43 (.move (.tm 5)) 41 false,
 GQ 27 44 (.idx 5 (.tm 42) (.tm 43)) 41 false,
 GQ 28 45 (.fld 2 (.tm 44)) 41 false,
 GQ 29 46 (.load 3 true (.tm 45)) 41 false,
 GQ 30 47 (.move (.tm 1)) 41 false,
 GQ 31 48 (.move (.tm 5)) 41 false,
 GQ 32 49 (.idx 5 (.tm 47) (.tm 48)) 41 false,
 GQ 33 50 (.fld 2 (.tm 49)) 41 false,
 GQ 34 51 (.load 3 true (.tm 50)) 41 false,
 GQ 35 52 (.call qO [(.tm 46),(.tm 51)]) 41 false,
 GQ 36 53 (.un .not (.tm 52)) 41 false,
 rq 37 54 (.pick (.tm 41) (.kv (.bool true)) (.tm 53))] 38 [0,1,5,54])
 (.cond (.tm 54)
 (.seq (.region [rq 0 4 (.move (.kv (.bool false)))] 1 [4])
 .ret)
 .skip)))
 (.region [RM 0 15 5,
 rq 1 16 (.bin .add (.tm 15) (ki 1)),
 RM 2 5 16] 3 [0,1,5]))))))
 (.seq (.region [rq 0 4 (.move (.kv (.bool true)))] 1 [4])
 .ret))))
def R3:List Cert:=[⟨[],[0,1]⟩,⟨[],[0,1,10]⟩,⟨[],[4]⟩,⟨[],[0,1,5]⟩,⟨[],[0,1,5,14]⟩,⟨[cz 0,cz 1,cz 2,cz 3,cz 4,cz 5,cz 6,cz 7,cz 8,cz 9,cz 10,cz 11,cz 12,cz 13,cz 14,cz 15,cz 16,cz 17,cz 18,cz 19,cz 20,cz 21,cz 22,cz 23,cz 24,cz 25,cz 26,cz 27,cz 28,cz 29,cz 30,cz 31,cz 32,cz 33,cz 34,cz 35,cz 36,cz 37],[0,1,5,54]⟩,⟨[],[4]⟩,⟨[],[0,1,5]⟩,⟨[],[4]⟩]
def FA:List aW:=[.tm 4]
theorem RZ:aO Try.prog Try.f8 R3=some (xT,FA):=by kernel_rfl
theorem RW:aN Try.prog jN Try.f8 xT FA:=
 aN.mk Try.func8 (by kernel_rfl) RZ
end Go.Proofs.Ytmccpdapaccnoaa
end
section
namespace Go.Proofs.Ytmccpdapaccnoaa
open Go Go.AM
set_option maxRecDepth 100000
def zY:AC:=
 (.seq (.region [rq 0 2 (.box true (.tm 0)),
 rq 1 3 (.box true (.tm 1)),
 rq 2 4 (.move (.kv (.bool false)))] 3 [2,3])
 (.seq (.region [RF 0 5 0 2,
 RF 1 6 0 5,
 RL 2 7 6,
 RF 3 8 0 3,
 RF 4 9 0 8,
 RL 5 10 9,
 rq 6 11 (.call jM [(.tm 7),(.tm 10)]),
 RM 7 12 11,
 GQ 8 13 (.fld 1 (.tm 2)) 12 true,
 GQ 9 14 (.load 1 false (.tm 13)) 12 true,
 GQ 10 15 (.fld 1 (.tm 3)) 12 true,
 GQ 11 16 (.load 1 false (.tm 15)) 12 true,
 GQ 12 17 (.call jM [(.tm 14),(.tm 16)]) 12 true,
 rq 13 18 (.pick (.tm 12) (.tm 17) (.kv (.bool false))),
 RM 14 4 18] 15 [4])
 .ret))
def UG:List Cert:=[⟨[],[2,3]⟩,⟨[],[4]⟩]
def I2:List aW:=[.tm 4]
theorem UP:aO Try.prog Try.f15 UG=some (zY,I2):=by kernel_rfl
theorem UZ:aN Try.prog wK Try.f15 zY I2:=
 aN.mk Try.func15 (by kernel_rfl) UP
end Go.Proofs.Ytmccpdapaccnoaa
end
