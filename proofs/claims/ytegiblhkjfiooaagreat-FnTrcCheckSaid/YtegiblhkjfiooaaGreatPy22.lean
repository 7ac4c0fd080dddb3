/- Texts laid together by a program: rules, contracts and the walk that leads to the law. -/
import Derived.Test.YtegiblhkjfiooaaGreatPy21
import Derived.Test.YtegiblhkjfiooaaGreatPy19
import Derived.Test.YtegiblhkjfiooaaGreatPy12
import Derived.Test.YtegiblhkjfiooaaGreatPy3
import Derived.Test.YtegiblhkjfiooaaGreatPy13
import Derived.Test.YtegiblhkjfiooaaGreatPy20
import Derived.Test.YtegiblhkjfiooaaGreatPy8
import Derived.OpenShut
import Derived.Below
set_option linter.unusedVariables false
set_option linter.unusedSimpArgs false
set_option linter.unusedSectionVars false
section
namespace Go.Proofs.YtegiblhkjfiooaaGreat
open Go Go.AM
set_option maxRecDepth 100000
set_option maxHeartbeats 8000000
noncomputable def aTD (c:Cfg) (s:TSt) (e:Ev):Int:=if tlB c s=true then X6 c s e else 1
theorem aT5 {c:Cfg} {s:TSt} {e:Ev} (hb:aQ c) (hs:BA c s):aTD c s e=X6 c s e:=by unfold aTD;rw[aTX hb hs];rfl
section
variable {H : aA} {nx : Nat} {K : D → aA → Nat → Prop}
theorem aSN (c:Cfg) (e:Ev) (hb:aQ c):aB Tryz.prog aNF [dA (cU c),dA (eEv e)] .nil 0 fun rr _ _=>rr.plain=true∧rr=dB (decide (oA c e.who e.n∧1≤e.kind∧e.kind≤3)):=by
 refine aRD rfl fun Q hQ=> ?_
 unfold aNP
 obtain⟨hp3,hp12⟩:=hC hb
 have hw12:=hp12 e.who.toNat
 repeat' (first| (with_reducible first| (refine hK _ _ _ ?_;clear hK K)|refine Z1 ?_)| (first| (with_reducible first|refine Y2 fun K hK=> ?_|refine Y6 (fun h=> ?_) fun h=> ?_)| (with_reducible refine aBC ?_))<;>(simp only[go_sem,hp3];try simp (disch:=omega) only[Iw])| ((with_reducible refine Y8 ?_);try simp only[AQ.then,AQ.blk,reduceIte,Nat.reduceEqDiff])|refine⟨by omega,?_⟩|fail)
 all_goals first|exact aZ hQ _ rfl rfl (q9 (by unfold oA;omega))|exact aZ hQ _ rfl rfl (j7 (by unfold oA;omega))|exact aZ hQ _ rfl rfl (pD (by unfold oA;omega))
theorem aO8 {c:Cfg} {e:Ev} (hb:aQ c) (h:K (dB (decide (oA c e.who e.n∧1≤e.kind∧e.kind≤3))) H nx):aB Tryz.prog aNF [dA (cU c),dA (eEv e)] H nx K:=
 (aSN c e hb).pure rfl (aI ⟨aE rfl,aE rfl,trivial⟩) (fun r hr=>hr▸h)
theorem aR2 (c:Cfg) (s:TSt) (e:Ev) (hcf:jO c) (hf:aTQ s):aB Tryz.prog aND [dA (cU c),dA (eSt s),dA (eEv e)] .nil 0 fun rr _ _=>rr.plain=true∧rr=dI (aTD c s e):=by
 refine aRQ rfl fun Q hQ=> ?_
 unfold aNT
 by_cases htl:aQ c∧BA c s
 case neg=>
  have e1:=aOH htl
  repeat' (first| (with_reducible first| (refine hK _ _ _ ?_;clear hK K)| (refine hA ?_;clear hA hB A B)|refine Z1 ?_)| (first| (with_reducible first|refine Y2 fun K hK=> ?_|refine Y3 fun A B hA hB=> ?_)| (with_reducible refine aMQ hcf hf ?_))<;>(simp only[go_sem,e1])| ((with_reducible refine Y8 ?_);try simp only[AQ.then,AQ.blk,reduceIte,Nat.reduceEqDiff])|fail)
  all_goals exact aZ hQ _ rfl rfl (qA (by unfold aTD;rw[e1];rfl))
 obtain⟨hb,hs⟩:=htl
 have e1:=aTX hb hs
 have hwt:aTD c s e=X6 c s e:=by unfold aTD;rw[e1];rfl
 have hsf:=hs.fit hb
 obtain⟨hp3,hp12⟩:=hC hb
 have ha:=hs.JI
 have hwl:=hsf.qU
 have hdl:=hsf.uQ
 by_cases hok:oA c e.who e.n
 ·have hb1:=hok.1
  repeat' (first| (with_reducible first| (refine hK _ _ _ ?_;clear hK K)| (refine hA ?_;clear hA hB A B)| (refine hB ?_;clear hA hB A B)|refine Z1 ?_|refine Z2 ?_|refine Z3 fun KB hKB=> ?_|refine Z6 (fun h=> ?_) fun h=> ?_)| (first| (with_reducible first|refine Y2 fun K hK=> ?_|refine Y3 fun A B hA hB=> ?_|refine Y6 (fun h=> ?_) fun h=> ?_)| (with_reducible refine aMQ hcf hf ?_)| (with_reducible refine aO8 hb ?_)| (with_reducible refine aKK (show s.wait.length<2^40 by omega) ?_)| (with_reducible refine aKK (show s.done.length<2^40 by omega) ?_)| (with_reducible refine ap1 (l:=s.wait) (e:=e) (by omega) hp3 hok (fun j hj _ _=>hsf.wait j hj) ?_)| (with_reducible refine ap1 (l:=s.done) (e:=e) (by omega) hp3 hok (fun j hj _ _=>hsf.done j hj) ?_))<;>(simp only[go_sem,e1,ha])| ((with_reducible refine Y8 ?_);try simp only[AQ.then,AQ.blk,reduceIte,Nat.reduceEqDiff])| ((with_reducible refine Y0 ?_);simp only[AQ.then,AQ.blk])|refine⟨by omega,?_⟩| (with_reducible refine hKB _ _ _ ?_)|fail)
  all_goals
   refine aZ hQ _ rfl rfl (qA ?_)
   rw[hwt]
   unfold X6
   grind
 ·have e2:(oA c e.who e.n∧1≤e.kind∧e.kind≤3)=False:=eq_false fun h=>hok h.1
  repeat' (first| (with_reducible first| (refine hK _ _ _ ?_;clear hK K)| (refine hA ?_;clear hA hB A B)|refine Z1 ?_)| (first| (with_reducible first|refine Y2 fun K hK=> ?_|refine Y3 fun A B hA hB=> ?_)| (with_reducible refine aMQ hcf hf ?_)| (with_reducible refine aO8 hb ?_))<;>(simp only[go_sem,e1,e2])| ((with_reducible refine Y8 ?_);try simp only[AQ.then,AQ.blk,reduceIte,Nat.reduceEqDiff])|fail)
  all_goals
   refine aZ hQ _ rfl rfl (qA ?_)
   rw[hwt]
   unfold X6
   grind
theorem aO1 {c:Cfg} {s:TSt} {e:Ev} (hcf:jO c) (hf:aTQ s) {d1:D} (hd1:CvD H (fun _=>True) id 0 (dA (eSt s)) d1) (h:K (dI (aTD c s e)) H nx):aB Tryz.prog aND [dA (cU c),d1,dA (eEv e)] H nx K:=
 (aR2 c s e hcf hf).pure rfl (aI ⟨aE rfl,hd1,aE rfl,trivial⟩) (fun r hr=>hr▸h)
end
end Go.Proofs.YtegiblhkjfiooaaGreat
end
section
namespace Go.Proofs.YtegiblhkjfiooaaGreat
open Go Go.AM
set_option maxRecDepth 100000
set_option maxHeartbeats 8000000
section
variable {H : aA} {nx : Nat} {K : D → aA → Nat → Prop}
theorem aP0 (c:Cfg) (es:List Ev) (hcf:jO c) (hl:es.length<2^40) (hno: ¬(aQ c∧es.length≤200)):
 aB Tryz.prog c6 [dA (cU c),dS (es.map eEv)] .nil 0 fun r _ _=>r.plain=true∧r= .tup [.c (cI 0),.c (cI 1)]:=by
 refine aN9 rfl fun Q hQ=> ?_
 unfold f0
 by_cases hb:aQ c
 ·have h2: ¬es.length≤200:=fun h=>hno ⟨hb,h⟩
  repeat' (first| (with_reducible first| (refine hK _ _ _ ?_;clear hK K)| (refine hA ?_;clear hA hB A B)|refine Z1 ?_|refine Z4 (by omega) ?_)| (first| (with_reducible first|refine Y2 fun K hK=> ?_|refine Y3 fun A B hA hB=> ?_)| (refine aKG hcf ?_))<;>(simp only[go_sem,eq_true hb])| ((with_reducible refine Y8 ?_);try simp only[AQ.then,AQ.blk,reduceIte,Nat.reduceEqDiff])|fail)
  all_goals first| (exfalso;omega)|exact aZ hQ (.tup [.c (cI 0),.c (cI 1)]) rfl rfl rfl
 ·repeat' (first| (with_reducible first| (refine hK _ _ _ ?_;clear hK K)| (refine hA ?_;clear hA hB A B)|refine Z1 ?_)| (first| (with_reducible first|refine Y2 fun K hK=> ?_|refine Y3 fun A B hA hB=> ?_)| (refine aKG hcf ?_))<;>(simp only[go_sem,eq_false hb])| ((with_reducible refine Y8 ?_);try simp only[AQ.then,AQ.blk,reduceIte,Nat.reduceEqDiff])|fail)
  all_goals exact aZ hQ (.tup [.c (cI 0),.c (cI 1)]) rfl rfl rfl
theorem aPR {c:Cfg} {es:List Ev} (hcf:jO c) (hl:es.length<2^40) (hno: ¬(aQ c∧es.length≤200)) (h:K (.tup [.c (cI 0),.c (cI 1)]) H nx):aB Tryz.prog c6 [dA (cU c),dS (es.map eEv)] H nx K:=
 (aP0 c es hcf hl hno).pure rfl (aI ⟨aE rfl,aE rfl,trivial⟩) fun r hr=>hr▸h
theorem aP6 (c:Cfg) (es:List Ev) (hb:aQ c) (hcf:jO c) (hlen:es.length≤200):
 aB Tryz.prog c6 [dA (cU c),dS (es.map eEv)] .nil 0 fun r _ _=>r.plain=true∧r= .tup [.c (cI (aP8 c es).1),.c (cI (aP8 c es).2)]:=by
 have htn: ∀{H:aA} {nx:Nat} {K:D→aA→Nat→Prop},(∀hc,6≤hc→K (dA (oSt nx (nx+1) (nx+2) (nx+3) 64 hc 3 0 (runM c st0 (es.take 0)))) ((((H.set nx ⟨1,64,(runM c st0 (es.take 0)).words.map aJ⟩).set (nx+1) ⟨1,hc,(runM c st0 (es.take 0)).holds.map aJ⟩).set (nx+2) ⟨1,3,(runM c st0 (es.take 0)).asked.map aJ⟩).set (nx+3) ⟨5,0,(runM c st0 (es.take 0)).told.map aS⟩) (nx+4))→aB Tryz.prog c7 [] H nx K:=fun h=>aO9 h
 have hz5:(runM c st0 (es.take 0)).told=[]:=rfl
 unfold aP8
 have hSok:=fun k (hk:k≤b9 c st0 es)=>aPL hb (arF c) hk
 have hSw:=fun k (hk:k<b9 c st0 es)=>aS0 hk
 have hSb:=aN8 (c:=c) (s:=st0) (l:=es)
 have hle:=aNZ (c:=c) (s:=st0) (l:=es)
 generalize b9 c st0 es=n at*
 have hSt:=fun k (hk:k<es.length)=>av6 (c:=c) (s:=st0) hk
 obtain⟨S,hS⟩: ∃S:Nat→TSt,S=fun k=>runM c st0 (es.take k):=⟨_,rfl⟩
 have hSe: ∀k,runM c st0 (es.take k)=S k:=fun k=>by rw[hS]
 simp only[hSe] at*
 clear hS hSe
 obtain⟨hp3,hp12⟩:=hC hb
 refine aN9 rfl fun Q hQ=> ?_
 unfold f0
 repeat' (first| (with_reducible first| (refine hK _ _ _ ?_;clear hK K)| (refine hB ?_;clear hA hB A B)|refine Z1 ?_|refine Z2 ?_|refine Z3 fun KB hKB=> ?_|refine Z5 (by omega) ?_)| (first| (with_reducible first|refine Y2 fun K hK=> ?_|refine Y3 fun A B hA hB=> ?_)| (refine aKG hcf ?_)| (refine htn fun hc hhc=> ?_))<;>(simp only[go_sem,eq_true hb])|fail)
 (have hKX:=hKB;clear hKB)
 have w0:(S 0).told.length=0:=by rw[hz5];rfl
 refine aM.gP (β:=Nat×Nat×Nat×Nat) (fun u=>en [(7,dI u.1),(6,.one (.c (.ptr 6 12 0 0))),(2,.one (.c (.ptr 3 0 0 0))),(1,dS (es.map eEv))])
  (fun u H1 n1=>u.1≤n∧H1 0=some ⟨3,1,[cU c]⟩∧H1 12=some ⟨6,1,[oSt 14 15 16 u.2.1 64 hc 3 u.2.2.1 (S u.1)]⟩∧H1 14=some ⟨1,64,(S u.1).words.map aJ⟩∧H1 15=some ⟨1,hc,(S u.1).holds.map aJ⟩∧H1 16=some ⟨1,3,(S u.1).asked.map aJ⟩∧H1 u.2.1=some ⟨5,u.2.2.2,(S u.1).told.map aS⟩∧(S u.1).told.length≤u.2.2.1∧u.2.2.1≤u.2.2.2∧17≤u.2.1∧u.2.1<n1) (fun u=>es.length-u.1) (0,17,0,0)
  ⟨noF,_,by repeat' (first| (with_reducible first|exact C1|refine C2 ?_ ?_)| ((with_reducible refine C0 ?_);exact CE (by omega) rfl)| ((with_reducible refine D0 ?_);first|exact CA rfl|refine CJ ?_)|fail),aK,by dsimp only;omega,rfl,rfl,rfl,rfl,rfl,rfl,by dsimp only;omega,by dsimp only;omega,by dsimp only;omega,by dsimp only;omega⟩ ?_
 rintro⟨k,b,tc,tm⟩ H1 nx1 hnx1 ⟨hk,g0,g12,g14,g15,g16,gb,f4,f5,f6,f7⟩ KL hKL
 dsimp only at hk g12 g14 g15 g16 gb f4 f5 f6 f7
 have hs:=hSok k hk
 have hstep:=hSt k
 have hw0:=hSw k
 generalize hSk:S k=s at*
 have hA:bQ nx1 [0,12,14,15,16,b]:=AM.apart (by simp;omega) (by simp;omega)
 simp only[bQ,eZ] at hA
 have hlens:=hs.lens hb
 have hwl:=hs.atm.wl
 have hhl:=hs.atm.hl
 have hal:=hs.JI
 have hcst:CvD H1 (fun _=>True) id 0 (dA (eSt s)) (dA (oSt 14 15 16 b 64 hc 3 tc s)):=lY (aH (bW bF g14 (by omega) (by omega) trivial) (aH (bW bF g15 (by omega) (by omega) trivial) (aH (bW bF g16 (by omega) (by omega) trivial) (aH (bB rfl) (aH (bB rfl) (aH (bW dZ gb (by omega) (by omega) trivial) eP))))))
 by_cases hkl:k<es.length
 ·obtain⟨e,he⟩: ∃e,e=es.getD k default:=⟨_,rfl⟩
  have he':=he.symm
  have hwt:=aT5 (e:=e) hb hs
  have hstep':=hstep hkl
  by_cases hlt:k<n
  ·have hw1:=hw0 hlt
   rw[he'] at hw1 hstep'
   rw[hw1] at hwt
   repeat' (first| (with_reducible first| (refine hK _ _ _ ?_;clear hK K)| (refine hA ?_;clear hA hB A B)| (refine hB ?_;clear hA hB A B)|refine Z1 ?_|refine Z2 ?_|refine Z3 fun KB hKB=> ?_|refine Z4 (by omega) ?_)| (first| (with_reducible first|refine Y2 fun K hK=> ?_|refine Y3 fun A B hA hB=> ?_)| (refine aO1 hcf (hs.aUG hb) hcst ?_)| (refine aO4 hb hs (by omega) (by omega) (by omega) f4 f5 (by omega) (by omega) (by omega) (by omega) (by simp;omega) g14 g15 g16 gb (fun hw tc' tm' ht1 ht2=> ?_) (fun hw=>absurd hw1 hw)))<;>(simp only[go_sem,g0,g12,he',hwt,hA,akB];try simp (disch:=omega) only[Iw])| ((with_reducible refine Y0 ?_);simp only[AQ.then,AQ.blk])|refine⟨by omega,?_⟩| (with_reducible refine hKB _ _ _ ?_)|fail)
   refine hKL _ _ _ (k+1,nx1+4+8+2+11,tc',tm') noF _ (by omega) (by dsimp only;omega) (by repeat' (first| (with_reducible first|exact C1|refine C2 ?_ ?_)| ((with_reducible refine C0 ?_);exact CE (by omega) rfl)| ((with_reducible refine D0 ?_);first|exact CA rfl|refine CJ ?_)|fail)) aK ⟨by dsimp only;omega,?_,?_,?_,?_,?_,?_,by dsimp only;rw[hstep'];exact ht1,ht2,by dsimp only;omega,by dsimp only;omega⟩
   all_goals first
    | (try simp only[hstep']);(simp[aA.set,aA.del,hA,g0,Nat.add_assoc];done)
  ·have hbad:=hSb (by omega)
   have hkn:k=n:=by omega
   subst hkn
   rw[hSk,he'] at hbad
   repeat' (first| (with_reducible first| (refine hK _ _ _ ?_;clear hK K)| (refine hA ?_;clear hA hB A B)|refine Z1 ?_|refine Z2 ?_|refine Z3 fun KB hKB=> ?_|refine Z4 (by omega) ?_)| (first| (with_reducible first|refine Y2 fun K hK=> ?_|refine Y3 fun A B hA hB=> ?_)| (refine aO1 hcf (hs.aUG hb) hcst ?_))<;>(simp only[go_sem,g0,g12,he',hwt,hA,akB])| ((with_reducible refine Y8 ?_);try simp only[AQ.then,AQ.blk,reduceIte,Nat.reduceEqDiff])|refine⟨by omega,?_⟩|fail)
   all_goals first| (exfalso;omega)|exact aZ hQ (.tup [.c (cI k),.c (cI (X6 c s e))]) rfl rfl (by(try rw[if_neg (show ¬k=es.length by omega)]);(try dsimp only);rw[hSk,he'])
 ·have hkn:n=es.length:=by omega
  subst hkn
  repeat' (first| (with_reducible first| (refine hK _ _ _ ?_;clear hK K)| (refine hB ?_;clear hA hB A B)|refine Z1 ?_|refine Z5 (by omega) ?_|refine hKX _ _ _ ?_)| (with_reducible first|refine Y2 fun K hK=> ?_|refine Y3 fun A B hA hB=> ?_)<;>(simp only[go_sem])| ((with_reducible first|refine Y8 ?_|refine Y9 ?_);try simp only[AQ.then,AQ.blk,reduceIte,Nat.reduceEqDiff])|fail)
  exact aZ hQ (.tup [.c (cI (-1)),.c (cI 0)]) rfl rfl (by simp)
theorem aPV {c:Cfg} {es:List Ev} (hb:aQ c) (hcf:jO c) (hlen:es.length≤200) (h:K (.tup [.c (cI (aP8 c es).1),.c (cI (aP8 c es).2)]) H nx):aB Tryz.prog c6 [dA (cU c),dS (es.map eEv)] H nx K:=
 (aP6 c es hb hcf hlen).pure rfl (aI ⟨aE rfl,aE rfl,trivial⟩) fun r hr=>hr▸h
end
end Go.Proofs.YtegiblhkjfiooaaGreat
end
section
namespace Go.Proofs.YtegiblhkjfiooaaGreat
open Go Go.AM
set_option maxRecDepth 100000
set_option maxHeartbeats 8000000
section
variable {H : aA} {nx : Nat} {K : D → aA → Nat → Prop}
theorem aa9:aB Tryz.prog E2 [] .nil 0 fun rr _ _=>rr.plain=true∧rr=dB true:=by
 refine XX rfl fun Q hQ=> ?_
 unfold CP
 repeat' (first| (with_reducible first| (refine hK _ _ _ ?_;clear hK K)|refine Z1 ?_)| (first| (with_reducible refine Y2 fun K hK=> ?_)| (with_reducible refine wS ?_))<;>(simp only[go_sem])| ((with_reducible refine Y8 ?_);try simp only[AQ.then,AQ.blk,reduceIte,Nat.reduceEqDiff])|fail)
 all_goals first|with_reducible refine aZ hQ _ rfl rfl ?_|skip
 all_goals exact(q9 (by decide)).symm
theorem apY (h:K (dB true) H nx):aB Tryz.prog E2 [] H nx K:=
 (aa9).pure rfl (aI trivial) (fun r hr=>hr▸h)
end
theorem aPF:cJ Tryz.prog aN0 Tryz.f12 x3 aNW:=cJ.mk Tryz.func12 (by kernel_rfl) aPA
theorem aTI (l:List Int) (hby: ∀x∈l,0≤x∧x<256):aB Tryz.prog aN0 [dS (l.map eU8)] .nil 0 fun rr _ _=>rr.plain=true∧rr=dB true:=by
 refine aPF rfl fun Q hQ=> ?_
 unfold x3
 by_cases hbig:l.length≤1048576
 case neg=>
  repeat' (first| (with_reducible first| (refine hK _ _ _ ?_;clear hK K)| (refine hA ?_;clear hA hB A B)|refine Z1 ?_|refine Z4 (by omega) ?_)| (with_reducible first|refine Y2 fun K hK=> ?_|refine Y3 fun A B hA hB=> ?_)<;>(simp only[go_sem])| ((with_reducible refine Y8 ?_);try simp only[AQ.then,AQ.blk,reduceIte,Nat.reduceEqDiff])|fail)
  exact hQ _ _ _ _ _ (.inr rfl) rfl ⟨rfl,rfl⟩
 have hl:kZ l:=⟨by omega,hby⟩
 repeat' (first| (with_reducible first| (refine hK _ _ _ ?_;clear hK K)| (refine hB ?_;clear hA hB A B)|refine Z1 ?_|refine Z2 ?_|refine Z5 (by omega) ?_)| (first| (with_reducible first|refine Y2 fun K hK=> ?_|refine Y3 fun A B hA hB=> ?_)| (refine aO0 hl (fun H1 nx1 c es hx1 hcf hel _=> ?_)))<;>(simp only[go_sem])|fail)
 generalize hG:aA.set H1 9 _=G
 have g9:G 9=some ⟨3,1,[cU c]⟩:=by rw[←hG];exact aA.bH
 have hA1:bQ nx1 [9]:=AM.apart (by simp) (by simp;omega)
 simp only[bQ,eZ] at hA1
 have hM: ∀(d k:Nat) (G:aA),msk (nx1+d) [k] G 9=G 9:=fun d k G=>mk1 (by omega)
 by_cases hb:aQ c
 ·have hlen:es.length≤200:=by omega
  have hple:=aNZ (c:=c) (s:=st0) (l:=es)
  have hend:=aPL (c:=c) (es:=es) hb (arF c) (Nat.le_refl (b9 c st0 es))
  (try simp only[go_sem,Nat.add_assoc,Nat.left_eq_add,Nat.add_eq_left,g9,hA1,hM]);repeat' (first| (with_reducible first| (refine hK _ _ _ ?_;clear hK K)| (refine hB ?_;clear hA hB A B)|refine Z1 ?_|refine Z2 ?_)| (first| (with_reducible first|refine Y2 fun K hK=> ?_|refine Y3 fun A B hA hB=> ?_)| (refine aPY hb hcf hlen ?_)| (refine aPV hb hcf hlen ?_)| (refine ayO ?_))<;>(simp only[go_sem,Nat.add_assoc,Nat.left_eq_add,Nat.add_eq_left,g9,hA1,hM])|fail)
  generalize aU3:dT (nx1+24) [7] _ (msk (nx1+24) [7] G)=U
  have k9:U 9=some ⟨3,1,[cU c]⟩:=by rw[←aU3,um1 (by omega),mk1 (by omega)];exact g9
  have k31:U (nx1+31)=some ⟨6,1,[[.osl 0 0 0 0 0,.osl 0 0 0 0 0,.osl 0 0 0 0 0,.osl 0 0 0 0 0,.osl 0 0 0 0 0,.osl 0 0 0 0 0]]⟩:=by
   rw[show nx1+31=nx1+24+7 from rfl,←aU3,aH6];exact aA.bH
  refine⟨fun _=>by rw[k9];rfl,?_⟩
  refine aQT hb hcf (arF c) hlen ?_
  by_cases hall:b9 c st0 es=es.length
  ·have hck:aP8 c es=(-1,0):=if_pos hall
   rw[hck]
   (try simp only[go_sem,Nat.add_assoc,Nat.left_eq_add,Nat.add_eq_left,k9,k31,hA1,hM,aSP,hall]);repeat' (first| (with_reducible first| (refine hK _ _ _ ?_;clear hK K)| (refine hA ?_;clear hA hB A B)| (refine hB ?_;clear hA hB A B)|refine Z1 ?_|refine Z2 ?_|refine Z5 (by omega) ?_)| (with_reducible first|refine Y2 fun K hK=> ?_|refine Y3 fun A B hA hB=> ?_)<;>(simp only[go_sem,Nat.add_assoc,Nat.left_eq_add,Nat.add_eq_left,k9,k31,hA1,hM,aSP,hall])| ((with_reducible refine Y8 ?_);try simp only[AQ.then,AQ.blk,reduceIte,Nat.reduceEqDiff])|fail)
   exact hQ _ _ _ _ _ (.inr rfl) rfl ⟨rfl,rfl⟩
  ·have hck:aP8 c es=((b9 c st0 es:Int),X6 c (runM c st0 (es.take (b9 c st0 es))) (es.getD (b9 c st0 es) default)):=if_neg hall
   have hpb:=aN8 (c:=c) (s:=st0) (l:=es) (by omega)
   have hwi:=aUD (c:=c) (s:=runM c st0 (es.take (b9 c st0 es))) (e:=es.getD (b9 c st0 es) default)
   rw[hck]
   dsimp only
   generalize b9 c st0 es=n at*
   generalize runM c st0 (es.take n)=s at*
   (try simp only[go_sem,Nat.add_assoc,Nat.left_eq_add,Nat.add_eq_left,k9,k31,hA1,hM,aSP]);repeat' (first| (with_reducible first| (refine hK _ _ _ ?_;clear hK K)| (refine hB ?_;clear hA hB A B)|refine Z1 ?_|refine Z2 ?_|refine Z5 (by omega) ?_)| (first| (with_reducible first|refine Y2 fun K hK=> ?_|refine Y3 fun A B hA hB=> ?_)| (refine aSL hb hcf hend ?_))<;>(simp only[go_sem,Nat.add_assoc,Nat.left_eq_add,Nat.add_eq_left,k9,k31,hA1,hM,aSP])| ((with_reducible refine Y8 ?_);try simp only[AQ.then,AQ.blk,reduceIte,Nat.reduceEqDiff])|refine⟨by omega,?_⟩|fail)
   exact hQ _ _ _ _ _ (.inr rfl) rfl ⟨rfl,congrArg dB (decide_eq_true (by omega))⟩
 ·have hno: ¬(aQ c∧es.length≤200):=fun h=>hb h.1
  (try simp only[go_sem,Nat.add_assoc,Nat.left_eq_add,Nat.add_eq_left,g9,hA1,hM]);repeat' (first| (with_reducible first| (refine hK _ _ _ ?_;clear hK K)| (refine hB ?_;clear hA hB A B)|refine Z1 ?_|refine Z2 ?_)| (first| (with_reducible first|refine Y2 fun K hK=> ?_|refine Y3 fun A B hA hB=> ?_)| (refine aP1 hcf (by omega) hno ?_)| (refine aPR hcf (by omega) hno ?_)| (refine ayO ?_))<;>(simp only[go_sem,Nat.add_assoc,Nat.left_eq_add,Nat.add_eq_left,g9,hA1,hM])|fail)
  generalize aU3:dT (nx1+24) [7] _ (msk (nx1+24) [7] G)=U
  have k9:U 9=some ⟨3,1,[cU c]⟩:=by rw[←aU3,um1 (by omega),mk1 (by omega)];exact g9
  have k31:U (nx1+31)=some ⟨6,1,[[.osl 0 0 0 0 0,.osl 0 0 0 0 0,.osl 0 0 0 0 0,.osl 0 0 0 0 0,.osl 0 0 0 0 0,.osl 0 0 0 0 0]]⟩:=by
   rw[show nx1+31=nx1+24+7 from rfl,←aU3,aH6];exact aA.bH
  refine⟨fun _=>by rw[k9];rfl,?_⟩
  refine aRN hb hcf ?_
  (try simp only[go_sem,Nat.add_assoc,Nat.left_eq_add,Nat.add_eq_left,k9,k31,hA1,hM,aSP]);repeat' (first| (with_reducible first| (refine hK _ _ _ ?_;clear hK K)| (refine hA ?_;clear hA hB A B)|refine Z1 ?_)| (first| (with_reducible first|refine Y2 fun K hK=> ?_|refine Y3 fun A B hA hB=> ?_)| (refine apY ?_))<;>(simp only[go_sem,Nat.add_assoc,Nat.left_eq_add,Nat.add_eq_left,k9,k31,hA1,hM,aSP])| ((with_reducible refine Y8 ?_);try simp only[AQ.then,AQ.blk,reduceIte,Nat.reduceEqDiff])|fail)
  exact hQ _ _ _ _ _ (.inr rfl) rfl ⟨rfl,rfl⟩
end Go.Proofs.YtegiblhkjfiooaaGreat
end
section
namespace Go.AM
open Go.RowKit
def asV (k:IntKind) (w:World) (a:Option Addr) (len cap:Nat) (zs:List Int):Prop:=
 (a=none∧len=0∧cap=0∧zs=[])∨
 ∃x,a=some x∧len≤cap∧cap≤maxLen∧zs.length=cap∧(∀i,i<zs.length→w.cell? (x.add i)=some (.int k (zs.getD i 0)))∧ ∀n∈zs,(Lit.int k n).wf=true
theorem abA {P:Program} {f:FuncId} {l:List Int} {w:World} {v:Value} {I:Nat→Prop} (h:aB P f [dS (l.map eU8)] .nil 0 fun rr _ _=>rr.plain=true∧rr=dB true) (hI: ∀b,I b→b<w.heap.size) (hv:Imm I w (.isl (l.map eU8)) v):
 Calls P f #[v] w fun e w'=>e= .returned (.bool true)∧Below w.heap.size w w':=by
 have hno: ∀b,¬uG ⟨fun _=>(0,0),fun _=>False,I,w⟩ .nil b:=by rintro b ⟨id,o,h,_⟩;cases h
 have hst:St ⟨fun _=>(0,0),fun _=>False,I,w⟩ .nil:=⟨fun id o h=>(by cases h),fun id o h=>(by cases h),fun id o h=>(by cases h),fun id o i j r d h=>(by cases h),fun id id' o o' h=>(by cases h),fun id o h=>(by cases h),hI⟩
 refine(h.2 ⟨fun _=>(0,0),fun _=>False,I,w⟩ [v] hst (fun i hi=>hi.elim) rfl (fun i d u h1 h2=> ?_)).mono ?_
 ·match i with
  |0=>simp at h1 h2;subst h1;subst h2;exact hv
  |i+1=>simp at h1
 ·rintro x w' ⟨u,c',r,H',nx',rfl,rfl,p1,p2,p3,p4,p5,p6,rfl⟩
  have hu:u= .bool true:=by
   simp only[fD,jZ,Rel,bY] at p5
   cases p5;rfl
  subst hu
  exact⟨rfl,p2.os,p2.tape,p2.output,p2.size,fun k hk=>p2.frame k hk (hno k)⟩
theorem atQ {P:Program} {f:FuncId} (h: ∀l:List Int,(∀x∈l,0≤x∧x<256)→aB P f [dS (l.map eU8)] .nil 0 fun rr _ _=>rr.plain=true∧rr=dB true) (az5:Option Addr) (len0 cap0:Nat) (z0:List Int) (w:World) (w0:asV .u8 w az5 len0 cap0 z0):
 Calls P f #[.slice az5 len0 cap0] w fun e w'=>e= .returned (.bool true)∧Below w.heap.size w w':=by
 rcases w0 with⟨rfl,rfl,rfl,rfl⟩|⟨x,rfl,hl,hm,hz,hc,hw⟩
 ·refine abA (I:=fun _=>False) (h [] (fun x hx=>by cases hx)) (fun b hb=>hb.elim) ?_
  exact .isl [] none 0 1 0 0 (fun _ _=>.int .u8 0) (fun h=>absurd rfl h) (Nat.le_refl _) (fun i r h=>by simp at h) (fun i j r d h=>by simp at h) (fun i j r d h=>by simp at h)
 ·have hlt:(z0.take len0).length=len0:=by simp;omega
  have hby: ∀y∈z0.take len0,0≤y∧y<256:=fun y hy=>by
   have:=bounds_u8 (hw y (List.take_subset _ _ hy));omega
  refine abA (I:=fun b=>b=x.block∧0<len0) (h (z0.take len0) hby) (fun b hb=> ?_) ?_
  ·obtain⟨rfl,h0⟩:=hb
   have:=World.block_lt_of_cell? w _ (hc 0 (by omega))
   simpa [Addr.add] using this
  ·have key:=Imm.isl (I:=fun b=>b=x.block∧0<len0) (w:=w) ((z0.take len0).map eU8) (some x) cap0 1 x.block x.off (fun i _=>.int .u8 (z0.getD i 0)) (fun hne=> ?_) (by simp;omega) (fun i r hr=> ?_) (fun i j r d hr hd=> ?_) (fun i j r d hr hd=> ?_)
   ·rw[List.length_map,hlt] at key;exact key
   ·have h0:0<len0:=by
     rcases Nat.eq_zero_or_pos len0 with h0|h0
     ·subst h0;exact absurd (by simp) hne
     ·exact h0
    have hsp:=World.cell?_spot (hc 0 (by omega))
    refine⟨?_,rfl,h0⟩
    obtain⟨b,o,s⟩:=x
    simp only[Addr.add,if_true] at hsp
    subst hsp
    rfl
   ·obtain⟨y,_,rfl⟩:=List.mem_map.1 (List.mem_of_getElem? hr)
    rfl
   ·rw[List.getElem?_map] at hr
    obtain⟨y,hy,rfl⟩:=Option.map_eq_some_iff.1 hr
    match j with
    |0=>
     have hi:i<len0:=by have:=(List.getElem?_eq_some_iff.1 hy).1;omega
     have h1:=hc i (by omega)
     have hsp:=World.cell?_spot (hc 0 (by omega))
     obtain⟨b,o,s⟩:=x
     simp only[Addr.add,if_true] at hsp
     subst hsp
     have e:(Addr.mk b o none).add i=⟨b,o+(i*1+0),none⟩:=by
      unfold Addr.add
      split
      ·rename_i h;subst h;simp
      ·simp
     rw[e] at h1
     exact h1
    |j+1=>simp[eU8] at hd
   ·rw[List.getElem?_map] at hr
    obtain⟨y,hy,rfl⟩:=Option.map_eq_some_iff.1 hr
    match j with
    |0=>
     simp only[eU8,List.getElem?_cons_zero,Option.some.injEq] at hd
     subst hd
     have hyz:y=z0.getD i 0:=by
      rw[List.getElem?_take] at hy
      split at hy
      ·simp[List.getD,hy]
      ·cases hy
     subst hyz
     exact .v _ rfl
    |j+1=>simp[eU8] at hd
end Go.AM
end
