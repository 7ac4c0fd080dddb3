/- Texts laid together by a program: rules, contracts and the walk that leads to the law. -/
import Derived.Test.YtegiblhkjfiooaaGreatPy12
import Derived.Test.YtegiblhkjfiooaaGreatPy3
import Derived.Test.YtegiblhkjfiooaaGreatPy10
set_option linter.unusedVariables false
set_option linter.unusedSimpArgs false
set_option linter.unusedSectionVars false
section
namespace Go.Proofs.YtegiblhkjfiooaaGreat
open Go Go.AM
set_option maxRecDepth 100000
set_option maxHeartbeats 8000000
section
variable {H : aA} {nx : Nat} {K : D → aA → Nat → Prop}
theorem aP5 (c:Cfg) (es:List Ev) (hb:aQ c) (hcf:jO c) (hlen:es.length≤200):
 aB Tryz.prog cA [dA (cU c),dS (es.map eEv)] .nil 0 fun r _ _=>r.plain=true∧r= .tup [.c (cI (aP8 c es).1),.c (cI (aP8 c es).2)]:=by
 have hS0: ∀{H:aA} {nx:Nat} {K:D→aA→Nat→Prop},K (dA [.osl 1 nx 0 64 64,.osl 1 (nx+1) 0 6 6,.osl 1 (nx+2) 0 3 3,.osl 5 (nx+3) 0 0 0,.osl 5 (nx+4) 0 0 0,.osl 5 (nx+5) 0 0 0]) ((((((H.set nx ⟨1,64,(runM c st0 (es.take 0)).words.map aJ⟩).set (nx+1) ⟨1,6,(runM c st0 (es.take 0)).holds.map aJ⟩).set (nx+2) ⟨1,3,(runM c st0 (es.take 0)).asked.map aJ⟩).set (nx+3) ⟨5,0,[]⟩).set (nx+4) ⟨5,0,[]⟩).set (nx+5) ⟨5,0,[]⟩) (nx+6)→aB Tryz.prog auX [] H nx K:=fun h=>aQV h
 have hz3:(runM c st0 (es.take 0)).wait=[]:=rfl
 have hz4:(runM c st0 (es.take 0)).done=[]:=rfl
 have hz5:(runM c st0 (es.take 0)).told=[]:=rfl
 unfold aP8
 have hSok:=fun k (hk:k≤b9 c st0 es)=>aPL hb (arF c) hk
 have hSw:=fun k (hk:k<b9 c st0 es)=>aS0 hk
 have hSb:=aN8 (c:=c) (s:=st0) (l:=es)
 have hle:=aNZ (c:=c) (s:=st0) (l:=es)
 generalize b9 c st0 es=n at*
 have hSt:=fun k (hk:k<es.length)=>av6 (c:=c) (s:=st0) hk
 obtain⟨S,hS⟩: ∃S:Nat→TSt,S=fun k=>runM c st0 (es.take k):=⟨_,rfl⟩
 have hSe: ∀k,runM c st0 (es.take k)=S k:=fun k=>by rw[hS]
 simp only[hSe] at*
 clear hS hSe
 obtain⟨hp3,hp12⟩:=hC hb
 have hl0:=(hSok 0 (by omega)).atm.wl
 have hl1:=(hSok 0 (by omega)).atm.hl
 have hl2:=(hSok 0 (by omega)).JI
 refine aOE rfl fun Q hQ=> ?_
 unfold hW
 repeat' (first| (with_reducible first| (refine hK _ _ _ ?_;clear hK K)| (refine hB ?_;clear hA hB A B)|refine Z1 ?_|refine Z2 ?_|refine Z3 fun KB hKB=> ?_|refine Z5 (by omega) ?_)| (first| (with_reducible first|refine Y2 fun K hK=> ?_|refine Y3 fun A B hA hB=> ?_)| (refine W6 hcf ?_)| (refine hS0 ?_))<;>(simp only[go_sem,eq_true hb])|fail)
 (have hKX:=hKB;clear hKB)
 refine aM.sG 7 (β:=Nat×(Nat×Nat×Nat)×(Nat×Nat×Nat))
  (fun b u=>en [(21,dI u.1),(20,dI es.length),(19,dS (es.map eEv)),(6,dP 6 b),(2,.one (.c (.fQ (cU c))))])
  (fun b u=>hp [(b,⟨6,1,[oIm (b+1) (b+2) (b+3) (b+4) (b+5) (b+6) 64 6 3 u.2.1.1 u.2.1.2.1 u.2.1.2.2 (S u.1)]⟩),(b+1,⟨1,64,(S u.1).words.map aJ⟩),(b+2,⟨1,6,(S u.1).holds.map aJ⟩),(b+3,⟨1,3,(S u.1).asked.map aJ⟩),(b+4,⟨5,u.2.2.1,(S u.1).wait.map aS⟩),(b+5,⟨5,u.2.2.2.1,(S u.1).done.map aS⟩),(b+6,⟨5,u.2.2.2.2,(S u.1).told.map aS⟩)])
  (fun u=>u.1≤n∧((S u.1).wait.length≤u.2.1.1∧(S u.1).done.length≤u.2.1.2.1∧(S u.1).told.length≤u.2.1.2.2)∧(u.2.1.1≤u.2.2.1∧u.2.1.2.1≤u.2.2.2.1∧u.2.1.2.2≤u.2.2.2.2))
  (fun u=>es.length-u.1) (0,(0,0,0),(0,0,0))
  (by dsimp only;unfold oIm;rw[hz3,hz4,hz5,hl0,hl1,hl2];(refine cR [12,14,15,16,17,18,19] (by omega) (by repeat' (first| (with_reducible first|exact C1|refine C2 ?_ ?_)| ((with_reducible refine C0 ?_);exact CE (by omega) rfl)| ((with_reducible refine D0 ?_);first|exact CA rfl|exact CI rfl (by simp) rfl rfl rfl|refine CJ ?_)|fail)) ⟨⟨by simp,by simp[sgL],_,rfl,aP (by repeat' (first| (with_reducible first|exact C3|refine C4 ?_ ?_)| ((with_reducible refine C0 ?_);first|exact CC|exact CQ (by omega) rfl rfl (by rfl) rfl)|fail))⟩,⟨by simp,by simp[sgL],_,rfl,bP (aG bF _) rfl rfl⟩,⟨by simp,by simp[sgL],_,rfl,bP (aG bF _) rfl rfl⟩,⟨by simp,by simp[sgL],_,rfl,bP (aG bF _) rfl rfl⟩,⟨by simp,by simp[sgL],_,rfl,bP (aG dZ _) rfl rfl⟩,⟨by simp,by simp[sgL],_,rfl,bP (aG dZ _) rfl rfl⟩,⟨by simp,by simp[sgL],_,rfl,bP (aG dZ _) rfl rfl⟩,trivial⟩ (by simp[sgL]))) ⟨Nat.zero_le _,by rw[hz3,hz4,hz5];exact⟨Nat.le_refl _,Nat.le_refl _,Nat.le_refl _⟩,by decide⟩ ?_
 rintro⟨k,⟨c3,c4,c5⟩,⟨m3,m4,m5⟩⟩ ⟨hk,hcc,hmm⟩ KL hKL
 dsimp only at hk hcc hmm
 have hs:=hSok k hk
 have hstep:=hSt k
 have hw0:=hSw k
 generalize hSk:S k=s at*
 have hlens:=hs.lens hb
 have hcl:s.words.length≤64∧s.holds.length≤6∧s.asked.length≤3∧s.wait.length≤c3∧s.done.length≤c4∧s.told.length≤c5:=by
  rw[hs.atm.wl,hs.atm.hl,hs.JI];exact⟨Nat.le_refl _,Nat.le_refl _,Nat.le_refl _,hcc⟩
 by_cases hlt:k<n
 ·have hw1:=hw0 hlt
  have hs2:=hstep (by omega)
  have hsk:=G9 hb hs hw1
  repeat' (first| (with_reducible first| (refine hK _ _ _ ?_;clear hK K)| (refine hA ?_;clear hA hB A B)| (refine hB ?_;clear hA hB A B)|refine Z1 ?_|refine Z2 ?_|refine Z3 fun KB hKB=> ?_|refine Z4 (by omega) ?_)| (first| (with_reducible first|refine Y2 fun K hK=> ?_|refine Y3 fun A B hA hB=> ?_)| (refine axC (c:=c) (s:=s) (e:=es.getD k default) hcf hp3 (hs.fit hb) (azA hcl rfl rfl rfl rfl rfl rfl trivial trivial trivial trivial trivial trivial) ?_)| (refine awO hb hs hw1 hcl hmm (by omega) (by simp) rfl rfl rfl rfl rfl rfl rfl (fun c3' c4' c5' m3' m4' m5' q1 q2=> ?_)))<;>(simp only[go_sem,hw1];try simp (disch:=omega) only[Iw])| ((with_reducible refine Y0 ?_);simp only[AQ.then,AQ.blk])|refine⟨by omega,?_⟩| (with_reducible refine hKB _ _ _ ?_)|fail)
  refine hKL _ _ _ (k+1,(c3',c4',c5'),(m3',m4',m5')) (by omega) ?_ ⟨by dsimp only;omega,by dsimp only;rw[hs2];exact q1,q2⟩ (by dsimp only;omega)
  dsimp only
  rw[hs2]
  have hl1:(lS c s (es.getD k default)).words.length=s.words.length:=by rw[hs.atm.wl,hsk.atm.wl]
  have hl2:(lS c s (es.getD k default)).holds.length=s.holds.length:=by rw[hs.atm.hl,hsk.atm.hl]
  have hl3:(lS c s (es.getD k default)).asked.length=s.asked.length:=by rw[hs.JI,hsk.JI]
  (refine cR [23,24,25,26,47,48,49] (by omega) (by repeat' (first| (with_reducible first|exact C1|refine C2 ?_ ?_)| ((with_reducible refine C0 ?_);exact CE (by omega) rfl)| ((with_reducible refine D0 ?_);first|exact CA rfl|refine CJ ?_)|fail)) ⟨⟨by simp,by simp[sgL],_,rfl,aP (by unfold oIm;repeat' (first| (with_reducible first|exact C3|refine C4 ?_ ?_)| ((with_reducible refine C0 ?_);exact CQ (by omega) rfl rfl (by rfl) rfl)|fail))⟩,⟨by simp,by simp[sgL],_,rfl,bP (aG bF _) rfl rfl⟩,⟨by simp,by simp[sgL],_,rfl,bP (aG bF _) rfl rfl⟩,⟨by simp,by simp[sgL],_,rfl,bP (aG bF _) rfl rfl⟩,⟨by simp,by simp[sgL],_,rfl,bP (aG dZ _) rfl rfl⟩,⟨by simp,by simp[sgL],_,rfl,bP (aG dZ _) rfl rfl⟩,⟨by simp,by simp[sgL],_,rfl,bP (aG dZ _) rfl rfl⟩,trivial⟩ (by simp[sgL]))
 ·have hkn:k=n:=by omega
  subst hkn
  by_cases hkl:k=es.length
  ·subst hkl
   repeat' (first| (with_reducible first| (refine hK _ _ _ ?_;clear hK K)| (refine hB ?_;clear hA hB A B)|refine Z1 ?_|refine Z5 (by omega) ?_|refine hKX _ _ _ ?_)| (with_reducible first|refine Y2 fun K hK=> ?_|refine Y3 fun A B hA hB=> ?_)<;>(simp only[go_sem])| ((with_reducible first|refine Y8 ?_|refine Y9 ?_);try simp only[AQ.then,AQ.blk,reduceIte,Nat.reduceEqDiff])|fail)
   exact aZ hQ (.tup [.c (cI (-1)),.c (cI 0)]) rfl rfl (by simp)
  ·have hbad:=hSb (by omega)
   rw[hSk] at hbad
   repeat' (first| (with_reducible first| (refine hK _ _ _ ?_;clear hK K)| (refine hA ?_;clear hA hB A B)|refine Z1 ?_|refine Z2 ?_|refine Z3 fun KB hKB=> ?_|refine Z4 (by omega) ?_)| (first| (with_reducible first|refine Y2 fun K hK=> ?_|refine Y3 fun A B hA hB=> ?_)| (refine axC (c:=c) (s:=s) (e:=es.getD k default) hcf hp3 (hs.fit hb) (azA hcl rfl rfl rfl rfl rfl rfl trivial trivial trivial trivial trivial trivial) ?_))<;>(simp only[go_sem])| ((with_reducible refine Y8 ?_);try simp only[AQ.then,AQ.blk,reduceIte,Nat.reduceEqDiff])|refine⟨by omega,?_⟩|fail)
   exact aZ hQ (.tup [.c (cI k),.c (cI (X6 c s (es.getD k default)))]) rfl rfl (by simp[hkl,hSk])
theorem aPY {c:Cfg} {es:List Ev} (hb:aQ c) (hcf:jO c) (hlen:es.length≤200) (h:K (.tup [.c (cI (aP8 c es).1),.c (cI (aP8 c es).2)]) H nx):aB Tryz.prog cA [dA (cU c),dS (es.map eEv)] H nx K:=
 (aP5 c es hb hcf hlen).pure rfl (aI ⟨aE rfl,aE rfl,trivial⟩) fun r hr=>hr▸h
theorem aPZ (c:Cfg) (es:List Ev) (hcf:jO c) (hl:es.length<2^40) (hno: ¬(aQ c∧es.length≤200)):
 aB Tryz.prog cA [dA (cU c),dS (es.map eEv)] .nil 0 fun r _ _=>r.plain=true∧r= .tup [.c (cI 0),.c (cI 1)]:=by
 refine aOE rfl fun Q hQ=> ?_
 unfold hW
 by_cases hb:aQ c
 ·have h2: ¬es.length≤200:=fun h=>hno ⟨hb,h⟩
  repeat' (first| (with_reducible first| (refine hK _ _ _ ?_;clear hK K)| (refine hA ?_;clear hA hB A B)|refine Z1 ?_|refine Z4 (by omega) ?_)| (first| (with_reducible first|refine Y2 fun K hK=> ?_|refine Y3 fun A B hA hB=> ?_)| (refine W6 hcf ?_))<;>(simp only[go_sem,eq_true hb])| ((with_reducible refine Y8 ?_);try simp only[AQ.then,AQ.blk,reduceIte,Nat.reduceEqDiff])|fail)
  exact aZ hQ (.tup [.c (cI 0),.c (cI 1)]) rfl rfl rfl
 ·repeat' (first| (with_reducible first| (refine hK _ _ _ ?_;clear hK K)| (refine hA ?_;clear hA hB A B)|refine Z1 ?_)| (first| (with_reducible first|refine Y2 fun K hK=> ?_|refine Y3 fun A B hA hB=> ?_)| (refine W6 hcf ?_))<;>(simp only[go_sem,eq_false hb])| ((with_reducible refine Y8 ?_);try simp only[AQ.then,AQ.blk,reduceIte,Nat.reduceEqDiff])|fail)
  exact aZ hQ (.tup [.c (cI 0),.c (cI 1)]) rfl rfl rfl
theorem aP1 {c:Cfg} {es:List Ev} (hcf:jO c) (hl:es.length<2^40) (hno: ¬(aQ c∧es.length≤200)) (h:K (.tup [.c (cI 0),.c (cI 1)]) H nx):aB Tryz.prog cA [dA (cU c),dS (es.map eEv)] H nx K:=
 (aPZ c es hcf hl hno).pure rfl (aI ⟨aE rfl,aE rfl,trivial⟩) fun r hr=>hr▸h
end
end Go.Proofs.YtegiblhkjfiooaaGreat
end
section
namespace Go.Proofs.YtegiblhkjfiooaaGreat
open Go Go.AM
set_option maxRecDepth 100000
end Go.Proofs.YtegiblhkjfiooaaGreat
end
section
namespace Go.AM
abbrev TE:=List Job
def IF (l:TE):List D1:=[.isl (l.map aS)]
theorem ag7 {l:TE}:(IF l).length=1:=rfl
theorem aaZ {l:TE}:(IF l).take 1=[.isl (l.map aS)]:=rfl
theorem ZY {l:TE}:(IF l).drop 1=[]:=rfl
theorem ae8 {l:TE} {cs:List D1} {k:Nat}:iA cs (k+1) (IF l)=iA cs (k+1) [.isl (l.map aS)]:=rfl
theorem al7 (l:TE):(IF l).length=1∧(IF l).all D1.dQ=true:=⟨rfl,rfl⟩
attribute [go_sem] ag7 aaZ ZY ae8
end Go.AM
namespace Go.Proofs.YtegiblhkjfiooaaGreat
open Go Go.AM
set_option maxRecDepth 100000
set_option maxHeartbeats 8000000
section
variable {H : aA} {nx : Nat} {K : D → aA → Nat → Prop}
theorem ac0 {l:List Job} (h: ∀i,i<l.length→1≤i→ad5 (l.getD (i-1) default) (l.getD i default)<0):kW l:=by
 have h2: ∀(d i:Nat) (hi:i+d+1<l.length),uL (l.getD i default) (l.getD (i+d+1) default)=true:=by
  intro d
  induction d with
  |zero=>intro i hi;have:=h (i+1) (by omega) (by omega);rw[E7] at this;simpa using this
  |succ d ih=>
   intro i hi
   have h3:=ih i (by omega)
   have h4:=h (i+d+2) (by omega) (by omega)
   rw[E7,show i+d+2-1=i+d+1 by omega] at h4
   rw[show i+(d+1)+1=i+d+2 by omega]
   rw[qL] at*
   omega
 refine List.pairwise_iff_getElem.2 fun i j hi hj hij=> ?_
 have:=h2 (j-i-1) i (by omega)
 rw[show i+(j-i-1)+1=j by omega] at this
 simpa [List.getD,hi,hj] using this
theorem TI (l:List Job) (hl:l.length<2^20):aB Tryz.prog oI [dS (l.map aS)] .nil 0 fun rr _ _=>rr.plain=true∧rr=dB (decide (kW l)):=by
 refine Q2 rfl fun Q hQ=> ?_
 unfold x7
 repeat' (first| (with_reducible first| (refine hK _ _ _ ?_;clear hK K)|refine Z1 ?_|refine Z3 fun KB hKB=> ?_)| (with_reducible refine Y2 fun K hK=> ?_)<;>(simp only[go_sem])|fail)
 (have hKX:=hKB;clear hKB)
 refine aM.sG 0 (β:=Nat) (fun b k=>en [(3,dI k),(0,dS (l.map aS))]) (fun b k=>hp []) (fun k=>(1≤k∧(k≤l.length∨k=1))∧ ∀i,i<k→i<l.length→1≤i→ad5 (l.getD (i-1) default) (l.getD i default)<0) (fun k=>l.length-k) 1 (bU (Nat.le_refl _) (by repeat' (first| (with_reducible first|exact C1|refine C2 ?_ ?_)| ((with_reducible refine D0 ?_);exact CA rfl)|fail))) ⟨by omega,fun i hi _ _=>by omega⟩ ?_
 rintro k ⟨hk,hinv⟩ KL hKL
 by_cases hlt:k<l.length
 ·have e1:((k:Int)-1).toNat=k-1:=by omega
  repeat' (first| (with_reducible first| (refine hK _ _ _ ?_;clear hK K)| (refine hA ?_;clear hA hB A B)| (refine hB ?_;clear hA hB A B)|refine Z1 ?_|refine Z2 ?_|refine Z3 fun KB hKB=> ?_|refine Z4 (by omega) ?_|refine Z6 (fun h=> ?_) fun h=> ?_)| (first| (with_reducible first|refine Y2 fun K hK=> ?_|refine Y3 fun A B hA hB=> ?_)| (with_reducible refine xM ?_))<;>(simp only[go_sem,e1];try simp (disch:=omega) only[Iw])| ((with_reducible refine Y8 ?_);try simp only[AQ.then,AQ.blk,reduceIte,Nat.reduceEqDiff])| ((with_reducible refine Y0 ?_);simp only[AQ.then,AQ.blk])|refine⟨by omega,?_⟩| (with_reducible refine hKB _ _ _ ?_)|fail)
  ·refine aZ hQ (dB false) rfl rfl (j7 fun hs=> ?_)
   have h5:=List.pairwise_iff_getElem.1 hs (k-1) k (by omega) hlt (by omega)
   have h6:ad5 (l.getD (k-1) default) (l.getD k default)<0:=by rw[E7];simpa [List.getD,hlt,show k-1<l.length by omega] using h5
   omega
  ·exact hKL _ _ _ (k+1) (by omega) (bU (Nat.le_refl _) (by repeat' (first| (with_reducible first|exact C1|refine C2 ?_ ?_)| ((with_reducible refine D0 ?_);exact CA rfl)|fail))) ⟨by omega,fun i hi hl2 h1=>by
    rcases Nat.lt_succ_iff_lt_or_eq.1 hi with h2|h2
    ·exact hinv i h2 hl2 h1
    ·subst h2;omega⟩ (by omega)
 ·repeat' (first| (with_reducible first| (refine hK _ _ _ ?_;clear hK K)| (refine hB ?_;clear hA hB A B)|refine Z1 ?_|refine Z5 (by omega) ?_|refine hKX _ _ _ ?_)| (with_reducible first|refine Y2 fun K hK=> ?_|refine Y3 fun A B hA hB=> ?_)<;>(simp only[go_sem])| ((with_reducible first|refine Y8 ?_|refine Y9 ?_);try simp only[AQ.then,AQ.blk,reduceIte,Nat.reduceEqDiff])|fail)
  exact aZ hQ (dB true) rfl rfl (q9 (ac0 fun i hi h1=>hinv i (by omega) hi h1))
theorem IK {l:List Job} (hl:l.length<2^20) {d0:D} (hd0:CvD H (fun _=>True) id 0 (dS (l.map aS)) d0) (h:K (dB (decide (kW l))) H nx):aB Tryz.prog oI [d0] H nx K:=
 (TI l hl).pure rfl (aI ⟨hd0,trivial⟩) (fun r hr=>hr▸h)
theorem JU (r:Rsp) (hr:r.data.length<2^40):aB Tryz.prog iT [dA (tG r)] .nil 0 fun rr _ _=>rr.plain=true∧rr=dB (decide (r=oW)):=by
 refine HU rfl fun Q hQ=> ?_
 unfold nO
 repeat' (first| (with_reducible first| (refine hK _ _ _ ?_;clear hK K)|refine Z1 ?_)| (with_reducible first|refine Y2 fun K hK=> ?_|refine Y6 (fun h=> ?_) fun h=> ?_)<;>(simp only[go_sem])| ((with_reducible refine Y8 ?_);try simp only[AQ.then,AQ.blk,reduceIte,Nat.reduceEqDiff])|fail)
 all_goals first|with_reducible refine aZ hQ _ rfl rfl ?_|skip
 all_goals (obtain⟨r1,r2,r3⟩:=r;unfold oW;dsimp only at*;first|exact q9 (by simp_all)|exact j7 (by simp_all)|exact pD (by simp_all)|exact pD (by simp only[Rsp.mk.injEq];rw[←List.length_eq_zero_iff];omega))
theorem JG {r:Rsp} (hr:r.data.length<2^40) (h:K (dB (decide (r=oW))) H nx):aB Tryz.prog iT [dA (tG r)] H nx K:=
 (JU r hr).pure rfl (aI ⟨aE rfl,trivial⟩) (fun r hr=>hr▸h)
theorem W1 (r:Rsp) (hr:r.data.length<2^40):aB Tryz.prog m6 [dA (tG r)] .nil 0 fun rr _ _=>rr.plain=true∧rr=dB (decide (pA r)):=by
 refine UX rfl fun Q hQ=> ?_
 unfold z8
 repeat' (first| (with_reducible first| (refine hK _ _ _ ?_;clear hK K)|refine Z1 ?_)| (first| (with_reducible first|refine Y2 fun K hK=> ?_|refine Y6 (fun h=> ?_) fun h=> ?_)| (with_reducible refine fE ?_)| (refine vG hr (aE rfl) ?_))<;>(simp only[go_sem])| ((with_reducible refine Y8 ?_);try simp only[AQ.then,AQ.blk,reduceIte,Nat.reduceEqDiff])|fail)
 all_goals first|with_reducible refine aZ hQ _ rfl rfl ?_|skip
 all_goals first|exact j7 (by unfold pA;grind)|exact pD (by unfold pA;grind)|exact q9 (by unfold pA;grind)
theorem YD {r:Rsp} (hr:r.data.length<2^40) (h:K (dB (decide (pA r))) H nx):aB Tryz.prog m6 [dA (tG r)] H nx K:=
 (W1 r hr).pure rfl (aI ⟨aE rfl,trivial⟩) (fun r hr=>hr▸h)
theorem HK {r:Rsp} (hr:r.data.length<2^40) (h:K (dB (decide (r=oW))) H nx):aB Tryz.prog iT [.one (.agg [cI r.id,cI r.code,.isl (r.data.map aJ)])] H nx K:=JG hr h
theorem I8 {r:Rsp} (hr:r.data.length<2^40) (h:K (dB (decide (pA r))) H nx):aB Tryz.prog m6 [.one (.agg [cI r.id,cI r.code,.isl (r.data.map aJ)])] H nx K:=YD hr h
def UB (l:List Job):List (List Int×Int):=l.map fun j=>([j.who,j.n],1)
theorem alK {l:List Job} {j:Job} (h:key j∉l.map key):jT (UB l) [j.who,j.n]=none:=by
 unfold jT UB
 rw[Option.map_eq_none_iff,List.find?_eq_none]
 intro p hp
 obtain⟨x,hx,rfl⟩:=List.mem_map.1 hp
 simp only[List.cons.injEq,and_true,decide_eq_true_eq]
 intro he
 exact h (List.mem_map.2 ⟨x,hx,by simp[key,he.1,he.2]⟩)
theorem alD {l:List Job} {j:Job} (h:key j∉l.map key):vA (UB l) [j.who,j.n] 1=UB (l++[j]):=by
 induction l with
 |nil=>rfl
 |cons x l ih=>
  simp only[List.map_cons,List.mem_cons,not_or] at h
  have hne: ¬[j.who,j.n]=[x.who,x.n]:=fun he=>h.1 (by simp only[List.cons.injEq,and_true] at he;simp[key,he.1,he.2])
  show vA (([x.who,x.n],1)::UB l) _ _=_
  simp only[vA,hne,if_false,ih h.2]
  rfl
theorem amR {l:List Job}:(UB l).length=l.length:=by simp[UB]
theorem alS {l:List Int} {k:Nat} (h:k<l.length):(l.take (k+1)).sum=(l.take k).sum+l.getD k default:=by
 rw[List.take_succ_eq_append_getElem h,List.sum_append];simp[List.getD,h]
theorem af9 {l:List Int} (h:l.length=3):(l.take 3).sum=l.getD 0 default+l.getD 1 default+l.getD 2 default:=by
 match l,h with
 | [a,b,c],_=>simp[List.getD];omega
theorem ZS {w u:List Int} (h:WK w u):JS w u:=⟨⟨by rw[h.wl];rfl,h.wr⟩,by rw[h.hl];rfl,h.hr⟩
theorem HM (c:Cfg) (s:TSt) (hb:aQ c) (hs:BA c s):aB Tryz.prog j9 [dA (cU c),dA (eSt s)] .nil 0 fun rr _ _=>rr.plain=true∧rr=dB true:=by
 refine GV rfl fun Q hQ=> ?_
 unfold mC
 obtain⟨hp3,hp12⟩:=hC hb
 have hatm:=ZS hs.atm
 have hwl:=hs.atm.wl
 have hhl:=hs.atm.hl
 have hal:=hs.JI
 have hls:=hs.lens hb
 have hag:=hs.DC
 have hsum3:=af9 hal
 have hcnt:=hs.count
 have hd: ∀j∈s.wait++s.done++s.told,j.rsp.data.length<2^40:=fun j hj=>by
  simp only[List.mem_append] at hj
  rcases hj with(hj|hj)|hj
  ·rw[hs.P4 j hj];decide
  ·have:=(hs.R8 j (by simp[hj])).1.2.2.1;omega
  ·have:=(hs.R8 j (by simp[hj])).1.2.2.1;omega
 repeat' (first| (with_reducible first| (refine hK _ _ _ ?_;clear hK K)| (refine hB ?_;clear hA hB A B)|refine Z1 ?_|refine Z2 ?_|refine Z3 fun KB hKB=> ?_)| (first| (with_reducible first|refine Y2 fun K hK=> ?_|refine Y3 fun A B hA hB=> ?_|refine Y5 (by omega) ?_)| (refine JZ (w:=s.words) (u:=s.holds) (by omega) (by omega) (aE rfl) ?_)| (refine IK (l:=s.wait) (by omega) (aE rfl) ?_)| (refine IK (l:=s.done) (by omega) (aE rfl) ?_))<;>(simp only[go_sem,eq_true hatm,eq_true hs.NR,eq_true hs.NW])|fail)
 (have hKX:=hKB;clear hKB)
 refine aM.sG 0 (β:=Nat) (fun b k=>en [(38,dI k),(37,dI s.asked.length),(36,dS (s.asked.map aJ)),(5,dI (s.asked.take k).sum),(3,.one (.c (.fQ (eSt s)))),(2,.one (.c (.fQ (cU c))))]) (fun b k=>.nil) (fun k=>k≤3∧0≤(s.asked.take k).sum∧(s.asked.take k).sum≤12*k) (fun k=>3-k) 0 (bU (Nat.le_refl _) (by repeat' (first| (with_reducible first|exact C1|refine C2 ?_ ?_)| ((with_reducible refine D0 ?_);first|exact CA rfl|exact CI rfl (by simp) rfl rfl rfl)|fail))) ⟨by omega,by simp,by simp⟩ ?_
 rintro k ⟨hk,h1,h2⟩ KL hKL
 by_cases hlt:k<3
 ·have hg:=hag k hlt
  have hst:=alS (l:=s.asked) (k:=k) (by omega)
  have hpk:=hp12 k
  repeat' (first| (with_reducible first| (refine hK _ _ _ ?_;clear hK K)| (refine hA ?_;clear hA hB A B)| (refine hB ?_;clear hA hB A B)|refine Z1 ?_|refine Z2 ?_|refine Z3 fun KB hKB=> ?_|refine Z4 (by omega) ?_|refine Z5 (by omega) ?_)| (first| (with_reducible first|refine Y2 fun K hK=> ?_|refine Y3 fun A B hA hB=> ?_)| (with_reducible refine fE ?_))<;>(simp only[go_sem];try simp (disch:=omega) only[Iw])| ((with_reducible refine Y0 ?_);simp only[AQ.then,AQ.blk])|refine⟨by omega,?_⟩| (with_reducible refine hKB _ _ _ ?_)|fail)
  exact hKL _ _ _ (k+1) (by omega) (by rw[hst];exact bU (by omega) (by repeat' (first| (with_reducible first|exact C1|refine C2 ?_ ?_)| ((with_reducible refine D0 ?_);exact CA rfl)|fail))) ⟨by omega,by rw[hst];omega,by rw[hst];omega⟩ (by omega)
 have hk3:k=3:=by omega
 subst hk3
 repeat' (first| (with_reducible first| (refine hK _ _ _ ?_;clear hK K)| (refine hB ?_;clear hA hB A B)|refine Z1 ?_|refine Z3 fun KB hKB=> ?_|refine Z5 (by omega) ?_|refine hKX _ _ _ ?_)| (with_reducible first|refine Y2 fun K hK=> ?_|refine Y3 fun A B hA hB=> ?_)<;>(simp only[go_sem])| ((with_reducible refine Y9 ?_);try simp only[AQ.then,AQ.blk,reduceIte,Nat.reduceEqDiff])|fail)
 (have hKY:=hKB;clear hKB)
 obtain⟨LL,hLL⟩: ∃LL:List TE,LL=[s.wait,s.done,s.told]:=⟨_,rfl⟩
 have hLl:LL.length=3:=by subst hLL;rfl
 have hLr:[[D1.isl (s.wait.map aS)],[D1.isl (s.done.map aS)],[D1.isl (s.told.map aS)]]=LL.map IF:=by subst hLL;rfl
 obtain⟨seen,hse⟩: ∃seen:Nat→List Job,seen=fun k=>(LL.take k).flatten:=⟨_,rfl⟩
 have hs0:seen 0=[]:=by subst hse;rfl
 have hs3:(seen 3).length=s.wait.length+s.done.length+s.told.length:=by subst hse;subst hLL;simp;omega
 have hss: ∀k,k<3→seen (k+1)=seen k++LL.getD k default:=fun k hk=>by
  subst hse
  simp only
  rw[List.take_succ_eq_append_getElem (by omega),List.flatten_append]
  simp[List.getD,show k<LL.length by omega]
 have hnd: ∀k,k<3→((seen k++LL.getD k default).map key).Nodup:=fun k hk=>by
  have hn:=hs.nodup
  unfold keys at hn
  have:k=0∨k=1∨k=2:=by omega
  subst hse;subst hLL
  rcases this with rfl|rfl|rfl
  ·have:(s.wait.map key).Nodup:=by
    simp only[List.map_append,List.append_assoc] at hn;exact(List.nodup_append.1 hn).1
   simpa [List.getD] using this
  ·have:((s.wait++s.done).map key).Nodup:=by
    rw[List.map_append] at hn;exact(List.nodup_append.1 hn).1
   simpa [List.getD] using this
  ·simpa [List.getD] using hn
 have hmem: ∀k,k<3→∀j∈LL.getD k default,j∈s.wait++s.done++s.told:=fun k hk j hj=>by
  have:k=0∨k=1∨k=2:=by omega
  subst hLL
  rcases this with rfl|rfl|rfl<;>(simp[List.getD] at hj;simp[hj])
 have hL0: ∀j∈LL.getD 0 default,j.rsp=oW:=fun j hj=>by
  subst hLL;simp[List.getD] at hj;exact hs.P4 j hj
 have hL1: ∀k,k<3→0<k→∀j∈LL.getD k default,pA j.rsp∧j.rsp.id=(bT c j.who j.n).id:=fun k hk h0 j hj=>by
  have:k=1∨k=2:=by omega
  subst hLL
  rcases this with rfl|rfl<;>(simp[List.getD] at hj;exact hs.R8 j (by simp[hj]))
 have hLs: ∀k,k<3→(LL.getD k default).length≤36:=fun k hk=>by
  have:k=0∨k=1∨k=2:=by omega
  subst hLL
  rcases this with rfl|rfl|rfl<;>(simp[List.getD];omega)
 rw[hLr]
 clear hLr hLL hse
 refine aM.sG 1 (β:=Nat) (fun b k=>en [(65,dI k),(64,dI 3),(63,dS (LL.map IF)),(8,.one (.c (.omap b))),(5,dI (s.asked.take 3).sum),(3,.one (.c (.fQ (eSt s)))),(2,.one (.c (.fQ (cU c))))]) (fun b k=>hp [(b,u4 ⟨2,true,UB (seen k)⟩)]) (fun k=>k≤3) (fun k=>3-k) 0 ?_ (by omega) ?_
 ·refine cR [31] (by omega) ?_ ⟨⟨by simp,by simp[sgL],_,rfl,GH (by rw[hs0];rfl)⟩,trivial⟩ (by simp[sgL])
  refine oF (oF (oF (oF (oF (oF (oF K6 ?_) ?_) ?_) ?_) ?_) ?_) ?_
  all_goals first
   |exact DJ (rows:=LL.map IF) (aG al7 LL) (by simp;omega) (by simp) rfl rfl (List.take_of_length_le (by simp)) (by simp;omega)
   |exact apS (aa6 (by omega) rfl)
   | (repeat' ((with_reducible refine D0 ?_);exact CA rfl);done)
 intro k hk KM hKM
 by_cases hlt:k<3
 ·have hss1:=hss k hlt
  have hnd1:=hnd k hlt
  have hmm:=hmem k hlt
  have hr0:k=0→∀j∈LL.getD k default,j.rsp=oW:=fun h=>by subst h;exact hL0
  have hr1:=hL1 k hlt
  have hlk:=hLs k hlt
  generalize hcur:LL.getD k default=cur at hss1 hnd1 hmm hr0 hr1 hlk
  repeat' (first| (with_reducible first| (refine hK _ _ _ ?_;clear hK K)| (refine hA ?_;clear hA hB A B)|refine Z1 ?_|refine Z2 ?_|refine Z3 fun KB hKB=> ?_|refine Z4 (by omega) ?_)| (with_reducible first|refine Y2 fun K hK=> ?_|refine Y3 fun A B hA hB=> ?_)<;>(simp only[go_sem,hcur])|refine⟨by omega,?_⟩|fail)
  (have hKZ:=hKB;clear hKB)
  refine aM.sG 1 (β:=Nat) (fun b i=>en [(72,dI i),(71,dI cur.length),(70,dS (cur.map aS)),(65,dI k),(64,dI 3),(63,dS (LL.map IF)),(9,dI k),(8,.one (.c (.omap b))),(5,dI (s.asked.take 3).sum),(3,.one (.c (.fQ (eSt s)))),(2,.one (.c (.fQ (cU c))))]) (fun b i=>hp [(b,u4 ⟨2,true,UB (seen k++cur.take i)⟩)]) (fun i=>i≤cur.length) (fun i=>cur.length-i) 0 (by(refine cR [42] (by omega) (by repeat' (first| (with_reducible first|exact C1|refine C2 ?_ ?_)| ((with_reducible refine C0 ?_);exact CR (by omega) rfl)| ((with_reducible refine D0 ?_);first|exact CA rfl|refine CJ ?_)|fail)) ⟨⟨by simp,by simp[sgL],_,rfl,GH (by simp)⟩,trivial⟩ (by simp[sgL]))) (by omega) ?_
  intro i hi KN hKN
  by_cases hil:i<cur.length
  ·have hjm:=hmm _ (cC hil)
   have hjd:=hd _ hjm
   have hja:=hs.mem hjm
   have hjj:=hs.ab8 (key (cur.getD i default)) (List.mem_map_of_mem hjm)
   have hj0:=fun h=>hr0 h _ (cC hil)
   have hj1:=fun h=>hr1 h _ (cC hil)
   have hts:cur.take (i+1)=cur.take i++[cur.getD i default]:=by rw[List.take_succ_eq_append_getElem hil];simp[List.getD,hil]
   have hni:key (cur.getD i default)∉(seen k++cur.take i).map key:=fun hm=>by
    have e:seen k++cur=(seen k++cur.take i)++(cur.getD i default::cur.drop (i+1)):=by
     rw[List.append_assoc];congr 1
     have:cur.getD i default=cur[i]:=by simp[List.getD,hil]
     rw[this,←List.drop_eq_getElem_cons hil,List.take_append_drop]
    rw[e,List.map_append] at hnd1
    exact(List.nodup_append.1 hnd1).2.2 _ hm _ (by simp) rfl
   have hget:=alK hni
   have hset:=alD hni
   simp only[key] at hjj
   have har:=hs.DC (cur.getD i default).who.toNat (by omega)
   have hpk:=hp12 (cur.getD i default).who.toNat
   by_cases hk0:k=0
   ·have hjr:=hj0 hk0
    repeat' (first| (with_reducible first| (refine hK _ _ _ ?_;clear hK K)| (refine hA ?_;clear hA hB A B)| (refine hB ?_;clear hA hB A B)|refine Z1 ?_|refine Z2 ?_|refine Z3 fun KB hKB=> ?_|refine Z4 (by omega) ?_)| (first| (with_reducible first|refine Y2 fun K hK=> ?_|refine Y3 fun A B hA hB=> ?_|refine Y4 (by omega) ?_|refine Y5 (by omega) ?_)| (with_reducible refine oR ?_)| (with_reducible refine fE ?_)| (with_reducible refine HK hjd ?_))<;>(simp only[go_sem,hget,hset,Option.getD_none,eq_true hjr];try simp (disch:=omega) only[Iw])| ((with_reducible refine Y0 ?_);simp only[AQ.then,AQ.blk])|refine⟨by omega,?_⟩| (with_reducible refine hKB _ _ _ ?_)|fail)
    exact hKN _ _ _ (i+1) (by omega) (by(refine cR [52] (by omega) (by repeat' (first| (with_reducible first|exact C1|refine C2 ?_ ?_)| ((with_reducible refine C0 ?_);exact CR (by omega) rfl)| ((with_reducible refine D0 ?_);first|exact CA rfl|refine CJ ?_)|fail)) ⟨⟨by simp,by simp[sgL],_,rfl,GH (by rw[hts,List.append_assoc])⟩,trivial⟩ (by simp[sgL]))) (by omega) (by omega)
   ·obtain⟨hjr1,hjr2⟩:=hj1 (by omega)
    repeat' (first| (with_reducible first| (refine hK _ _ _ ?_;clear hK K)| (refine hA ?_;clear hA hB A B)| (refine hB ?_;clear hA hB A B)|refine Z1 ?_|refine Z2 ?_|refine Z3 fun KB hKB=> ?_|refine Z4 (by omega) ?_|refine Z5 (by omega) ?_)| (first| (with_reducible first|refine Y2 fun K hK=> ?_|refine Y3 fun A B hA hB=> ?_|refine Y4 (by omega) ?_|refine Y5 (by omega) ?_)| (with_reducible refine oR ?_)| (with_reducible refine fE ?_)| (with_reducible refine I8 hjd ?_)| (with_reducible refine iJ hp3 hja ?_))<;>(simp only[go_sem,hget,hset,Option.getD_none,eq_true hjr1];try simp (disch:=omega) only[Iw])| ((with_reducible refine Y0 ?_);simp only[AQ.then,AQ.blk])|refine⟨by omega,?_⟩| (with_reducible refine hKB _ _ _ ?_)|fail)
    exact hKN _ _ _ (i+1) (by omega) (by(refine cR [52] (by omega) (by repeat' (first| (with_reducible first|exact C1|refine C2 ?_ ?_)| ((with_reducible refine C0 ?_);exact CR (by omega) rfl)| ((with_reducible refine D0 ?_);first|exact CA rfl|refine CJ ?_)|fail)) ⟨⟨by simp,by simp[sgL],_,rfl,GH (by rw[hts,List.append_assoc])⟩,trivial⟩ (by simp[sgL]))) (by omega) (by omega)
  ·have hi2:i=cur.length:=by omega
   subst hi2
   rw[List.take_length,←hss1]
   repeat' (first| (with_reducible first| (refine hK _ _ _ ?_;clear hK K)| (refine hB ?_;clear hA hB A B)|refine Z1 ?_|refine Z5 (by omega) ?_|refine hKZ _ _ _ ?_)| (with_reducible first|refine Y2 fun K hK=> ?_|refine Y3 fun A B hA hB=> ?_)<;>(simp only[go_sem];try simp (disch:=omega) only[Iw])| ((with_reducible refine Y9 ?_);try simp only[AQ.then,AQ.blk,reduceIte,Nat.reduceEqDiff])| ((with_reducible refine Y0 ?_);simp only[AQ.then,AQ.blk])| (with_reducible refine hKB _ _ _ ?_)|fail)
   exact hKM _ _ _ (k+1) (by omega) (by(refine cR [52] (by omega) (by repeat' (first| (with_reducible first|exact C1|refine C2 ?_ ?_)| ((with_reducible refine C0 ?_);exact CR (by omega) rfl)| ((with_reducible refine D0 ?_);first|exact CA rfl|refine CJ ?_)|fail)) ⟨⟨by simp,by simp[sgL],_,rfl,GH rfl⟩,trivial⟩ (by simp[sgL]))) (by omega) (by omega)
 ·have hk3:k=3:=by omega
  subst hk3
  repeat' (first| (with_reducible first| (refine hK _ _ _ ?_;clear hK K)| (refine hB ?_;clear hA hB A B)|refine Z1 ?_|refine Z5 (by omega) ?_|refine hKY _ _ _ ?_)| (with_reducible first|refine Y2 fun K hK=> ?_|refine Y3 fun A B hA hB=> ?_)<;>(simp only[go_sem])| ((with_reducible first|refine Y8 ?_|refine Y9 ?_);try simp only[AQ.then,AQ.blk,reduceIte,Nat.reduceEqDiff])|fail)
  refine aZ hQ (dB (decide (((UB (seen 3)).length:Int)=(s.asked.take 3).sum))) rfl rfl (congrArg dB (decide_eq_true ?_))
  rw[amR,hs3];omega
theorem HQ {c:Cfg} {s:TSt} (hb:aQ c) (hs:BA c s) (h:K (dB true) H nx):aB Tryz.prog j9 [dA (cU c),dA (eSt s)] H nx K:=
 (HM c s hb hs).pure rfl (aI ⟨aE rfl,aE rfl,trivial⟩) (fun r hr=>hr▸h)
end
end Go.Proofs.YtegiblhkjfiooaaGreat
end
section
namespace Go.Proofs.YtegiblhkjfiooaaGreat
open Go Go.AM
set_option maxRecDepth 100000
set_option maxHeartbeats 8000000
section
variable {H : aA} {nx : Nat} {K : D → aA → Nat → Prop}
theorem aST (c:Cfg) (s:TSt) (hb:aQ c) (hcf:jO c) (hs:BA c s):aB Tryz.prog au7 [dA (cU c),dA (eSt s)] .nil 0 fun rr _ _=>rr.plain=true∧rr=dB true:=by
 refine ayK rfl fun Q hQ=> ?_
 unfold av2
 repeat' (first| (with_reducible first| (refine hK _ _ _ ?_;clear hK K)|refine Z1 ?_)| (first| (with_reducible refine Y2 fun K hK=> ?_)| (refine W6 hcf ?_)| (refine HQ hb hs ?_))<;>(simp only[go_sem,eq_true hb])| ((with_reducible refine Y8 ?_);try simp only[AQ.then,AQ.blk,reduceIte,Nat.reduceEqDiff])|fail)
 exact aZ hQ (dB true) rfl rfl rfl
theorem aPH {c:Cfg} {s:TSt} (hb:aQ c) (hcf:jO c) (hs:BA c s) (h:K (dB true) H nx):aB Tryz.prog au7 [dA (cU c),dA (eSt s)] H nx K:=
 (aST c s hb hcf hs).pure rfl (aI ⟨aE rfl,aE rfl,trivial⟩) fun r hr=>hr▸h
end
end Go.Proofs.YtegiblhkjfiooaaGreat
end
section
namespace Go.Proofs.YtegiblhkjfiooaaGreat
open Go Go.AM
set_option maxRecDepth 100000
set_option maxHeartbeats 8000000
section
variable {H : aA} {nx : Nat} {K : D → aA → Nat → Prop}
theorem aRE (c:Cfg) (es:List Ev) (hb:aQ c) (hcf:jO c) (s0:TSt) (hs0:BA c s0) (hok: ∀{H:aA} {nx:Nat} {K:D→aA→Nat→Prop},K (dB true) H nx→aB Tryz.prog au7 [dA (cU c),dA (eSt s0)] H nx K) (hlen:es.length≤200):
 aB Tryz.prog auW [dA (cU c),dA (eSt s0),dS (es.map eEv)] .nil 0 fun r _ n=>n=0∧r.imm=true∧r= .tup [.agg (eSt (runM c s0 (es.take (b9 c s0 es)))),.c (cI (b9 c s0 es))]:=by
 refine axV rfl fun Q hQ=> ?_
 unfold avV
 have hSok:=fun k (hk:k≤b9 c s0 es)=>aPL hb hs0 hk
 have hSw:=fun k (hk:k<b9 c s0 es)=>aS0 hk
 have hSb:=aN8 (c:=c) (s:=s0) (l:=es)
 have hle:=aNZ (c:=c) (s:=s0) (l:=es)
 generalize b9 c s0 es=n at*
 obtain⟨hp3,hp12⟩:=hC hb
 repeat' (first| (with_reducible first| (refine hK _ _ _ ?_;clear hK K)| (refine hB ?_;clear hA hB A B)|refine Z1 ?_|refine Z2 ?_|refine Z3 fun KB hKB=> ?_|refine Z5 (by omega) ?_)| (first| (with_reducible first|refine Y2 fun K hK=> ?_|refine Y3 fun A B hA hB=> ?_)| (refine hok ?_)| (refine CM hb hs0 (fun m0 m1 m2 m3 m4 m5 hm=> ?_)))<;>(simp only[go_sem])|fail)
 (have hQX:=hKB;clear hKB)
 refine aM.sG 3 (β:=Nat×(Nat×Nat×Nat)×(Nat×Nat×Nat))
  (fun b u=>en [(25,dI u.1),(24,dI es.length),(23,dS (es.map eEv)),(8,dP 6 15),(6,dP 6 2),(3,dP 3 0),(2,dS (es.map eEv))])
  (fun b u=>hp [(0,⟨3,1,[cU c]⟩),(2,⟨6,1,[[.osl 0 0 0 0 0,.osl 0 0 0 0 0,.osl 0 0 0 0 0,.osl 0 0 0 0 0,.osl 0 0 0 0 0,.osl 0 0 0 0 0]]⟩),(15,⟨6,1,[oIm 17 18 19 b (b+1) (b+2) s0.words.length s0.holds.length s0.asked.length u.2.1.1 u.2.1.2.1 u.2.1.2.2 (runM c s0 (es.take u.1))]⟩),(17,⟨1,m0,(runM c s0 (es.take u.1)).words.map aJ⟩),(18,⟨1,m1,(runM c s0 (es.take u.1)).holds.map aJ⟩),(19,⟨1,m2,(runM c s0 (es.take u.1)).asked.map aJ⟩),(b,⟨5,u.2.2.1,(runM c s0 (es.take u.1)).wait.map aS⟩),((b+1),⟨5,u.2.2.2.1,(runM c s0 (es.take u.1)).done.map aS⟩),((b+2),⟨5,u.2.2.2.2,(runM c s0 (es.take u.1)).told.map aS⟩)])
  (fun u=>u.1≤n∧((runM c s0 (es.take u.1)).wait.length≤u.2.1.1∧(runM c s0 (es.take u.1)).done.length≤u.2.1.2.1∧(runM c s0 (es.take u.1)).told.length≤u.2.1.2.2)∧(u.2.1.1≤u.2.2.1∧u.2.1.2.1≤u.2.2.2.1∧u.2.1.2.2≤u.2.2.2.2))
  (fun u=>es.length-u.1) (0,(s0.wait.length,s0.done.length,s0.told.length),(m3,m4,m5))
  (by(refine cR [20,21,22,0,2,15,17,18,19] (by omega) (by repeat' (first| (with_reducible first|exact C1|refine C2 ?_ ?_)| ((with_reducible refine C0 ?_);exact CE (by omega) rfl)| ((with_reducible refine D0 ?_);first|exact CA rfl|refine CJ ?_)|fail)) ⟨⟨by simp,by simp[sgL],_,rfl,aP (GW fun x hx=>List.all_eq_true.1 (azD c).2 x hx)⟩,⟨by simp,by simp[sgL],_,rfl,aP (by repeat' (first| (with_reducible first|exact C3|refine C4 ?_ ?_)| ((with_reducible refine C0 ?_);exact CC)|fail))⟩,⟨by simp,by simp[sgL],_,rfl,aP (by unfold oIm;repeat' (first| (with_reducible first|exact C3|refine C4 ?_ ?_)| ((with_reducible refine C0 ?_);exact CQ (by omega) rfl rfl (by rfl) rfl)|fail))⟩,⟨by simp,by simp[sgL],_,rfl,bP (aG bF _) rfl rfl⟩,⟨by simp,by simp[sgL],_,rfl,bP (aG bF _) rfl rfl⟩,⟨by simp,by simp[sgL],_,rfl,bP (aG bF _) rfl rfl⟩,⟨by simp,by simp[sgL],_,rfl,bP (aG dZ _) rfl rfl⟩,⟨by simp,by simp[sgL],_,rfl,bP (aG dZ _) rfl rfl⟩,⟨by simp,by simp[sgL],_,rfl,bP (aG dZ _) rfl rfl⟩,trivial⟩ (by simp[sgL]))) ⟨Nat.zero_le _,⟨Nat.le_refl _,Nat.le_refl _,Nat.le_refl _⟩,hm.2.2.2⟩ ?_
 rintro⟨k,⟨c3,c4,c5⟩,⟨m3,m4,m5⟩⟩ ⟨hk,hcc,hmm⟩ KL hKL
 dsimp only at hk hcc hmm
 have hs:=hSok k hk
 have hstep:=fun hlt=>av6 (c:=c) (s:=s0) (l:=es) (k:=k) hlt
 have hw0:=hSw k
 generalize hS:runM c s0 (es.take k)=s at*
 have hlens:=hs.lens hb
 have hcl:s.words.length≤s0.words.length∧s.holds.length≤s0.holds.length∧s.asked.length≤s0.asked.length∧s.wait.length≤c3∧s.done.length≤c4∧s.told.length≤c5:=by
  rw[hs.atm.wl,hs0.atm.wl,hs.atm.hl,hs0.atm.hl,hs.JI,hs0.JI];exact⟨Nat.le_refl _,Nat.le_refl _,Nat.le_refl _,hcc⟩
 by_cases hlt:k<n
 ·have hw1:=hw0 hlt
  have hs2:=hstep (by omega)
  have hsk:=G9 hb hs hw1
  repeat' (first| (with_reducible first| (refine hK _ _ _ ?_;clear hK K)| (refine hA ?_;clear hA hB A B)| (refine hB ?_;clear hA hB A B)|refine Z1 ?_|refine Z2 ?_|refine Z3 fun KB hKB=> ?_|refine Z4 (by omega) ?_)| (first| (with_reducible first|refine Y2 fun K hK=> ?_|refine Y3 fun A B hA hB=> ?_)| (refine axC (c:=c) (s:=s) (e:=es.getD k default) hcf hp3 (hs.fit hb) (azA hcl rfl rfl rfl rfl rfl rfl trivial trivial trivial trivial trivial trivial) ?_)| (refine awO hb hs hw1 hcl hmm (by omega) (by simp) rfl rfl rfl rfl rfl rfl rfl (fun c3' c4' c5' m3' m4' m5' q1 q2=> ?_)))<;>(simp only[go_sem,hw1];try simp (disch:=omega) only[Iw])| ((with_reducible refine Y0 ?_);simp only[AQ.then,AQ.blk])|refine⟨by omega,?_⟩| (with_reducible refine hKB _ _ _ ?_)|fail)
  refine hKL _ _ _ (k+1,(c3',c4',c5'),(m3',m4',m5')) (by omega) ?_ ⟨by dsimp only;omega,by dsimp only;rw[hs2];exact q1,q2⟩ (by dsimp only;omega)
  dsimp only
  rw[hs2]
  have hl1:(lS c s (es.getD k default)).words.length=s.words.length:=by rw[hs.atm.wl,hsk.atm.wl]
  have hl2:(lS c s (es.getD k default)).holds.length=s.holds.length:=by rw[hs.atm.hl,hsk.atm.hl]
  have hl3:(lS c s (es.getD k default)).asked.length=s.asked.length:=by rw[hs.JI,hsk.JI]
  (refine cR [44,45,46,0,2,15,17,18,19] (by omega) (by repeat' (first| (with_reducible first|exact C1|refine C2 ?_ ?_)| ((with_reducible refine C0 ?_);exact CE (by omega) rfl)| ((with_reducible refine D0 ?_);first|exact CA rfl|refine CJ ?_)|fail)) ⟨⟨by simp,by simp[sgL],_,rfl,aP (GW fun x hx=>List.all_eq_true.1 (azD c).2 x hx)⟩,⟨by simp,by simp[sgL],_,rfl,aP (by repeat' (first| (with_reducible first|exact C3|refine C4 ?_ ?_)| ((with_reducible refine C0 ?_);exact CC)|fail))⟩,⟨by simp,by simp[sgL],_,rfl,aP (by unfold oIm;repeat' (first| (with_reducible first|exact C3|refine C4 ?_ ?_)| ((with_reducible refine C0 ?_);exact CQ (by omega) rfl rfl (by rfl) rfl)|fail))⟩,⟨by simp,by simp[sgL],_,rfl,bP (aG bF _) rfl rfl⟩,⟨by simp,by simp[sgL],_,rfl,bP (aG bF _) rfl rfl⟩,⟨by simp,by simp[sgL],_,rfl,bP (aG bF _) rfl rfl⟩,⟨by simp,by simp[sgL],_,rfl,bP (aG dZ _) rfl rfl⟩,⟨by simp,by simp[sgL],_,rfl,bP (aG dZ _) rfl rfl⟩,⟨by simp,by simp[sgL],_,rfl,bP (aG dZ _) rfl rfl⟩,trivial⟩ (by simp[sgL]))
 have hkn:k=n:=by omega
 subst hkn
 by_cases hkl:k=es.length
 ·repeat' (first| (with_reducible first| (refine hK _ _ _ ?_;clear hK K)| (refine hB ?_;clear hA hB A B)|refine Z1 ?_|refine Z5 (by omega) ?_)| (with_reducible first|refine Y2 fun K hK=> ?_|refine Y3 fun A B hA hB=> ?_)<;>(simp only[go_sem])| ((with_reducible refine Y9 ?_);try simp only[AQ.then,AQ.blk,reduceIte,Nat.reduceEqDiff])|fail)
  refine hQX _ _ _ ?_
  refine aM.aqB 0 (en [(8,.one (.c (.fQ (eSt s)))),(6,dP 6 2),(2,dS (es.map eEv))]) (hp [(2,⟨6,1,[[.osl 0 0 0 0 0,.osl 0 0 0 0 0,.osl 0 0 0 0 0,.osl 0 0 0 0 0,.osl 0 0 0 0 0,.osl 0 0 0 0 0]]⟩)]) ?_ ?_
  ·refine cR [2] (by omega) (oF (oF (oF K6 (aE rfl)) (DG (by omega) rfl)) (ay3 (σ:=id) (nh:=0) (azX s).2 (azA hcl rfl rfl rfl rfl rfl rfl (by simp) (by simp) (by simp) (by simp) (by simp) (by simp)) (by simp) rfl rfl rfl)) ?_ (by simp[sgL])
   exact⟨⟨by omega,by simp[sgL],_,rfl,aP (by repeat' (first| (with_reducible first|exact C3|refine C4 ?_ ?_)| ((with_reducible refine C0 ?_);exact CC)|fail))⟩,trivial⟩
  subst hkl
  repeat' (first| (with_reducible first| (refine hK _ _ _ ?_;clear hK K)|refine Z1 ?_)| (first| (with_reducible refine Y2 fun K hK=> ?_)| (refine CM hb hs (fun n0 n1 n2 n3 az7 az8 hn=> ?_)))<;>(simp only[go_sem])| ((with_reducible refine Y8 ?_);try simp only[AQ.then,AQ.blk,reduceIte,Nat.reduceEqDiff])|fail)
  exact V4 hQ (.tup [.agg (eSt s),.c (cI es.length)]) _ rfl (ay7 (ayY (azA ⟨Nat.le_refl _,Nat.le_refl _,Nat.le_refl _,Nat.le_refl _,Nat.le_refl _,Nat.le_refl _⟩ rfl rfl rfl rfl rfl rfl trivial trivial trivial trivial trivial trivial)) (azN (bB rfl))) rfl (by rw[hS])
 ·have hbad:=hSb (by omega)
  rw[hS] at hbad
  refine aM.aqB 0 (en [(25,dI k),(24,dI es.length),(23,dS (es.map eEv)),(8,.one (.c (.fQ (eSt s)))),(6,dP 6 2),(3,.one (.c (.fQ (cU c)))),(2,dS (es.map eEv))]) (hp [(2,⟨6,1,[[.osl 0 0 0 0 0,.osl 0 0 0 0 0,.osl 0 0 0 0 0,.osl 0 0 0 0 0,.osl 0 0 0 0 0,.osl 0 0 0 0 0]]⟩)]) ?_ ?_
  ·refine cR [2] (by omega) (oF (oF (oF (oF (oF (oF (oF K6 (aE rfl)) (aeE (azD c).2 (by simp) rfl rfl rfl)) (DG (by omega) rfl)) (ay3 (σ:=id) (nh:=0) (azX s).2 (azA hcl rfl rfl rfl rfl rfl rfl (by simp) (by simp) (by simp) (by simp) (by simp) (by simp)) (by simp) rfl rfl rfl)) (aE rfl)) (aE rfl)) (aE rfl)) ?_ (by simp[sgL])
   exact⟨⟨by omega,by simp[sgL],_,rfl,aP (by repeat' (first| (with_reducible first|exact C3|refine C4 ?_ ?_)| ((with_reducible refine C0 ?_);exact CC)|fail))⟩,trivial⟩
  repeat' (first| (with_reducible first| (refine hK _ _ _ ?_;clear hK K)| (refine hA ?_;clear hA hB A B)|refine Z1 ?_|refine Z2 ?_|refine Z3 fun KB hKB=> ?_|refine Z4 (by omega) ?_)| (first| (with_reducible first|refine Y2 fun K hK=> ?_|refine Y3 fun A B hA hB=> ?_)| (refine axC (c:=c) (s:=s) (e:=es.getD k default) hcf hp3 (hs.fit hb) (GW fun x hx=>List.all_eq_true.1 (azX s).2 x hx) ?_)| (refine CM hb hs (fun n0 n1 n2 n3 az7 az8 hn=> ?_)))<;>(simp only[go_sem])| ((with_reducible refine Y8 ?_);try simp only[AQ.then,AQ.blk,reduceIte,Nat.reduceEqDiff])|refine⟨by omega,?_⟩|fail)
  exact V4 hQ (.tup [.agg (eSt s),.c (cI k)]) _ rfl (ay7 (ayY (azA ⟨Nat.le_refl _,Nat.le_refl _,Nat.le_refl _,Nat.le_refl _,Nat.le_refl _,Nat.le_refl _⟩ rfl rfl rfl rfl rfl rfl trivial trivial trivial trivial trivial trivial)) (azN (bB rfl))) rfl (by rw[hS])
theorem aQT {c:Cfg} {es:List Ev} {s:TSt} (hb:aQ c) (hcf:jO c) (hs:BA c s) (hlen:es.length≤200) (h:K (.tup [.agg (eSt (runM c s (es.take (b9 c s es)))),.c (cI (b9 c s es))]) H nx):aB Tryz.prog auW [dA (cU c),dA (eSt s),dS (es.map eEv)] H nx K:=
 (aRE c es hb hcf s hs (fun h=>aPH hb hcf hs h) hlen).fresh rfl fun r hr=>hr▸h
end
end Go.Proofs.YtegiblhkjfiooaaGreat
end
section
namespace Go.Proofs.YtegiblhkjfiooaaGreat
open Go Go.AM
set_option maxRecDepth 100000
def aNY:AC:=
 (.seq (.region [rq 0 3 (.box true (.tm 0)),
 rq 1 4 (.box true (.tm 1)),
 rq 2 5 (.box true (.tm 2)),
 rq 3 6 (.move (ki 0))] 4 [3,4,5])
 (.seq (.seq (.region [rq 0 7 (.load 3 true (.tm 3)),
 rq 1 8 (.load 6 true (.tm 4)),
 rq 2 9 (.call au7 [(.tm 7),(.tm 8)]),
 rq 3 10 (.un .not (.tm 9))] 4 [3,4,5,10])
 (.cond (.tm 10)
 (.seq (.region [rq 0 6 (.move (ki 1))] 1 [6])
 .ret)
 .skip))
 (.seq (.region [rq 0 11 (.load 3 true (.tm 3)),
 rq 1 12 (.load 6 true (.tm 4)),
 rq 2 13 (.load 3 true (.tm 5)),
 rq 3 14 (.call auN [(.tm 11),(.tm 12),(.tm 13)]),
 RM 4 6 14] 5 [6])
 .ret)))
def aQ8:List Cert:=[⟨[],[3,4,5]⟩,⟨[],[3,4,5,10]⟩,⟨[],[6]⟩,⟨[],[6]⟩]
def aON:List aW:=[.tm 6]
theorem aQW:aO Tryz.prog Tryz.f44 aQ8=some (aNY,aON):=by kernel_rfl
theorem aQ6:aN Tryz.prog aNE Tryz.f44 aNY aON:=
 aN.mk Tryz.func44 (by kernel_rfl) aQW
end Go.Proofs.YtegiblhkjfiooaaGreat
end
section
namespace Go.AM
structure aTQ (s:TSt):Prop where
 words:s.words.length<2^20
 holds:s.holds.length<2^20
 asked:s.asked.length<2^20
 wait:s.wait.length<2^20
 done:s.done.length<2^20
 told:s.told.length<2^20
 data: ∀j∈s.wait++s.done++s.told,j.rsp.data.length<2^20
theorem BA.aUG {c:Cfg} {s:TSt} (hb:aQ c) (hs:BA c s):aTQ s:=by
 have h:=hs.lens hb
 exact⟨by rw[hs.atm.wl];decide,by rw[hs.atm.hl];decide,by rw[hs.JI];decide,by omega,by omega,by omega,hs.ar7⟩
theorem aUD {c:Cfg} {s:TSt} {e:Ev}:0≤X6 c s e∧X6 c s e≤6:=by
 unfold X6
 repeat' split
 all_goals omega
def InA (asked:List Int) (j:Job):Prop:=(0≤j.who∧j.who≤2)∧0≤j.n∧j.n<asked.getD j.who.toNat default
def as5 (c:Cfg) (j:Job):Prop:=pA j.rsp∧j.rsp.id=(bT c j.who j.n).id
def aTF (c:Cfg) (asked:List Int):Prop:=∀k,k<3→0≤asked.getD k default∧asked.getD k default≤(c.cP.getD k default).length
noncomputable def tlB (c:Cfg) (s:TSt):Bool:=@decide (aQ c∧BA c s) (Classical.propDecidable _)
theorem aTX {c:Cfg} {s:TSt} (hb:aQ c) (h:BA c s):tlB c s=true:=by simp[tlB,h,hb]
theorem aOH {c:Cfg} {s:TSt} (h: ¬(aQ c∧BA c s)):tlB c s=false:=by simp[tlB,h]
theorem zG {l:List Job} (h:kW l):(l.map key).Nodup:=by
 refine List.pairwise_map.2 (h.imp ?_)
 intro a b hab he
 rw[qL] at hab
 simp only[key,Prod.mk.injEq] at he
 omega
theorem aUA {c:Cfg} {s:TSt} (h1:JS s.words s.holds) (h2:s.asked.length=3) (h3:aTF c s.asked) (h4:kW s.wait) (h5:kW s.done) (h6: ∀j∈s.wait++s.done++s.told,InA s.asked j) (h7:(keys s).Nodup)
 (h8:(s.wait.length:Int)+s.done.length+s.told.length=s.asked.getD 0 default+s.asked.getD 1 default+s.asked.getD 2 default) (h9: ∀j∈s.wait,j.rsp=oW) (h10: ∀j∈s.done++s.told,as5 c j):BA c s:=
 ⟨⟨by have:=h1.1.1;omega,h1.1.2,by have:=h1.2.1;omega,h1.2.2⟩,h2,h3,h4,h5,fun p hp=>by
   obtain⟨j,hj,rfl⟩:=List.mem_map.1 hp
   exact h6 j hj,h7,h8,h9,h10⟩
theorem aS8 {w d t:List Job} (hw:kW w) (hd:kW d) (ht:(t.map key).Nodup) (h1: ∀j∈t,key j∉w.map key∧key j∉d.map key) (h2: ∀j∈d,key j∉w.map key):((w++d++t).map key).Nodup:=by
 rw[List.map_append,List.map_append,List.nodup_append,List.nodup_append]
 refine⟨⟨zG hw,zG hd,fun a ha b hb he=> ?_⟩,ht,fun a ha b hb he=> ?_⟩
 ·obtain⟨j,hj,rfl⟩:=List.mem_map.1 hb
  exact h2 j hj (he▸ha)
 ·obtain⟨j,hj,rfl⟩:=List.mem_map.1 hb
  rcases List.mem_append.1 ha with ha|ha
  ·exact(h1 j hj).1 (he▸ha)
  ·exact(h1 j hj).2 (he▸ha)
theorem ZP {l:List Job} {who n:Int}:0≤bK (iM who n) l↔(who,n)∈l.map key:=by
 rw[cH,List.mem_map]
 refine⟨fun⟨x,hx,h⟩=>⟨x,hx,?_⟩,fun⟨x,hx,h⟩=>⟨x,hx,?_⟩⟩
 ·have:=of_decide_eq_true h;simp[key,this.1,this.2]
 ·simp only[key,Prod.mk.injEq] at h;exact decide_eq_true h
theorem BA.apart {c:Cfg} {s:TSt} (h:BA c s):(s.told.map key).Nodup∧(∀j∈s.told,key j∉s.wait.map key∧key j∉s.done.map key)∧(∀j∈s.done,key j∉s.wait.map key):=by
 have hn:=h.nodup
 unfold keys at hn
 rw[List.map_append,List.map_append,List.nodup_append,List.nodup_append] at hn
 obtain⟨⟨h1,h2,h3⟩,h4,h5⟩:=hn
 refine⟨h4,fun j hj=>⟨fun hm=> ?_,fun hm=> ?_⟩,fun j hj hm=> ?_⟩
 ·exact h5 _ (List.mem_append_left _ hm) _ (List.mem_map_of_mem hj) rfl
 ·exact h5 _ (List.mem_append_right _ hm) _ (List.mem_map_of_mem hj) rfl
 ·exact h3 _ hm _ (List.mem_map_of_mem hj) rfl
structure aPN (c:Cfg) (asked:List Int) (l:List Job) (done:Bool):Prop where
 inA: ∀j∈l,InA asked j
 sorted:kW l
 rsp: ∀j∈l,if done then as5 c j else j.rsp=oW
noncomputable def aPK (c:Cfg) (asked:List Int) (l:List Job) (done:Bool):Bool:=@decide (aPN c asked l done) (Classical.propDecidable _)
theorem aQD {c:Cfg} {asked:List Int} {l:List Job} {done:Bool} (h:aPN c asked l done):aPK c asked l done=true:=by simp[aPK,h]
theorem aSY {c:Cfg} {asked:List Int} {l:List Job} {done:Bool} (h: ¬aPN c asked l done):aPK c asked l done=false:=by simp[aPK,h]
structure aSQ (c:Cfg) (s:TSt):Prop where
 inA: ∀j∈s.told,InA s.asked j
 once:(s.told.map key).Nodup
 rsp: ∀j∈s.told,as5 c j
noncomputable def aRF (c:Cfg) (s:TSt):Bool:=@decide (aSQ c s) (Classical.propDecidable _)
theorem aTM {c:Cfg} {s:TSt} (h:aSQ c s):aRF c s=true:=by simp[aRF,h]
theorem aTL {c:Cfg} {s:TSt} (h: ¬aSQ c s):aRF c s=false:=by simp[aRF,h]
theorem aTG {c:Cfg} {s:TSt} (h1:JS s.words s.holds) (h2:s.asked.length=3) (h3:aTF c s.asked) (h4:aPN c s.asked s.wait false) (h5:aPN c s.asked s.done true) (h6:aSQ c s)
 (h8:(s.wait.length:Int)+s.done.length+s.told.length=s.asked.getD 0 default+s.asked.getD 1 default+s.asked.getD 2 default) (h7: ∀j∈s.told,key j∉s.wait.map key∧key j∉s.done.map key) (h9: ∀j∈s.done,key j∉s.wait.map key):BA c s:=by
 refine aUA h1 h2 h3 h4.sorted h5.sorted (fun j hj=> ?_) (aS8 h4.sorted h5.sorted h6.once h7 h9) h8 (fun j hj=>by simpa using h4.rsp j hj) fun j hj=> ?_
 ·simp only[List.mem_append] at hj
  rcases hj with(hj|hj)|hj
  ·exact h4.inA j hj
  ·exact h5.inA j hj
  ·exact h6.inA j hj
 ·rcases List.mem_append.1 hj with hj|hj
  ·have:=h5.rsp j hj
   rwa [if_pos rfl] at this
  ·exact h6.rsp j hj
theorem BA.inA {c:Cfg} {s:TSt} (h:BA c s): ∀j∈s.wait++s.done++s.told,InA s.asked j:=fun j hj=>h.ab8 (key j) (List.mem_map_of_mem hj)
theorem BA.aUL {c:Cfg} {s:TSt} (h:BA c s):aPN c s.asked s.wait false:=⟨fun j hj=>h.inA j (by simp[hj]),h.NR,fun j hj=>by simpa using h.P4 j hj⟩
theorem BA.aUM {c:Cfg} {s:TSt} (h:BA c s):aPN c s.asked s.done true:=⟨fun j hj=>h.inA j (by simp[hj]),h.NW,fun j hj=>by rw[if_pos rfl];exact h.R8 j (by simp[hj])⟩
theorem BA.aUN {c:Cfg} {s:TSt} (h:BA c s):aSQ c s:=⟨fun j hj=>h.inA j (by simp[hj]),h.apart.1,fun j hj=>h.R8 j (by simp[hj])⟩
theorem aEA {l:List Int} {lo up:Int} (h: ∀i,i<l.length→lo≤l.getD i default∧l.getD i default≤up):All l lo up:=fun x hx=>by
 obtain⟨i,hi,rfl⟩:=List.mem_iff_getElem.1 hx
 simpa [List.getD,hi] using h i hi
theorem aj1 {l:List Int} {lo up:Int} (h:All l lo up) {i:Nat} (hi:i<l.length):lo≤l.getD i default∧l.getD i default≤up:=h _ (by simp[List.getD,hi])
theorem aKJ {α:Type} [Inhabited α] {l:List α} {P:α→Prop} (h: ∀i,i<l.length→P (l.getD i default)): ∀x∈l,P x:=fun x hx=>by
 obtain⟨i,hi,rfl⟩:=List.mem_iff_getElem.1 hx
 simpa [List.getD,hi] using h i hi
end Go.AM
end
section
namespace Go.Proofs.YtegiblhkjfiooaaGreat
open Go Go.AM
set_option maxRecDepth 100000
set_option maxHeartbeats 8000000
def stN:TSt:=⟨[],[],[],[],[],[]⟩
section
variable {H : aA} {nx : Nat} {K : D → aA → Nat → Prop}
theorem aR3 (c:Cfg) (s:TSt) (e:Ev) (hb:aQ c) (hcf:jO c) (hs:BA c s):aB Tryz.prog aNE [dA (cU c),dA (eSt s),dA (eEv e)] .nil 0 fun rr _ _=>rr.plain=true∧rr=dI (X6 c s e):=by
 refine aQ6 rfl fun Q hQ=> ?_
 unfold aNY
 obtain⟨hp3,hp12⟩:=hC hb
 repeat' (first| (with_reducible first| (refine hK _ _ _ ?_;clear hK K)| (refine hB ?_;clear hA hB A B)|refine Z1 ?_|refine Z2 ?_)| (first| (with_reducible first|refine Y2 fun K hK=> ?_|refine Y3 fun A B hA hB=> ?_)| (with_reducible refine aPH hb hcf hs ?_)| (refine axC (c:=c) (s:=s) (e:=e) hcf hp3 (hs.fit hb) (aE rfl) ?_))<;>(simp only[go_sem])| ((with_reducible refine Y8 ?_);try simp only[AQ.then,AQ.blk,reduceIte,Nat.reduceEqDiff])|fail)
 all_goals exact aZ hQ _ rfl rfl rfl
theorem aSL {c:Cfg} {s:TSt} {e:Ev} (hb:aQ c) (hcf:jO c) (hs:BA c s) (h:K (dI (X6 c s e)) H nx):aB Tryz.prog aNE [dA (cU c),dA (eSt s),dA (eEv e)] H nx K:=
 (aR3 c s e hb hcf hs).pure rfl (aI ⟨aE rfl,aE rfl,aE rfl,trivial⟩) (fun r hr=>hr▸h)
theorem aSA (c:Cfg) (s:TSt) (hb: ¬aQ c) (hcf:jO c):aB Tryz.prog au7 [dA (cU c),dA (eSt s)] .nil 0 fun rr _ _=>rr.plain=true∧rr=dB false:=by
 refine ayK rfl fun Q hQ=> ?_
 unfold av2
 repeat' (first| (with_reducible first| (refine hK _ _ _ ?_;clear hK K)|refine Z1 ?_)| (first| (with_reducible refine Y2 fun K hK=> ?_)| (refine W6 hcf ?_))<;>(simp only[go_sem,eq_false hb])| ((with_reducible refine Y8 ?_);try simp only[AQ.then,AQ.blk,reduceIte,Nat.reduceEqDiff])|fail)
 exact aZ hQ (dB false) rfl rfl rfl
theorem aSM {c:Cfg} {s:TSt} (hb: ¬aQ c) (hcf:jO c) (h:K (dB false) H nx):aB Tryz.prog au7 [dA (cU c),dA (eSt s)] H nx K:=
 (aSA c s hb hcf).pure rfl (aI ⟨aE rfl,aE rfl,trivial⟩) fun r hr=>hr▸h
theorem aRG (c:Cfg) (s:TSt) (es:List Ev) (hb: ¬aQ c) (hcf:jO c):
 aB Tryz.prog auW [dA (cU c),dA (eSt s),dS (es.map eEv)] .nil 0 fun r _ n=>n=0∧r.imm=true∧r= .tup [.agg (eSt stN),.c (cI (-1))]:=by
 refine axV rfl fun Q hQ=> ?_
 unfold avV
 repeat' (first| (with_reducible first| (refine hK _ _ _ ?_;clear hK K)| (refine hA ?_;clear hA hB A B)|refine Z1 ?_)| (first| (with_reducible first|refine Y2 fun K hK=> ?_|refine Y3 fun A B hA hB=> ?_)| (refine aSM hb hcf ?_))<;>(simp only[go_sem])| ((with_reducible refine Y8 ?_);try simp only[AQ.then,AQ.blk,reduceIte,Nat.reduceEqDiff])|fail)
 exact V4 hQ (.tup [.agg (eSt stN),.c (cI (-1))]) _ rfl (ay7 (ayY (aH xG (aH xG (aH xG (aH xG (aH xG (aH xG eP))))))) (azN (bB rfl))) rfl rfl
theorem aRN {c:Cfg} {s:TSt} {es:List Ev} (hb: ¬aQ c) (hcf:jO c) (h:K (.tup [.agg (eSt stN),.c (cI (-1))]) H nx):aB Tryz.prog auW [dA (cU c),dA (eSt s),dS (es.map eEv)] H nx K:=
 (aRG c s es hb hcf).fresh rfl fun r hr=>hr▸h
end
end Go.Proofs.YtegiblhkjfiooaaGreat
end
section
namespace Go.Proofs.YtegiblhkjfiooaaGreat
open Go Go.AM
set_option maxRecDepth 100000
def d7:AC:=
 (.seq (.region [rq 0 2 (.alloc [OZ,OZ,OZ]),
 rq 1 3 (.move (.kv (.slice none 0 0)))] 2 [0,2])
 (.seq (.region [RM 0 11 0,
 rq 1 12 (.call kN [(.tm 11)]),
 RM 2 4 12] 3 [2,4])
 (.seq (.region [RM 0 14 4,
 rq 1 15 (.call aNG [(.tm 14),(ki 60)]),
 RM 2 13 15,
 rq 3 16 (.ext (.tm 13) 0),
 rq 4 17 (.ext (.tm 13) 1),
 rq 5 18 (.ext (.tm 13) 2),
 rq 6 5 (.alloc [OZ,OZ,OZ]),
 rq 7 6 (.alloc [OZ,OZ,OZ,OZ,OZ,OZ]),
 rn 8 (.store 3 true (.tm 5) (.tm 16)),
 rn 9 (.store 6 true (.tm 6) (.tm 17)),
 RM 10 7 18] 11 [2,4,5,6,7])
 (.seq (.seq (.region [RM 0 19 4,
 rq 1 20 (.call aD [(.tm 19),(ki 5)])] 2 [2,4,5,6,7,20])
 (.block 0
 (.seq (.region [rq 0 22 (.bin .eql (.tm 20) (ki 0)),
 RM 1 21 22] 2 [2,4,5,6,7,20,21])
 (.cond (.tm 21)
 (.region [RM 0 23 7,
 RM 1 24 4,
 rq 2 25 (.load 3 true (.tm 5)),
 rq 3 26 (.load 6 true (.tm 6)),
 rq 4 27 (.call b7 [(.tm 24),(.tm 25),(.tm 26)]),
 rq 5 28 (.bC 3 1 [VZ,VZ,VZ] [(0,3,(.tm 27))]),
 rq 6 29 (.append 3 (.tm 23) (.tm 28)),
 RM 7 7 29] 8 [2,4,5,7])
 (.seq (.region [rq 0 31 (.bin .eql (.tm 20) (ki 1)),
 RM 1 30 31] 2 [2,4,5,7,20,30])
 (.cond (.tm 30)
 (.seq (.region [RM 0 32 7,
 rq 1 33 (.len false (.tm 32)),
 rq 2 34 (.bin .gtr (.tm 33) (ki 1))] 3 [2,4,5,7,34])
 (.cond (.tm 34)
 (.seq (.region [RM 0 35 4,
 RM 1 36 7,
 rq 2 37 (.len false (.tm 36)),
 rq 3 38 (.bin .sub (.tm 37) (ki 1)),
 rq 4 39 (.call aD [(.tm 35),(.tm 38)]),
 RM 5 8 39] 6 [2,4,5,7,8])
 (.seq (.region [RM 0 40 7,
 RM 1 41 8,
 rq 2 42 (.idx 3 (.tm 40) (.tm 41)),
 rq 3 43 (.load 3 true (.tm 42)),
 rq 4 9 (.alloc [VZ,VZ,VZ]),
 rn 5 (.store 3 true (.tm 9) (.tm 43))] 6 [2,4,5,7,8,9])
 (.seq (.region [RM 0 44 7,
 RM 1 45 8,
 RM 2 46 7,
 RM 3 47 8,
 rq 4 48 (.bin .add (.tm 47) (ki 1)),
 rq 5 49 (.idx 3 (.tm 46) (.tm 48)),
 rq 6 50 (.load 3 true (.tm 49)),
 rq 7 51 (.idx 3 (.tm 44) (.tm 45)),
 rn 8 (.store 3 true (.tm 51) (.tm 50))] 9 [2,4,5,7,8,9])
 (.region [RM 0 52 7,
 RM 1 53 8,
 rq 2 54 (.bin .add (.tm 53) (ki 1)),
 rq 3 55 (.load 3 true (.tm 9)),
 rq 4 56 (.idx 3 (.tm 52) (.tm 54)),
 rn 5 (.store 3 true (.tm 56) (.tm 55))] 6 [2,4,5,7]))))
 .skip))
 (.seq (.region [rq 0 58 (.bin .eql (.tm 20) (ki 2)),
 RM 1 57 58] 2 [2,4,5,7,57])
 (.cond (.tm 57)
 (.seq (.region [RM 0 59 7,
 rq 1 60 (.len false (.tm 59)),
 rq 2 61 (.bin .gtr (.tm 60) (ki 0))] 3 [2,4,5,7,61])
 (.cond (.tm 61)
 (.seq (.region [RM 0 62 4,
 RM 1 63 7,
 rq 2 64 (.len false (.tm 63)),
 rq 3 65 (.call aD [(.tm 62),(.tm 64)]),
 RM 4 10 65] 5 [2,4,5,7,10])
 (.region [rq 0 66 (.bC 3 0 [VZ,VZ,VZ] []),
 RM 1 67 7,
 RM 2 68 10,
 rq 3 69 (.slc 3 (.tm 67) none (some (.tm 68)) none),
 RM 5 71 7,
 RM 6 72 10,
 rq 7 73 (.bin .add (.tm 72) (ki 1)),
 rq 8 74 (.slc 3 (.tm 71) (some (.tm 73)) none none),
 rq 4 70 (.append 3 (.tm 66) (.tm 69)),
 rq 9 75 (.append 3 (.tm 70) (.tm 74)),
 RM 10 7 75] 11 [2,4,5,7]))
 .skip))
 .skip))))))))
 (.seq (.seq (.region [RM 0 76 4,
 rq 1 77 (.call kE [(.tm 76),(ki 20)])] 2 [2,4,5,7,77])
 (.cond (.tm 77)
 (.region [RM 0 78 4,
 rq 1 79 (.call aNJ [(.tm 78),(ki 1)]),
 rn 2 (.store 3 true (.tm 5) (.tm 79))] 3 [2,5,7])
 .skip))
 (.seq (.region [rq 0 80 (.load 3 true (.tm 5)),
 RM 1 81 7,
 rn 2 (.store 3 true (.tm 2) (.tm 80)),
 RM 3 3 81] 4 [2,3])
 .ret))))))
def aOT:List Cert:=[⟨[],[0,2]⟩,⟨[],[2,4]⟩,⟨[],[2,4,5,6,7]⟩,⟨[],[2,4,5,6,7,20]⟩,⟨[],[2,4,5,6,7,20,21]⟩,⟨[],[2,4,5,7]⟩,⟨[],[2,4,5,7,20,30]⟩,⟨[],[2,4,5,7,34]⟩,⟨[],[2,4,5,7,8]⟩,⟨[],[2,4,5,7,8,9]⟩,⟨[],[2,4,5,7,8,9]⟩,⟨[],[2,4,5,7]⟩,⟨[],[2,4,5,7,57]⟩,⟨[],[2,4,5,7,61]⟩,⟨[],[2,4,5,7,10]⟩,⟨[cz 0,cz 1,cz 2,cz 3,cz 5,cz 6,cz 7,cz 8,cz 4,cz 9,cz 10],[2,4,5,7]⟩,⟨[],[2,4,5,7,77]⟩,⟨[],[2,5,7]⟩,⟨[],[2,3]⟩]
def aNI:List aW:=[.cell 2 3 true,.tm 3]
theorem aOR:aO Tryz.prog Tryz.f51 aOT=some (d7,aNI):=by kernel_rfl
def at4:AC:=
 (.seq (.region [rq 0 4 (.alloc [OZ,OZ,OZ])] 1 [0,1,4])
 (.seq (.region [RM 0 6 0,
 rq 1 7 (.call lJ [(.tm 6),(ki 6)]),
 rq 2 5 (.alloc [OZ,OZ,OZ]),
 rn 3 (.store 3 true (.tm 5) (.tm 7))] 4 [0,1,4,5])
 (.seq (.seq (.region [RM 0 8 0,
 RM 1 9 1,
 rq 2 10 (.call kE [(.tm 8),(.tm 9)])] 3 [0,4,5,10])
 (.cond (.tm 10)
 (.seq (.region [RM 0 11 0,
 rq 1 12 (.call aD [(.tm 11),(ki 5)])] 2 [0,4,5,12])
 (.block 0
 (.seq (.region [rq 0 25 (.bin .eql (.tm 12) (ki 0)),
 RM 1 24 25] 2 [0,4,5,12,24])
 (.cond (.tm 24)
 (.region [RM 0 26 0,
 rq 1 27 (.call tN [(.tm 26),(ki 1)]),
 RF 2 28 0 5,
 rn 3 (.store 1 false (.tm 28) (.tm 27))] 4 [4,5])
 (.seq (.region [rq 0 30 (.bin .eql (.tm 12) (ki 1)),
 RM 1 29 30] 2 [0,4,5,12,29])
 (.cond (.tm 29)
 (.region [RF 0 31 1 5,
 ⟨1,(some 32),.load 1 false (.tm 31),none,[4],[],true⟩,
 RM 2 33 0,
 rq 4 35 (.bC 1 2 [VZ] [(0,1,(.kv (.int .i64 (-1)))),(1,1,(ki 4))]),
 RM 5 36 0,
 ⟨3,(some 34),.call aD [(.tm 33),(ki 4)],none,[4],[1],false⟩,
 ⟨6,(some 37),.call aD [(.tm 36),(ki 2)],none,[4],[1],false⟩,
 rq 7 38 (.idx 1 (.tm 35) (.tm 37)),
 RL 8 39 38,
 rq 9 40 (.idx 1 (.tm 32) (.tm 34)),
 rn 10 (.store 1 false (.tm 40) (.tm 39))] 11 [4,5])
 (.seq (.region [rq 0 42 (.bin .eql (.tm 12) (ki 2)),
 RM 1 41 42] 2 [0,4,5,12,41])
 (.cond (.tm 41)
 (.region [RF 0 43 1 5,
 RL 1 44 43,
 rq 2 45 (.slc 1 (.tm 44) (some (ki 1)) none none),
 RF 3 46 1 5,
 rn 4 (.store 1 false (.tm 46) (.tm 45))] 5 [4,5])
 (.seq (.region [rq 0 48 (.bin .eql (.tm 12) (ki 3)),
 RM 1 47 48] 2 [0,4,5,47])
 (.cond (.tm 47)
 (.region [RF 0 49 2 5,
 RL 1 50 49,
 rq 2 51 (.slc 1 (.tm 50) (some (ki 1)) none none),
 RF 3 52 2 5,
 rn 4 (.store 1 false (.tm 52) (.tm 51))] 5 [4,5])
 (.region [RF 0 13 2 5,
 ⟨1,(some 14),.load 1 false (.tm 13),none,[8],[],true⟩,
 RF 2 15 2 5,
 ⟨3,(some 16),.load 1 false (.tm 15),none,[8],[],true⟩,
 rq 4 17 (.idx 1 (.tm 16) (ki 0)),
 ⟨5,(some 18),.load 1 false (.tm 17),none,[8],[],true⟩,
 RM 6 19 0,
 ⟨7,(some 20),.call tS [(.tm 19),(ki 1)],none,[],[1,3,5],false⟩,
 rq 8 21 (.bC 7 1 [VZ,VZ,VZ,VZ,(.v (.bool false)),OZ,OZ] [(0,7,(.tm 20))]),
 ⟨9,(some 22),.append 7 (.tm 18) (.tm 21),none,[],[1],false⟩,
 rq 10 23 (.idx 1 (.tm 14) (ki 0)),
 rn 11 (.store 1 false (.tm 23) (.tm 22))] 12 [4,5])))))))))))
 .skip))
 (.seq (.region [rq 0 53 (.load 3 true (.tm 5)),
 rn 1 (.store 3 true (.tm 4) (.tm 53))] 2 [4])
 .ret))))
def aPU:List Cert:=[⟨[],[0,1,4]⟩,⟨[],[0,1,4,5]⟩,⟨[],[0,4,5,10]⟩,⟨[],[0,4,5,12]⟩,⟨[],[0,4,5,12,24]⟩,⟨[],[4,5]⟩,⟨[],[0,4,5,12,29]⟩,⟨[cz 0,(1,[4],[],true),cz 2,cz 4,cz 5,(3,[4],[1],false),(6,[4],[1],false),cz 7,cz 8,cz 9,cz 10],[4,5]⟩,⟨[],[0,4,5,12,41]⟩,⟨[],[4,5]⟩,⟨[],[0,4,5,47]⟩,⟨[],[4,5]⟩,⟨[cz 0,(1,[8],[],true),cz 2,(3,[8],[],true),cz 4,(5,[8],[],true),cz 6,(7,[],[1,3,5],false),cz 8,(9,[],[1],false),cz 10,cz 11],[4,5]⟩,⟨[],[4]⟩]
def aOA:List aW:=[.cell 4 3 true]
theorem aPQ:aO Tryz.prog Tryz.f105 aPU=some (at4,aOA):=by kernel_rfl
end Go.Proofs.YtegiblhkjfiooaaGreat
end
