/- Texts laid together by a program: rules, contracts and the walk that leads to the law. -/
import Derived.Test.YtegiblhkjfiooaaGreatPk10
import Derived.Test.YtegiblhkjfiooaaGreatPk9
import Derived.Test.YtegiblhkjfiooaaGreatPk3
import Derived.Test.YtegiblhkjfiooaaGreatPk7
set_option linter.unusedVariables false
set_option linter.unusedSimpArgs false
set_option linter.unusedSectionVars false
section
namespace Go.Proofs.YtegiblhkjfiooaaGreat
open Go Go.AM
set_option maxRecDepth 100000
set_option maxHeartbeats 8000000
section
variable {H : aA} {nx : Nat} {K : D → aA → Nat → Prop}
theorem wM {c:Cfg} {s:TSt} {e:Ev} {c0 c1 c2 c3 c4 c5 m0 m1 m2 m3 m4 m5 i0 i1 i2 i3 i4 i5 i6:Nat} (hb:aY c) (hs:rL c s) (hwhy:yL c s e=0) (hc:s.words.length≤c0∧s.holds.length≤c1∧s.asked.length≤c2∧s.wait.length≤c3∧s.done.length≤c4∧s.told.length≤c5) (hm:c3≤m3∧c4≤m4∧c5≤m5)
 (hlt:i0<nx∧i1<nx∧i2<nx∧i3<nx∧i4<nx∧i5<nx∧i6<nx) (hd:[i0,i1,i2,i3,i4,i5,i6].Nodup) (h0:H i0=some ⟨6,1,[oIm i1 i2 i3 i4 i5 i6 c0 c1 c2 c3 c4 c5 s]⟩) (h1:H i1=some ⟨1,m0,s.words.map aE⟩) (h2:H i2=some ⟨1,m1,s.holds.map aE⟩) (h3:H i3=some ⟨1,m2,s.asked.map aE⟩) (h4:H i4=some ⟨5,m3,s.wait.map aK⟩) (h5:H i5=some ⟨5,m4,s.done.map aK⟩) (h6:H i6=some ⟨5,m5,s.told.map aK⟩)
 (h: ∀c3' c4' c5' m3' m4' m5',((bQ c s e).wait.length≤c3'∧(bQ c s e).done.length≤c4'∧(bQ c s e).told.length≤c5')→(c3'≤m3'∧c4'≤m4'∧c5'≤m5')→K (.tup []) ((((((((((H.set i0 ⟨6,1,[oIm i1 i2 i3 nx (nx+1) (nx+2) c0 c1 c2 c3' c4' c5' (bQ c s e)]⟩).set i1 ⟨1,m0,(bQ c s e).words.map aE⟩).set i2 ⟨1,m1,(bQ c s e).holds.map aE⟩).set i3 ⟨1,m2,(bQ c s e).asked.map aE⟩).del i4).del i5).del i6).set nx ⟨5,m3',(bQ c s e).wait.map aK⟩).set (nx+1) ⟨5,m4',(bQ c s e).done.map aK⟩).set (nx+2) ⟨5,m5',(bQ c s e).told.map aK⟩) (nx+3)):
 aB Tryz.prog jV [dA (cH c),dP 6 i0,dA (eEv e)] H nx K:=by
 refine(G9 c s e c0 c1 c2 c3 c4 c5 m0 m1 m2 m3 m4 m5 hb hs hwhy hc hm).x4 [i0,i1,i2,i3,i4,i5,i6] rfl ⟨aF rfl,AI (by simp) rfl,aF rfl,trivial⟩ ?_ ?_ ?_ hd fun r H' n' _ ⟨c3',c4',c5',m3',m4',m5',q1,q2,q3,q4,q5⟩=> ?_
 ·refine⟨⟨by simp,id,_,h0,aM ?_⟩,⟨by simp,id,_,h1,aO (aC aJ _) rfl rfl⟩,⟨by simp,id,_,h2,aO (aC aJ _) rfl rfl⟩,⟨by simp,id,_,h3,aO (aC aJ _) rfl rfl⟩,⟨by simp,id,_,h4,aO (aC aV _) rfl rfl⟩,⟨by simp,id,_,h5,aO (aC aV _) rfl rfl⟩,⟨by simp,id,_,h6,aO (aC aV _) rfl rfl⟩,trivial⟩
  unfold oIm
  exact aH (jU (by simp) rfl rfl rfl rfl) (aH (jU (by simp) rfl rfl rfl rfl) (aH (jU (by simp) rfl rfl rfl rfl) (aH (jU (by simp) rfl rfl rfl rfl) (aH (jU (by simp) rfl rfl rfl rfl) (aH (jU (by simp) rfl rfl rfl rfl) eR)))))
 ·exact hd
 ·intro x hx;simp only[List.mem_cons,List.not_mem_nil,or_false] at hx;omega
 ·have h:=h c3' c4' c5' m3' m4' m5' q1 q2
  subst q3;subst q4;subst q5
  generalize bQ c s e=S' at*
  have e0:bC.rn (tau 7 nx (nth [i0,i1,i2,i3,i4,i5,i6])) ⟨6,1,[oIm 1 2 3 7 8 9 c0 c1 c2 c3' c4' c5' S']⟩=⟨6,1,[oIm i1 i2 i3 nx (nx+1) (nx+2) c0 c1 c2 c3' c4' c5' S']⟩:=rfl
  have e1:back (tau 7 nx (nth [i0,i1,i2,i3,i4,i5,i6])) (hp [(0,⟨6,1,[oIm 1 2 3 7 8 9 c0 c1 c2 c3' c4' c5' S']⟩),(1,⟨1,m0,(S').words.map aE⟩),(2,⟨1,m1,(S').holds.map aE⟩),(3,⟨1,m2,(S').asked.map aE⟩),(7,⟨5,m3',(S').wait.map aK⟩),(8,⟨5,m4',(S').done.map aK⟩),(9,⟨5,m5',(S').told.map aK⟩)]) 10 H=((((((((((H.set i0 ⟨6,1,[oIm i1 i2 i3 nx (nx+1) (nx+2) c0 c1 c2 c3' c4' c5' S']⟩).set i1 ⟨1,m0,S'.words.map aE⟩).set i2 ⟨1,m1,S'.holds.map aE⟩).set i3 ⟨1,m2,S'.asked.map aE⟩).del i4).del i5).del i6).set nx ⟨5,m3',S'.wait.map aK⟩).set (nx+1) ⟨5,m4',S'.done.map aK⟩).set (nx+2) ⟨5,m5',S'.told.map aK⟩):=by
   simp only[back,hp,aA.set,aA.nil,Option.map_some,Option.map_none,e0,j8,sU,aA.dK,aA.pU,if_true,Nat.reduceEqDiff,if_false,reduceIte]
   rfl
  rw[←e1] at h
  exact h
theorem aeV {s:TSt} {H:aA} {F:Nat→Prop} {σ:Nat→Nat} {nh i1 i2 i3 i4 i5 i6 c0 c1 c2 c3 c4 c5 m0 m1 m2 m3 m4 m5:Nat} (hc:s.words.length≤c0∧s.holds.length≤c1∧s.asked.length≤c2∧s.wait.length≤c3∧s.done.length≤c4∧s.told.length≤c5) (h1:H i1=some ⟨1,m0,s.words.map aE⟩) (h2:H i2=some ⟨1,m1,s.holds.map aE⟩) (h3:H i3=some ⟨1,m2,s.asked.map aE⟩) (h4:H i4=some ⟨5,m3,s.wait.map aK⟩) (h5:H i5=some ⟨5,m4,s.done.map aK⟩) (h6:H i6=some ⟨5,m5,s.told.map aK⟩)
 (f1:F i1) (f2:F i2) (f3:F i3) (f4:F i4) (f5:F i5) (f6:F i6):CvL H F σ nh (eSt s) (oIm i1 i2 i3 i4 i5 i6 c0 c1 c2 c3 c4 c5 s):=by
 obtain⟨q1,q2,q3,q4,q5,q6⟩:=hc
 exact aH (bU aJ h1 rfl q1 f1) (aH (bU aJ h2 rfl q2 f2) (aH (bU aJ h3 rfl q3 f3) (aH (bU aV h4 rfl q4 f4) (aH (bU aV h5 rfl q5 f5) (aH (bU aV h6 rfl q6 f6) eR)))))
theorem apD {i0 i1 i2 i3 i4 i5 c0 c1 c2 c3 c4 c5:Nat} {s:TSt}:(oIm i0 i1 i2 i3 i4 i5 c0 c1 c2 c3 c4 c5 s).length=6:=rfl
theorem amE {i0 i1 i2 i3 i4 i5 c0 c1 c2 c3 c4 c5:Nat} {s:TSt}:(oIm i0 i1 i2 i3 i4 i5 c0 c1 c2 c3 c4 c5 s).take 6=oIm i0 i1 i2 i3 i4 i5 c0 c1 c2 c3 c4 c5 s:=rfl
theorem alO {i0 i1 i2 i3 i4 i5 c0 c1 c2 c3 c4 c5:Nat} {s:TSt}:(oIm i0 i1 i2 i3 i4 i5 c0 c1 c2 c3 c4 c5 s).drop 6=[]:=rfl
theorem ak8 {i0 i1 i2 i3 i4 i5 c0 c1 c2 c3 c4 c5 k:Nat} {s:TSt} {cs:List D1}:iX cs (k+1) (oIm i0 i1 i2 i3 i4 i5 c0 c1 c2 c3 c4 c5 s)=iX cs (k+1) [.osl 1 i0 0 s.words.length c0,.osl 1 i1 0 s.holds.length c1,.osl 1 i2 0 s.asked.length c2,.osl 5 i3 0 s.wait.length c3,.osl 5 i4 0 s.done.length c4,.osl 5 i5 0 s.told.length c5]:=rfl
attribute [go_sem] apD amE alO ak8
end
end Go.Proofs.YtegiblhkjfiooaaGreat
end
section
namespace Go.Proofs.YtegiblhkjfiooaaGreat
open Go Go.AM
set_option maxRecDepth 100000
set_option maxHeartbeats 8000000
section
variable {H : aA} {nx : Nat} {K : D → aA → Nat → Prop}
theorem RX:aB Tryz.prog mC [] (hp []) 0
 fun r H' n'=>n'=6∧H'=hp [(0,⟨1,64,st0.words.map aE⟩),(1,⟨1,6,st0.holds.map aE⟩),(2,⟨1,3,st0.asked.map aE⟩),(3,⟨5,0,[]⟩),(4,⟨5,0,[]⟩),(5,⟨5,0,[]⟩)]∧r=dA [.osl 1 0 0 64 64,.osl 1 1 0 6 6,.osl 1 2 0 3 3,.osl 5 3 0 0 0,.osl 5 4 0 0 0,.osl 5 5 0 0 0]:=by
 refine QO rfl fun Q hQ=> ?_
 unfold yO
 have hmn: ∀{H:aA} {nx:Nat} {K:D→aA→Nat→Prop},K (dA [.osl 1 nx 0 64 64,.osl 1 (nx+1) 0 6 6]) ((H.set nx ⟨1,64,st0.words.map aE⟩).set (nx+1) ⟨1,6,st0.holds.map aE⟩) (nx+2)→aB Tryz.prog kB [] H nx K:=fun h=>F7 h
 have ha:[[D1.v (Value.int IntKind.i64 0)],[D1.v (Value.int IntKind.i64 0)],[D1.v (Value.int IntKind.i64 0)]]=st0.asked.map aE:=rfl
 generalize st0=s0 at*
 refine aQ.C6 5 ?_
 refine aQ.C6 5 ?_
 refine aQ.C6 5 ?_
 repeat' (first| (with_reducible first| (refine hK _ _ _ ?_;clear hK K)|refine Z1 ?_)| (first| (with_reducible refine Y2 fun K hK=> ?_)| (refine hmn ?_))<;>(simp only[go_sem,ha])| ((with_reducible refine Y8 ?_);try simp only[AQ.then,AQ.blk,reduceIte,Nat.reduceEqDiff])|fail)
 (refine hQ _ _ _ _ _ 6 (dA [.osl 1 0 0 64 64,.osl 1 1 0 6 6,.osl 1 2 0 3 3,.osl 5 3 0 0 0,.osl 5 4 0 0 0,.osl 5 5 0 0 0]) (hp [(0,⟨1,64,s0.words.map aE⟩),(1,⟨1,6,s0.holds.map aE⟩),(2,⟨1,3,s0.asked.map aE⟩),(3,⟨5,0,[]⟩),(4,⟨5,0,[]⟩),(5,⟨5,0,[]⟩)]) _ _ (.inr rfl) rfl (cV [8,9,5,0,1,2] (by omega) (by repeat' (first| ((with_reducible refine C0 ?_);first|exact CC|exact CQ (by omega) rfl rfl (by rfl) rfl)| ((with_reducible refine D0 ?_);refine C9 ?_)|exact C3|refine C4 ?_ ?_|fail)) ⟨⟨by simp,by simp[sgL],_,rfl,aO (aC aJ _) rfl rfl⟩,⟨by simp,by simp[sgL],_,rfl,aO (aC aJ _) rfl rfl⟩,⟨by simp,by simp[sgL],_,rfl,aO (aC aJ _) rfl rfl⟩,⟨by simp,by simp[sgL],_,rfl,aN (fun r hr=>by simp at hr)⟩,⟨by simp,by simp[sgL],_,rfl,aN (fun r hr=>by simp at hr)⟩,⟨by simp,by simp[sgL],_,rfl,aN (fun r hr=>by simp at hr)⟩,trivial⟩ (by simp[sgL])) ?_)
 exact⟨rfl,rfl,rfl⟩
theorem F6 (h:K (dA [.osl 1 nx 0 64 64,.osl 1 (nx+1) 0 6 6,.osl 1 (nx+2) 0 3 3,.osl 5 (nx+3) 0 0 0,.osl 5 (nx+4) 0 0 0,.osl 5 (nx+5) 0 0 0]) ((((((H.set nx ⟨1,64,st0.words.map aE⟩).set (nx+1) ⟨1,6,st0.holds.map aE⟩).set (nx+2) ⟨1,3,st0.asked.map aE⟩).set (nx+3) ⟨5,0,[]⟩).set (nx+4) ⟨5,0,[]⟩).set (nx+5) ⟨5,0,[]⟩) (nx+6)):aB Tryz.prog mC [] H nx K:=by
 refine RX.x4 (l0:=[]) [] rfl trivial trivial (by simp) (by simp) (by simp) fun r H' n' _ ⟨q1,q2,q3⟩=> ?_
 subst q1;subst q2;subst q3
 generalize st0=s0 at*
 have e1:back (tau 0 nx (nth [])) (hp [(0,⟨1,64,s0.words.map aE⟩),(1,⟨1,6,s0.holds.map aE⟩),(2,⟨1,3,s0.asked.map aE⟩),(3,⟨5,0,[]⟩),(4,⟨5,0,[]⟩),(5,⟨5,0,[]⟩)]) 6 H=(((((H.set nx ⟨1,64,s0.words.map aE⟩).set (nx+1) ⟨1,6,s0.holds.map aE⟩).set (nx+2) ⟨1,3,s0.asked.map aE⟩).set (nx+3) ⟨5,0,[]⟩).set (nx+4) ⟨5,0,[]⟩).set (nx+5) ⟨5,0,[]⟩:=by
  have e0:bC.rn (tau 0 nx (nth [])) ⟨5,0,[]⟩=⟨5,0,[]⟩:=rfl
  simp[back,hp,aA.set,aA.nil,tau,nth,j8,aA.dK,aA.pU]
  rfl
 rw[←e1] at h
 exact h
theorem PO (c:Cfg) (es:List Ev) (hb:aY c) (hcf:kC c) (hlen:es.length≤200) (hpl:lJ c st0 es):
 aB Tryz.prog iE [dA (cH c),dS (es.map eEv)] .nil 0 fun r _ _=>r.plain=true∧r= .tup [.c (cI (-1)),.c (cI 0)]:=by
 have hS0: ∀{H:aA} {nx:Nat} {K:D→aA→Nat→Prop},K (dA [.osl 1 nx 0 64 64,.osl 1 (nx+1) 0 6 6,.osl 1 (nx+2) 0 3 3,.osl 5 (nx+3) 0 0 0,.osl 5 (nx+4) 0 0 0,.osl 5 (nx+5) 0 0 0]) ((((((H.set nx ⟨1,64,(runM c st0 (es.take 0)).words.map aE⟩).set (nx+1) ⟨1,6,(runM c st0 (es.take 0)).holds.map aE⟩).set (nx+2) ⟨1,3,(runM c st0 (es.take 0)).asked.map aE⟩).set (nx+3) ⟨5,0,[]⟩).set (nx+4) ⟨5,0,[]⟩).set (nx+5) ⟨5,0,[]⟩) (nx+6)→aB Tryz.prog mC [] H nx K:=fun h=>F6 h
 have hz3:(runM c st0 (es.take 0)).wait=[]:=rfl
 have hz4:(runM c st0 (es.take 0)).done=[]:=rfl
 have hz5:(runM c st0 (es.take 0)).told=[]:=rfl
 have hSok:=CZ hb (KG c) hpl
 have hSw:=fun k (hk:k<es.length)=>hpl k hk
 have hSt:=fun k (hk:k<es.length)=>uR (c:=c) (s:=st0) hk
 obtain⟨S,hS⟩: ∃S:Nat→TSt,S=fun k=>runM c st0 (es.take k):=⟨_,rfl⟩
 have hSe: ∀k,runM c st0 (es.take k)=S k:=fun k=>by rw[hS]
 simp only[hSe] at*
 clear hS hSe
 obtain⟨hp3,hp12⟩:=i7 hb
 have hl0:=(hSok 0 (by omega)).atm.wl
 have hl1:=(hSok 0 (by omega)).atm.hl
 have hl2:=(hSok 0 (by omega)).mF
 refine BW rfl fun Q hQ=> ?_
 unfold oE
 repeat' (first| (with_reducible first| (refine hK _ _ _ ?_;clear hK K)| (refine hB ?_;clear hA hB A B)|refine Z1 ?_|refine Z2 ?_|refine Z3 fun KB hKB=> ?_|refine Z5 (by omega) ?_)| (first| (with_reducible first|refine Y2 fun K hK=> ?_|refine Y3 fun A B hA hB=> ?_)| (refine EG hcf ?_)| (refine hS0 ?_))<;>(simp only[go_sem,eq_true hb])|fail)
 (have hKX:=hKB;clear hKB)
 refine aQ.wI 7 (β:=Nat×(Nat×Nat×Nat)×(Nat×Nat×Nat))
  (fun b u=>en [(21,dI u.1),(20,dI es.length),(19,dS (es.map eEv)),(6,dP 6 b),(2,.one (.c (.dN (cH c))))])
  (fun b u=>hp [(b,⟨6,1,[oIm (b+1) (b+2) (b+3) (b+4) (b+5) (b+6) 64 6 3 u.2.1.1 u.2.1.2.1 u.2.1.2.2 (S u.1)]⟩),(b+1,⟨1,64,(S u.1).words.map aE⟩),(b+2,⟨1,6,(S u.1).holds.map aE⟩),(b+3,⟨1,3,(S u.1).asked.map aE⟩),(b+4,⟨5,u.2.2.1,(S u.1).wait.map aK⟩),(b+5,⟨5,u.2.2.2.1,(S u.1).done.map aK⟩),(b+6,⟨5,u.2.2.2.2,(S u.1).told.map aK⟩)])
  (fun u=>u.1≤es.length∧((S u.1).wait.length≤u.2.1.1∧(S u.1).done.length≤u.2.1.2.1∧(S u.1).told.length≤u.2.1.2.2)∧(u.2.1.1≤u.2.2.1∧u.2.1.2.1≤u.2.2.2.1∧u.2.1.2.2≤u.2.2.2.2))
  (fun u=>es.length-u.1) (0,(0,0,0),(0,0,0))
  (by dsimp only;unfold oIm;rw[hz3,hz4,hz5,hl0,hl1,hl2];(refine dH [12,14,15,16,17,18,19] (by omega) (by repeat' (first| (with_reducible first|exact C1|refine C2 ?_ ?_)| ((with_reducible refine C0 ?_);exact CE (by omega) rfl)| ((with_reducible refine D0 ?_);first|exact CA rfl|exact CI rfl (by simp) rfl rfl rfl|refine CJ ?_)|fail)) ⟨⟨by simp,by simp[sgL],_,rfl,aM (by repeat' (first| (with_reducible first|exact C3|refine C4 ?_ ?_)| ((with_reducible refine C0 ?_);first|exact CC|exact CQ (by omega) rfl rfl (by rfl) rfl)|fail))⟩,⟨by simp,by simp[sgL],_,rfl,aO (aC aJ _) rfl rfl⟩,⟨by simp,by simp[sgL],_,rfl,aO (aC aJ _) rfl rfl⟩,⟨by simp,by simp[sgL],_,rfl,aO (aC aJ _) rfl rfl⟩,⟨by simp,by simp[sgL],_,rfl,aO (aC aV _) rfl rfl⟩,⟨by simp,by simp[sgL],_,rfl,aO (aC aV _) rfl rfl⟩,⟨by simp,by simp[sgL],_,rfl,aO (aC aV _) rfl rfl⟩,trivial⟩ (by simp[sgL]))) ⟨Nat.zero_le _,by rw[hz3,hz4,hz5];exact⟨Nat.le_refl _,Nat.le_refl _,Nat.le_refl _⟩,by decide⟩ ?_
 rintro⟨k,⟨c3,c4,c5⟩,⟨m3,m4,m5⟩⟩ ⟨hk,hcc,hmm⟩ KL hKL
 dsimp only at hk hcc hmm
 have hs:=hSok k hk
 have hstep:=hSt k
 have hw0:=hSw k
 generalize hSk:S k=s at*
 have hlens:=hs.lens hb
 have hcl:s.words.length≤64∧s.holds.length≤6∧s.asked.length≤3∧s.wait.length≤c3∧s.done.length≤c4∧s.told.length≤c5:=by
  rw[hs.atm.wl,hs.atm.hl,hs.mF];exact⟨Nat.le_refl _,Nat.le_refl _,Nat.le_refl _,hcc⟩
 by_cases hlt:k<es.length
 ·have hw1:=hw0 hlt
  have hs2:=hstep hlt
  have hsk:=yI hb hs hw1
  repeat' (first| (with_reducible first| (refine hK _ _ _ ?_;clear hK K)| (refine hA ?_;clear hA hB A B)| (refine hB ?_;clear hA hB A B)|refine Z1 ?_|refine Z2 ?_|refine Z3 fun KB hKB=> ?_|refine Z4 (by omega) ?_)| (first| (with_reducible first|refine Y2 fun K hK=> ?_|refine Y3 fun A B hA hB=> ?_)| (refine sP (c:=c) (s:=s) (e:=es.getD k default) hcf hp3 (hs.fit hb) (aeV hcl rfl rfl rfl rfl rfl rfl trivial trivial trivial trivial trivial trivial) ?_)| (refine wM hb hs hw1 hcl hmm (by omega) (by simp) rfl rfl rfl rfl rfl rfl rfl (fun c3' c4' c5' m3' m4' m5' q1 q2=> ?_)))<;>(simp only[go_sem,hw1];try simp (disch:=omega) only[Iw])| ((with_reducible refine Y0 ?_);simp only[AQ.then,AQ.blk])|refine⟨by omega,?_⟩| (with_reducible refine hKB _ _ _ ?_)|fail)
  refine hKL _ _ _ (k+1,(c3',c4',c5'),(m3',m4',m5')) (by omega) ?_ ⟨by dsimp only;omega,by dsimp only;rw[hs2];exact q1,q2⟩ (by dsimp only;omega)
  dsimp only
  rw[hs2]
  have hl1:(bQ c s (es.getD k default)).words.length=s.words.length:=by rw[hs.atm.wl,hsk.atm.wl]
  have hl2:(bQ c s (es.getD k default)).holds.length=s.holds.length:=by rw[hs.atm.hl,hsk.atm.hl]
  have hl3:(bQ c s (es.getD k default)).asked.length=s.asked.length:=by rw[hs.mF,hsk.mF]
  (refine dH [23,24,25,26,47,48,49] (by omega) (by repeat' (first| (with_reducible first|exact C1|refine C2 ?_ ?_)| ((with_reducible refine C0 ?_);exact CE (by omega) rfl)| ((with_reducible refine D0 ?_);first|exact CA rfl|refine CJ ?_)|fail)) ⟨⟨by simp,by simp[sgL],_,rfl,aM (by unfold oIm;repeat' (first| (with_reducible first|exact C3|refine C4 ?_ ?_)| ((with_reducible refine C0 ?_);exact CQ (by omega) rfl rfl (by rfl) rfl)|fail))⟩,⟨by simp,by simp[sgL],_,rfl,aO (aC aJ _) rfl rfl⟩,⟨by simp,by simp[sgL],_,rfl,aO (aC aJ _) rfl rfl⟩,⟨by simp,by simp[sgL],_,rfl,aO (aC aJ _) rfl rfl⟩,⟨by simp,by simp[sgL],_,rfl,aO (aC aV _) rfl rfl⟩,⟨by simp,by simp[sgL],_,rfl,aO (aC aV _) rfl rfl⟩,⟨by simp,by simp[sgL],_,rfl,aO (aC aV _) rfl rfl⟩,trivial⟩ (by simp[sgL]))
 ·repeat' (first| (with_reducible first| (refine hK _ _ _ ?_;clear hK K)| (refine hB ?_;clear hA hB A B)|refine Z1 ?_|refine Z5 (by omega) ?_|refine hKX _ _ _ ?_)| (with_reducible first|refine Y2 fun K hK=> ?_|refine Y3 fun A B hA hB=> ?_)<;>(simp only[go_sem])| ((with_reducible first|refine Y8 ?_|refine Y9 ?_);try simp only[AQ.then,AQ.blk,reduceIte,Nat.reduceEqDiff])|fail)
  exact bJ hQ (.tup [.c (cI (-1)),.c (cI 0)]) rfl rfl rfl
theorem PR {c:Cfg} {es:List Ev} (hb:aY c) (hcf:kC c) (hlen:es.length≤200) (hpl:lJ c st0 es) (h:K (.tup [.c (cI (-1)),.c (cI 0)]) H nx):aB Tryz.prog iE [dA (cH c),dS (es.map eEv)] H nx K:=
 (PO c es hb hcf hlen hpl).pure rfl (aI ⟨aF rfl,aF rfl,trivial⟩) fun r hr=>hr▸h
end
end Go.Proofs.YtegiblhkjfiooaaGreat
end
section
namespace Go.AM
theorem aiA {c:Cfg} {s:TSt} {e:Ev} (h:yL c s e=0) (hk:e.kind=3): ¬0≤aW (xC c e) s.wait∧ ¬0≤aW (xC c e) s.done:=by
 unfold yL at h
 split at h
 ·exact absurd h (by decide)
 simp only[hk,Int.reduceEq,if_false] at h
 split at h
 ·exact absurd h (by decide)
 split at h
 ·exact absurd h (by decide)
 ·rename_i h2;exact not_or.1 h2
theorem LN {c:Cfg} {s:TSt} {e:Ev} (hk:e.kind=1):bQ c s e= {s with asked:=s.asked.set e.who.toNat (e.n+1),wait:=gL s.wait ⟨e.who,e.n,kO⟩}:=by simp only[bQ,hk,if_true]
theorem QK {c:Cfg} {s:TSt} {e:Ev} (hk:e.kind=2):bQ c s e= {s with words:=(doM c.map s.words s.holds e.who (bF c e.who e.n)).1.1,holds:=(doM c.map s.words s.holds e.who (bF c e.who e.n)).1.2,wait:=iJ s.wait (aW (bV e.who e.n) s.wait).toNat,done:=gL s.done ⟨e.who,e.n,(doM c.map s.words s.holds e.who (bF c e.who e.n)).2⟩}:=by simp[bQ,hk]
theorem HX {c:Cfg} {s:TSt} {e:Ev} (hk:e.kind=3):bQ c s e= {s with told:=s.told++[s.done.getD (aW (bV e.who e.n) s.done).toNat default],done:=iJ s.done (aW (bV e.who e.n) s.done).toNat}:=by simp[bQ,hk]
theorem C8 {l:List Job} {j x:Job}:x∈gL l j↔x=j∨x∈l:=by rw[(kT l j).mem_iff];simp
theorem G8 {l:List Job} {k:Nat} {x:Job} (h:x∈iJ l k):x∈l:=LS.subset h
theorem aoO {l:List Job} {k:Nat} {x:Job} (hk:k<l.length) (h:x∈l):x=l.getD k default∨x∈iJ l k:=by
 have:=(mD hk).mem_iff.1 h;simpa using this
theorem ak9 {l:List Job} {k:Nat} {x:Job} (hk:k<l.length) (hn:(l.map key).Nodup) (h:x∈iJ l k):key x≠key (l.getD k default):=by
 have h1:=((mD hk).map key).nodup_iff.1 hn
 simp only[List.map_cons,List.nodup_cons] at h1
 exact fun he=>h1.1 (List.mem_map.2 ⟨x,h,he⟩)
theorem OG {s:TSt} (h:(keys s).Nodup):(s.wait.map key).Nodup∧(s.done.map key).Nodup∧(∀x∈s.wait,∀y∈s.done,key x≠key y)∧(∀x∈s.wait,∀y∈s.told,key x≠key y)∧ ∀x∈s.done,∀y∈s.told,key x≠key y:=by
 simp only[keys,List.map_append,List.nodup_append] at h
 obtain⟨⟨h1,h2,h3⟩,h4,h5⟩:=h
 refine⟨h1,h2,fun x hx y hy=>h3 _ (List.mem_map_of_mem hx) _ (List.mem_map_of_mem hy),fun x hx y hy=>h5 _ (List.mem_append_left _ (List.mem_map_of_mem hx)) _ (List.mem_map_of_mem hy),fun x hx y hy=>h5 _ (List.mem_append_right _ (List.mem_map_of_mem hx)) _ (List.mem_map_of_mem hy)⟩
structure Ord (c:Cfg) (s:TSt):Prop where
 told:s.told.Pairwise fun a b=>a.who=b.who→(bF c a.who a.n).id=(bF c b.who b.n).id→a.n<b.n
 rest: ∀a∈s.told,∀b∈s.wait++s.done,a.who=b.who→(bF c a.who a.n).id=(bF c b.who b.n).id→a.n<b.n
theorem ak6 {c:Cfg} {s:TSt} {e:Ev} (hs:rL c s) (ho:Ord c s) (h:yL c s e=0):Ord c (bQ c s e):=by
 obtain⟨hask,hcase⟩:=oG h
 rcases hcase with⟨hk,hi⟩|⟨hk,hi⟩|⟨hk,hi⟩
 ·rw[LN hk]
  refine⟨ho.told,fun a ha b hb h1 h2=> ?_⟩
  simp only[List.mem_append] at hb
  rcases hb with hb|hb
  ·rcases C8.1 hb with hb|hb
   ·subst hb
    have:=(hs.ZF (key a) (List.mem_map_of_mem (List.mem_append_right _ ha))).2.2
    simp only[key] at this h1 ⊢
    rw[h1] at this;omega
   ·exact ho.rest a ha b (List.mem_append_left _ hb) h1 h2
  ·exact ho.rest a ha b (List.mem_append_right _ hb) h1 h2
 ·rw[QK hk]
  obtain⟨i1,i2⟩:=cU hi
  refine⟨ho.told,fun a ha b hb h1 h2=> ?_⟩
  simp only[List.mem_append] at hb
  rcases hb with hb|hb
  ·exact ho.rest a ha b (List.mem_append_left _ (G8 hb)) h1 h2
  ·rcases C8.1 hb with hb|hb
   ·have i3:=ho.rest a ha _ (List.mem_append_left _ (cY i1))
    simp only[key,Prod.mk.injEq] at i2
    rw[i2.1,i2.2] at i3
    subst hb;exact i3 h1 h2
   ·exact ho.rest a ha b (List.mem_append_right _ hb) h1 h2
 ·rw[HX hk]
  obtain⟨i1,i2⟩:=cU hi
  obtain⟨a1,a2⟩:=aiA h hk
  obtain⟨n1,n2,n3,n4,n5⟩:=OG hs.nodup
  have hx:=cY i1
  have hlt: ∀b∈s.wait++iJ s.done (aW (bV e.who e.n) s.done).toNat,e.who=b.who→(bF c e.who e.n).id=(bF c b.who b.n).id→e.n<b.n:=by
   intro b hb h1 h2
   have hne: ¬b.n=e.n:=by
    intro hbe
    have hkb:key b=key (s.done.getD (aW (bV e.who e.n) s.done).toNat default):=by rw[i2];simp[key,h1,hbe]
    rcases List.mem_append.1 hb with hb|hb
    ·exact n3 _ hb _ hx hkb
    ·exact ak9 i1 n2 hb hkb
   have hna: ¬b.n<e.n:=by
    intro hlt
    have hj:xC c e b=true:=by simp only[xC,decide_eq_true_eq];exact⟨⟨h1.symm,hlt⟩,h2.symm⟩
    rcases List.mem_append.1 hb with hb|hb
    ·exact a1 (cL.2 ⟨b,hb,hj⟩)
    ·exact a2 (cL.2 ⟨b,G8 hb,hj⟩)
   omega
  simp only[key,Prod.mk.injEq] at i2
  refine⟨?_,fun a ha b hb h1 h2=> ?_⟩
  ·refine List.pairwise_append.2 ⟨ho.told,by simp,fun a ha b hb h1 h2=> ?_⟩
   simp only[List.mem_singleton] at hb
   subst hb
   exact ho.rest a ha _ (List.mem_append_right _ hx) h1 h2
  ·rcases List.mem_append.1 ha with ha|ha
   ·refine ho.rest a ha b ?_ h1 h2
    rcases List.mem_append.1 hb with hb|hb
    ·exact List.mem_append_left _ hb
    ·exact List.mem_append_right _ (G8 hb)
   ·simp only[List.mem_singleton] at ha
    rw[ha,i2.1] at h1
    rw[ha,i2.1,i2.2] at h2
    rw[ha,i2.2]
    exact hlt b hb h1 h2
theorem arO {c:Cfg} {es:List Ev} (hb:aY c) (h:lJ c st0 es): ∀k,k≤es.length→Ord c (runM c st0 (es.take k)):=by
 intro k
 induction k with
 |zero=>intro _;exact⟨by simp[runM,st0],by simp[runM,st0]⟩
 |succ k ih=>
  intro hk
  rw[uR (by omega)]
  exact ak6 (CZ hb (KG c) h k (by omega)) (ih (by omega)) (h k (by omega))
structure Hap (s:TSt) (l:List Ev):Prop where
 ask: ∀w n:Int,(⟨1,w,n⟩:Ev)∈l→n<s.asked.getD w.toNat default
 did: ∀w n:Int,(⟨2,w,n⟩:Ev)∈l→∃j∈s.done++s.told,key j=(w,n)
 tld: ∀w n:Int,(⟨3,w,n⟩:Ev)∈l→∃j∈s.told,key j=(w,n)
 wai: ∀j∈s.wait,(⟨1,j.who,j.n⟩:Ev)∈l
 don: ∀j∈s.done,(⟨2,j.who,j.n⟩:Ev)∈l
theorem akJ {c:Cfg} {s:TSt} {e:Ev} {l:List Ev} (hs:rL c s) (ho:Hap s l) (h:yL c s e=0):Hap (bQ c s e) (l++[e]):=by
 obtain⟨hask,hcase⟩:=oG h
 obtain⟨hwho,hn⟩:=hask
 obtain⟨kd,w,n⟩:=e
 dsimp only at*
 rcases hcase with⟨hk,hi⟩|⟨hk,hi⟩|⟨hk,hi⟩
 ·rw[LN hk];subst hk
  dsimp only at*
  refine⟨fun w' n' he=> ?_,fun w' n' he=>ho.did w' n' (by simpa using he),fun w' n' he=>ho.tld w' n' (by simpa using he),fun j hj=> ?_,fun j hj=>by simpa using ho.don j hj⟩
  ·rw[HT (by rw[hs.mF];omega)]
   simp only[List.mem_append,List.mem_singleton,Ev.mk.injEq,true_and] at he
   rcases he with he|⟨h1,h2⟩
   ·have:=ho.ask w' n' he
    split
    ·rename_i hh;rw[hh] at this;omega
    ·exact this
   ·subst h1;subst h2;simp;omega
  ·rcases C8.1 hj with hj|hj
   ·subst hj;simp
   ·simp[ho.wai j hj]
 ·rw[QK hk];subst hk
  obtain⟨i1,i2⟩:=cU hi
  dsimp only at*
  refine⟨fun w' n' he=>ho.ask w' n' (by simpa using he),fun w' n' he=> ?_,fun w' n' he=>ho.tld w' n' (by simpa using he),fun j hj=>by simpa using ho.wai j (G8 hj),fun j hj=> ?_⟩
  ·simp only[List.mem_append,List.mem_singleton,Ev.mk.injEq,true_and] at he
   rcases he with he|⟨h1,h2⟩
   ·obtain⟨j,hj,hk⟩:=ho.did w' n' he
    refine⟨j,?_,hk⟩
    rcases List.mem_append.1 hj with hj|hj
    ·exact List.mem_append_left _ (C8.2 (.inr hj))
    ·exact List.mem_append_right _ hj
   ·refine⟨_,List.mem_append_left _ (C8.2 (.inl rfl)),?_⟩
    simp[key,h1,h2]
  ·rcases C8.1 hj with hj|hj
   ·subst hj;simp
   ·simp[ho.don j hj]
 ·rw[HX hk];subst hk
  obtain⟨i1,i2⟩:=cU hi
  dsimp only at*
  refine⟨fun w' n' he=>ho.ask w' n' (by simpa using he),fun w' n' he=> ?_,fun w' n' he=> ?_,fun j hj=>by simpa using ho.wai j hj,fun j hj=>by simpa using ho.don j (G8 hj)⟩
  ·obtain⟨j,hj,hk⟩:=ho.did w' n' (by simpa using he)
   rcases List.mem_append.1 hj with hj|hj
   ·rcases aoO i1 hj with hj|hj
    ·exact⟨j,by simp[hj],hk⟩
    ·exact⟨j,by simp[hj],hk⟩
   ·exact⟨j,by simp[hj],hk⟩
  ·simp only[List.mem_append,List.mem_singleton,Ev.mk.injEq,true_and] at he
   rcases he with he|⟨h1,h2⟩
   ·obtain⟨j,hj,hk⟩:=ho.tld w' n' he
    exact⟨j,by simp[hj],hk⟩
   ·exact⟨_,List.mem_append_right _ (List.mem_singleton.2 rfl),by rw[i2,h1,h2]⟩
theorem ai5 {c:Cfg} {es:List Ev} (hb:aY c) (h:lJ c st0 es): ∀k,k≤es.length→Hap (runM c st0 (es.take k)) (es.take k):=by
 intro k
 induction k with
 |zero=>intro _;exact⟨by simp,by simp,by simp,by simp[runM,st0],by simp[runM,st0]⟩
 |succ k ih=>
  intro hk
  rw[uR (by omega),Q5 (by omega)]
  exact akJ (CZ hb (KG c) h k (by omega)) (ih (by omega)) (h k (by omega))
theorem JX {c:Cfg} {es:List Ev} (hb:aY c) (h:lJ c st0 es) {k:Nat} (hk:k<es.length):
 es.getD k default∉es.take k∧((es.getD k default).kind=1∨(⟨(es.getD k default).kind-1,(es.getD k default).who,(es.getD k default).n⟩:Ev)∈es.take k):=by
 have ho:=ai5 hb h k (by omega)
 have hs:=CZ hb (KG c) h k (by omega)
 have hw:=h k hk
 generalize runM c st0 (es.take k)=s at*
 generalize es.take k=l at*
 generalize es.getD k default=e at*
 obtain⟨hask,hcase⟩:=oG hw
 obtain⟨n1,n2,n3,n4,n5⟩:=OG hs.nodup
 obtain⟨kd,w,n⟩:=e
 dsimp only at*
 rcases hcase with⟨hk,hi⟩|⟨hk,hi⟩|⟨hk,hi⟩
 ·subst hk
  exact⟨fun hm=>by have:=ho.ask w n hm;omega,.inl rfl⟩
 ·subst hk
  obtain⟨i1,i2⟩:=cU hi
  have hx:=cY i1
  refine⟨fun hm=> ?_,.inr ?_⟩
  ·obtain⟨j,hj,hk⟩:=ho.did w n hm
   rcases List.mem_append.1 hj with hj|hj
   ·exact n3 _ hx _ hj (by rw[i2,hk])
   ·exact n4 _ hx _ hj (by rw[i2,hk])
  ·have:=ho.wai _ hx
   simp only[key,Prod.mk.injEq] at i2
   rw[i2.1,i2.2] at this;exact this
 ·subst hk
  obtain⟨i1,i2⟩:=cU hi
  have hx:=cY i1
  refine⟨fun hm=> ?_,.inr ?_⟩
  ·obtain⟨j,hj,hk⟩:=ho.tld w n hm
   exact n5 _ hx _ hj (by rw[i2,hk])
  ·have:=ho.don _ hx
   simp only[key,Prod.mk.injEq] at i2
   rw[i2.1,i2.2] at this;exact this
end Go.AM
end
section
namespace Go.AM
structure Sam (k:Int) (s s':TSt):Prop where
 asked:s'.asked.getD k.toNat default=s.asked.getD k.toNat default
 wait: ∀n,(k,n)∈s'.wait.map key↔(k,n)∈s.wait.map key
 done: ∀n,(k,n)∈s'.done.map key↔(k,n)∈s.done.map key
theorem Sam.refl {k:Int} {s:TSt}:Sam k s s:=⟨rfl,fun _=>.rfl,fun _=>.rfl⟩
theorem Sam.symm {k:Int} {s s':TSt} (h:Sam k s s'):Sam k s' s:=⟨h.asked.symm,fun n=>(h.wait n).symm,fun n=>(h.done n).symm⟩
theorem Sam.trans {k:Int} {s s' s2:TSt} (h:Sam k s s') (h2:Sam k s' s2):Sam k s s2:=⟨h2.asked.trans h.asked,fun n=>(h2.wait n).trans (h.wait n),fun n=>(h2.done n).trans (h.done n)⟩
end Go.AM
end
section
namespace Go.AM
def doJ (c:Cfg) (s:TSt) (e:Ev):Job:=⟨e.who,e.n,(doM c.map s.words s.holds e.who (bF c e.who e.n)).2⟩
def XE (c:Cfg) (es:List Ev) (k:Nat):List Job:=(List.range k).flatMap fun i=>if (es.getD i default).kind=2 then [doJ c (runM c st0 (es.take i)) (es.getD i default)] else []
theorem W7 {c:Cfg} {es:List Ev} {k:Nat}:XE c es (k+1)=XE c es k++if (es.getD k default).kind=2 then [doJ c (runM c st0 (es.take k)) (es.getD k default)] else []:=by
 simp[XE,List.range_succ]
theorem ak2 {c:Cfg} {es:List Ev} {k:Nat} (h:(es.getD k default).kind=2):XE c es (k+1)=XE c es k++[doJ c (runM c st0 (es.take k)) (es.getD k default)]:=by rw[W7,if_pos h]
theorem afQ {c:Cfg} {es:List Ev} {k:Nat} (h: ¬(es.getD k default).kind=2):XE c es (k+1)=XE c es k:=by rw[W7,if_neg h,List.append_nil]
theorem arY {c:Cfg} {es:List Ev} (hp:lJ c st0 es): ∀k,k≤es.length→(XE c es k).Perm ((runM c st0 (es.take k)).done++(runM c st0 (es.take k)).told):=by
 intro k
 induction k with
 |zero=>intro _;simp[XE,runM,st0]
 |succ k ih=>
  intro hk
  have h:=ih (by omega)
  have hw:=hp k (by omega)
  obtain⟨_,hcase⟩:=oG hw
  rw[uR (by omega)]
  rcases hcase with⟨hk1,_⟩|⟨hk2,hi⟩|⟨hk3,hi⟩
  ·rw[afQ (by omega),LN hk1];exact h
  ·rw[ak2 hk2,QK hk2]
   refine List.perm_append_comm.trans ?_
   refine(h.cons _).trans ?_
   exact((kT _ _).append_right _).symm
  ·rw[afQ (by omega),HX hk3]
   obtain⟨i1,_⟩:=cU hi
   refine h.trans (((mD i1).append_right _).trans ?_)
   rw[List.cons_append,←List.append_assoc]
   exact(List.perm_append_singleton _ _).symm
theorem aqW {c:Cfg} {es:List Ev} (hp:lJ c st0 es): ∀k,k≤es.length→k=(runM c st0 (es.take k)).wait.length+2*(runM c st0 (es.take k)).done.length+3*(runM c st0 (es.take k)).told.length:=by
 intro k
 induction k with
 |zero=>intro _;simp[runM,st0]
 |succ k ih=>
  intro hk
  have h:=ih (by omega)
  have hw:=hp k (by omega)
  obtain⟨_,hcase⟩:=oG hw
  rw[uR (by omega)]
  rcases hcase with⟨hk1,_⟩|⟨hk2,hi⟩|⟨hk3,hi⟩
  ·rw[LN hk1];dsimp only;rw[GM];omega
  ·rw[QK hk2]
   have:=(mD (cU hi).1).length_eq
   dsimp only;rw[GM];rw[List.length_cons] at this;omega
  ·rw[HX hk3]
   have:=(mD (cU hi).1).length_eq
   dsimp only;rw[List.length_append,List.length_singleton];rw[List.length_cons] at this;omega
theorem ah9 {c:Cfg} {es:List Ev} (hb:aY c) (hp:lJ c st0 es):es.length≤108:=by
 have h:=aqW hp es.length (Nat.le_refl _)
 have hl:=(ajA hb (KG c) hp).lens hb
 rw[List.take_length] at h
 omega
end Go.AM
end
section
namespace Go.AM
def aqX (q:Req):List Int:=bE q.addr q.many q.wrap
def hB (br:Nat) (who:Int) (q:Req) (h:List Int):List Int:=if br=5 then oS h (aqX q) else if br=3 then h.set (who*2+q.id).toNat q.addr else h
def NQ (a b:Req):Prop:=∀x∈aqX a,x∉aqX b
theorem NQ.symm {a b:Req} (h:NQ a b):NQ b a:=fun x hx hy=>h x hy hx
def aj8 (c:Cfg) (a b:Ev):Prop:=a.who≠b.who∧ ¬(a.kind=3∧b.kind=3)∧(a.kind=2→b.kind=2→NQ (bF c a.who a.n) (bF c b.who b.n))
instance {a b:Req}:Decidable (NQ a b):=by unfold NQ;infer_instance
instance {c:Cfg} {a b:Ev}:Decidable (aj8 c a b):=by unfold aj8;infer_instance
theorem TQ: ∀{l l':List Job},gQ l→gQ l'→(∀x,x∈l↔x∈l')→l=l'
 | [],[],_,_,_=>rfl
 | [],y::l',_,_,hm=>by have:=(hm y).2 (by simp);cases this
 |x::l,[],_,_,hm=>by have:=(hm x).1 (by simp);cases this
 |x::l,y::l',h,h',hm=>by
  have irr: ∀z:Job,nA z z=false:=fun z=>by simp[nA]
  obtain⟨h1,h2⟩:=List.pairwise_cons.1 h
  obtain⟨h3,h4⟩:=List.pairwise_cons.1 h'
  have hxy:x=y:=by
   rcases List.mem_cons.1 ((hm x).1 (by simp)) with hx|hx
   ·exact hx
   ·rcases List.mem_cons.1 ((hm y).2 (by simp)) with hy|hy
    ·exact hy.symm
    ·have b1:=h3 x hx
     have b2:=h1 y hy
     rw[nN] at b1 b2
     omega
  subst hxy
  congr 1
  refine TQ h2 h4 fun z=>⟨fun hz=> ?_,fun hz=> ?_⟩
  ·rcases List.mem_cons.1 ((hm z).1 (by simp[hz])) with he|he
   ·subst he;have:=h1 z hz;rw[irr] at this;cases this
   ·exact he
  ·rcases List.mem_cons.1 ((hm z).2 (by simp[hz])) with he|he
   ·subst he;have:=h3 z hz;rw[irr] at this;cases this
   ·exact he
end Go.AM
end
section
namespace Go.AM
theorem u0 {c:Cfg} {s:TSt} {e:Ev} {l:List Ev}:runM c s (e::l)=runM c (bQ c s e) l:=rfl
theorem aaM {c:Cfg} {s:TSt} {a b:List Ev}:runM c s (a++b)=runM c (runM c s a) b:=by simp[runM]
theorem qF {c:Cfg} {s:TSt} {e:Ev} {l:List Ev}:lJ c s (e::l)↔yL c s e=0∧lJ c (bQ c s e) l:=by
 constructor
 ·intro h
  refine⟨h 0 (by simp),fun k hk=> ?_⟩
  have:=h (k+1) (by simpa using hk)
  rwa [List.take_succ_cons,u0,List.getD_cons_succ] at this
 ·rintro⟨h1,h2⟩ k hk
  match k with
  |0=>exact h1
  |k+1=>
   rw[List.take_succ_cons,u0,List.getD_cons_succ]
   exact h2 k (by simpa using hk)
theorem V9 {c:Cfg} {s:TSt} {a b:List Ev}:lJ c s (a++b)↔lJ c s a∧lJ c (runM c s a) b:=by
 induction a generalizing s with
 |nil=>simp[runM,mA]
 |cons e a ih=>rw[List.cons_append,qF,qF,ih,u0,and_assoc]
end Go.AM
end
section
namespace Go.AM
def l8 (c:Cfg):TSt→List Ev→Nat
 |_,[]=>0
 |s,e::l=>if yL c s e=0 then l8 c (bQ c s e) l+1 else 0
theorem MK {c:Cfg}: ∀{l:List Ev} {s:TSt},l8 c s l≤l.length
 | [],s=>Nat.le_refl _
 |e::l,s=>by
  unfold l8
  split
  ·have:=MK (c:=c) (l:=l) (s:=bQ c s e);simp;omega
  ·simp
theorem z6 {c:Cfg}: ∀{l:List Ev} {s:TSt},lJ c s (l.take (l8 c s l))
 | [],s=>mA
 |e::l,s=>by
  unfold l8
  split
  ·rename_i h
   rw[List.take_succ_cons,qF]
   exact⟨h,z6⟩
  ·exact mA
theorem WT {c:Cfg}: ∀{l:List Ev} {s:TSt},l8 c s l<l.length→yL c (runM c s (l.take (l8 c s l))) (l.getD (l8 c s l) default)≠0
 | [],s,h=>by simp[l8] at h
 |e::l,s,h=>by
  unfold l8 at h ⊢
  split
  ·rename_i hw
   rw[if_pos hw] at h
   rw[List.take_succ_cons,u0,List.getD_cons_succ]
   exact WT (by simpa using h)
  ·rename_i hw
   simpa [runM] using hw
theorem R7 {c:Cfg} {l:List Ev} {s:TSt} (h:l8 c s l=l.length):lJ c s l:=by
 have:=z6 (c:=c) (l:=l) (s:=s)
 rwa [h,List.take_length] at this
theorem ZW {c:Cfg}: ∀{l:List Ev} {s:TSt} {k:Nat},k≤l.length→lJ c s (l.take k)→k≤l8 c s l
 |l,s,0,_,_=>Nat.zero_le _
 | [],s,k+1,h,_=>by simp at h
 |e::l,s,k+1,h,hp=>by
  rw[List.take_succ_cons,qF] at hp
  unfold l8
  rw[if_pos hp.1]
  have:=ZW (k:=k) (by simpa using h) hp.2
  omega
theorem aoI {c:Cfg} {s:TSt} {es:List Ev} {k:Nat} (hk:k<l8 c s es):yL c (runM c s (es.take k)) (es.getD k default)=0:=by
 have hp:=z6 (c:=c) (l:=es) (s:=s)
 have hle:=MK (c:=c) (l:=es) (s:=s)
 have:=hp k (by rw[List.length_take];omega)
 rw[List.take_take,Nat.min_eq_left (by omega)] at this
 rwa [show (es.take (l8 c s es)).getD k default=es.getD k default by simp[List.getD,List.getElem?_take,hk]] at this
theorem amB {c:Cfg} {s:TSt} {es:List Ev} (hb:aY c) (hs:rL c s) {k:Nat} (hk:k≤l8 c s es):rL c (runM c s (es.take k)):=by
 have hle:=MK (c:=c) (l:=es) (s:=s)
 have:=CZ hb hs (z6 (c:=c) (l:=es) (s:=s)) k (by rw[List.length_take];omega)
 rwa [List.take_take,Nat.min_eq_left hk] at this
def XL (c:Cfg) (es:List Ev):Int×Int:=if l8 c st0 es=es.length then (-1,0) else ((l8 c st0 es:Int),yL c (runM c st0 (es.take (l8 c st0 es))) (es.getD (l8 c st0 es) default))
end Go.AM
end
section
namespace Go.Proofs.YtegiblhkjfiooaaGreat
open Go Go.AM
set_option maxRecDepth 100000
set_option maxHeartbeats 8000000
section
variable {H : aA} {nx : Nat} {K : D → aA → Nat → Prop}
theorem NH (c:Cfg) (es:List Ev) (hb:aY c) (hcf:kC c) (hlen:es.length≤200):
 aB Tryz.prog iE [dA (cH c),dS (es.map eEv)] .nil 0 fun r _ _=>r.plain=true∧r= .tup [.c (cI (XL c es).1),.c (cI (XL c es).2)]:=by
 have hS0: ∀{H:aA} {nx:Nat} {K:D→aA→Nat→Prop},K (dA [.osl 1 nx 0 64 64,.osl 1 (nx+1) 0 6 6,.osl 1 (nx+2) 0 3 3,.osl 5 (nx+3) 0 0 0,.osl 5 (nx+4) 0 0 0,.osl 5 (nx+5) 0 0 0]) ((((((H.set nx ⟨1,64,(runM c st0 (es.take 0)).words.map aE⟩).set (nx+1) ⟨1,6,(runM c st0 (es.take 0)).holds.map aE⟩).set (nx+2) ⟨1,3,(runM c st0 (es.take 0)).asked.map aE⟩).set (nx+3) ⟨5,0,[]⟩).set (nx+4) ⟨5,0,[]⟩).set (nx+5) ⟨5,0,[]⟩) (nx+6)→aB Tryz.prog mC [] H nx K:=fun h=>F6 h
 have hz3:(runM c st0 (es.take 0)).wait=[]:=rfl
 have hz4:(runM c st0 (es.take 0)).done=[]:=rfl
 have hz5:(runM c st0 (es.take 0)).told=[]:=rfl
 unfold XL
 have hSok:=fun k (hk:k≤l8 c st0 es)=>amB hb (KG c) hk
 have hSw:=fun k (hk:k<l8 c st0 es)=>aoI hk
 have hSb:=WT (c:=c) (s:=st0) (l:=es)
 have hle:=MK (c:=c) (s:=st0) (l:=es)
 generalize l8 c st0 es=n at*
 have hSt:=fun k (hk:k<es.length)=>uR (c:=c) (s:=st0) hk
 obtain⟨S,hS⟩: ∃S:Nat→TSt,S=fun k=>runM c st0 (es.take k):=⟨_,rfl⟩
 have hSe: ∀k,runM c st0 (es.take k)=S k:=fun k=>by rw[hS]
 simp only[hSe] at*
 clear hS hSe
 obtain⟨hp3,hp12⟩:=i7 hb
 have hl0:=(hSok 0 (by omega)).atm.wl
 have hl1:=(hSok 0 (by omega)).atm.hl
 have hl2:=(hSok 0 (by omega)).mF
 refine BW rfl fun Q hQ=> ?_
 unfold oE
 repeat' (first| (with_reducible first| (refine hK _ _ _ ?_;clear hK K)| (refine hB ?_;clear hA hB A B)|refine Z1 ?_|refine Z2 ?_|refine Z3 fun KB hKB=> ?_|refine Z5 (by omega) ?_)| (first| (with_reducible first|refine Y2 fun K hK=> ?_|refine Y3 fun A B hA hB=> ?_)| (refine EG hcf ?_)| (refine hS0 ?_))<;>(simp only[go_sem,eq_true hb])|fail)
 (have hKX:=hKB;clear hKB)
 refine aQ.wI 7 (β:=Nat×(Nat×Nat×Nat)×(Nat×Nat×Nat))
  (fun b u=>en [(21,dI u.1),(20,dI es.length),(19,dS (es.map eEv)),(6,dP 6 b),(2,.one (.c (.dN (cH c))))])
  (fun b u=>hp [(b,⟨6,1,[oIm (b+1) (b+2) (b+3) (b+4) (b+5) (b+6) 64 6 3 u.2.1.1 u.2.1.2.1 u.2.1.2.2 (S u.1)]⟩),(b+1,⟨1,64,(S u.1).words.map aE⟩),(b+2,⟨1,6,(S u.1).holds.map aE⟩),(b+3,⟨1,3,(S u.1).asked.map aE⟩),(b+4,⟨5,u.2.2.1,(S u.1).wait.map aK⟩),(b+5,⟨5,u.2.2.2.1,(S u.1).done.map aK⟩),(b+6,⟨5,u.2.2.2.2,(S u.1).told.map aK⟩)])
  (fun u=>u.1≤n∧((S u.1).wait.length≤u.2.1.1∧(S u.1).done.length≤u.2.1.2.1∧(S u.1).told.length≤u.2.1.2.2)∧(u.2.1.1≤u.2.2.1∧u.2.1.2.1≤u.2.2.2.1∧u.2.1.2.2≤u.2.2.2.2))
  (fun u=>es.length-u.1) (0,(0,0,0),(0,0,0))
  (by dsimp only;unfold oIm;rw[hz3,hz4,hz5,hl0,hl1,hl2];(refine dH [12,14,15,16,17,18,19] (by omega) (by repeat' (first| (with_reducible first|exact C1|refine C2 ?_ ?_)| ((with_reducible refine C0 ?_);exact CE (by omega) rfl)| ((with_reducible refine D0 ?_);first|exact CA rfl|exact CI rfl (by simp) rfl rfl rfl|refine CJ ?_)|fail)) ⟨⟨by simp,by simp[sgL],_,rfl,aM (by repeat' (first| (with_reducible first|exact C3|refine C4 ?_ ?_)| ((with_reducible refine C0 ?_);first|exact CC|exact CQ (by omega) rfl rfl (by rfl) rfl)|fail))⟩,⟨by simp,by simp[sgL],_,rfl,aO (aC aJ _) rfl rfl⟩,⟨by simp,by simp[sgL],_,rfl,aO (aC aJ _) rfl rfl⟩,⟨by simp,by simp[sgL],_,rfl,aO (aC aJ _) rfl rfl⟩,⟨by simp,by simp[sgL],_,rfl,aO (aC aV _) rfl rfl⟩,⟨by simp,by simp[sgL],_,rfl,aO (aC aV _) rfl rfl⟩,⟨by simp,by simp[sgL],_,rfl,aO (aC aV _) rfl rfl⟩,trivial⟩ (by simp[sgL]))) ⟨Nat.zero_le _,by rw[hz3,hz4,hz5];exact⟨Nat.le_refl _,Nat.le_refl _,Nat.le_refl _⟩,by decide⟩ ?_
 rintro⟨k,⟨c3,c4,c5⟩,⟨m3,m4,m5⟩⟩ ⟨hk,hcc,hmm⟩ KL hKL
 dsimp only at hk hcc hmm
 have hs:=hSok k hk
 have hstep:=hSt k
 have hw0:=hSw k
 generalize hSk:S k=s at*
 have hlens:=hs.lens hb
 have hcl:s.words.length≤64∧s.holds.length≤6∧s.asked.length≤3∧s.wait.length≤c3∧s.done.length≤c4∧s.told.length≤c5:=by
  rw[hs.atm.wl,hs.atm.hl,hs.mF];exact⟨Nat.le_refl _,Nat.le_refl _,Nat.le_refl _,hcc⟩
 by_cases hlt:k<n
 ·have hw1:=hw0 hlt
  have hs2:=hstep (by omega)
  have hsk:=yI hb hs hw1
  repeat' (first| (with_reducible first| (refine hK _ _ _ ?_;clear hK K)| (refine hA ?_;clear hA hB A B)| (refine hB ?_;clear hA hB A B)|refine Z1 ?_|refine Z2 ?_|refine Z3 fun KB hKB=> ?_|refine Z4 (by omega) ?_)| (first| (with_reducible first|refine Y2 fun K hK=> ?_|refine Y3 fun A B hA hB=> ?_)| (refine sP (c:=c) (s:=s) (e:=es.getD k default) hcf hp3 (hs.fit hb) (aeV hcl rfl rfl rfl rfl rfl rfl trivial trivial trivial trivial trivial trivial) ?_)| (refine wM hb hs hw1 hcl hmm (by omega) (by simp) rfl rfl rfl rfl rfl rfl rfl (fun c3' c4' c5' m3' m4' m5' q1 q2=> ?_)))<;>(simp only[go_sem,hw1];try simp (disch:=omega) only[Iw])| ((with_reducible refine Y0 ?_);simp only[AQ.then,AQ.blk])|refine⟨by omega,?_⟩| (with_reducible refine hKB _ _ _ ?_)|fail)
  refine hKL _ _ _ (k+1,(c3',c4',c5'),(m3',m4',m5')) (by omega) ?_ ⟨by dsimp only;omega,by dsimp only;rw[hs2];exact q1,q2⟩ (by dsimp only;omega)
  dsimp only
  rw[hs2]
  have hl1:(bQ c s (es.getD k default)).words.length=s.words.length:=by rw[hs.atm.wl,hsk.atm.wl]
  have hl2:(bQ c s (es.getD k default)).holds.length=s.holds.length:=by rw[hs.atm.hl,hsk.atm.hl]
  have hl3:(bQ c s (es.getD k default)).asked.length=s.asked.length:=by rw[hs.mF,hsk.mF]
  (refine dH [23,24,25,26,47,48,49] (by omega) (by repeat' (first| (with_reducible first|exact C1|refine C2 ?_ ?_)| ((with_reducible refine C0 ?_);exact CE (by omega) rfl)| ((with_reducible refine D0 ?_);first|exact CA rfl|refine CJ ?_)|fail)) ⟨⟨by simp,by simp[sgL],_,rfl,aM (by unfold oIm;repeat' (first| (with_reducible first|exact C3|refine C4 ?_ ?_)| ((with_reducible refine C0 ?_);exact CQ (by omega) rfl rfl (by rfl) rfl)|fail))⟩,⟨by simp,by simp[sgL],_,rfl,aO (aC aJ _) rfl rfl⟩,⟨by simp,by simp[sgL],_,rfl,aO (aC aJ _) rfl rfl⟩,⟨by simp,by simp[sgL],_,rfl,aO (aC aJ _) rfl rfl⟩,⟨by simp,by simp[sgL],_,rfl,aO (aC aV _) rfl rfl⟩,⟨by simp,by simp[sgL],_,rfl,aO (aC aV _) rfl rfl⟩,⟨by simp,by simp[sgL],_,rfl,aO (aC aV _) rfl rfl⟩,trivial⟩ (by simp[sgL]))
 ·have hkn:k=n:=by omega
  subst hkn
  by_cases hkl:k=es.length
  ·subst hkl
   repeat' (first| (with_reducible first| (refine hK _ _ _ ?_;clear hK K)| (refine hB ?_;clear hA hB A B)|refine Z1 ?_|refine Z5 (by omega) ?_|refine hKX _ _ _ ?_)| (with_reducible first|refine Y2 fun K hK=> ?_|refine Y3 fun A B hA hB=> ?_)<;>(simp only[go_sem])| ((with_reducible first|refine Y8 ?_|refine Y9 ?_);try simp only[AQ.then,AQ.blk,reduceIte,Nat.reduceEqDiff])|fail)
   exact bJ hQ (.tup [.c (cI (-1)),.c (cI 0)]) rfl rfl (by simp)
  ·have hbad:=hSb (by omega)
   rw[hSk] at hbad
   repeat' (first| (with_reducible first| (refine hK _ _ _ ?_;clear hK K)| (refine hA ?_;clear hA hB A B)|refine Z1 ?_|refine Z2 ?_|refine Z3 fun KB hKB=> ?_|refine Z4 (by omega) ?_)| (first| (with_reducible first|refine Y2 fun K hK=> ?_|refine Y3 fun A B hA hB=> ?_)| (refine sP (c:=c) (s:=s) (e:=es.getD k default) hcf hp3 (hs.fit hb) (aeV hcl rfl rfl rfl rfl rfl rfl trivial trivial trivial trivial trivial trivial) ?_))<;>(simp only[go_sem])| ((with_reducible refine Y8 ?_);try simp only[AQ.then,AQ.blk,reduceIte,Nat.reduceEqDiff])|refine⟨by omega,?_⟩|fail)
   exact bJ hQ (.tup [.c (cI k),.c (cI (yL c s (es.getD k default)))]) rfl rfl (by simp[hkl,hSk])
theorem N9 {c:Cfg} {es:List Ev} (hb:aY c) (hcf:kC c) (hlen:es.length≤200) (h:K (.tup [.c (cI (XL c es).1),.c (cI (XL c es).2)]) H nx):aB Tryz.prog iE [dA (cH c),dS (es.map eEv)] H nx K:=
 (NH c es hb hcf hlen).pure rfl (aI ⟨aF rfl,aF rfl,trivial⟩) fun r hr=>hr▸h
end
end Go.Proofs.YtegiblhkjfiooaaGreat
end
section
namespace Go.AM
theorem ajG {α:Type} [Inhabited α] {l:List α} {k i:Nat} (hk:k<l.length):(l.take k++l.drop (k+1)).getD i default=if i<k then l.getD i default else l.getD (i+1) default:=by
 simp only[List.getD,List.getElem?_append,List.length_take,List.getElem?_take,List.getElem?_drop]
 have e1:min k l.length=k:=by omega
 rw[e1]
 by_cases h:i<k
 ·simp[h]
 ·rw[if_neg h,if_neg h]
  congr 2;omega
theorem ajT {c:Cfg} {es:List Ev} (hb:aY c) (hp:lJ c st0 es) {k j:Nat} (hk:k<es.length) (hd:(es.getD k default).kind=2) (hkj:k≤j) (hj:j<es.length) (ht:es.getD j default=⟨3,(es.getD k default).who,(es.getD k default).n⟩):
 ¬l8 c st0 (es.take k++es.drop (k+1))=(es.take k++es.drop (k+1)).length∧k≤l8 c st0 (es.take k++es.drop (k+1)):=by
 have hl:(es.take k++es.drop (k+1)).length=es.length-1:=by simp;omega
 refine⟨fun h=> ?_,ZW (by omega) ?_⟩
 ·have hp2:=R7 h
  have hne:j≠k:=fun he=>by subst he;rw[ht] at hd;simp at hd
  have hg:(es.take k++es.drop (k+1)).getD (j-1) default=es.getD j default:=by
   rw[ajG hk,if_neg (by omega)];congr 1;omega
  obtain⟨_,h2⟩:=JX hb hp2 (k:=j-1) (by omega)
  rw[hg,ht] at h2
  rcases h2 with h2|h2
  ·simp at h2
  ·have hk2:(⟨2,(es.getD k default).who,(es.getD k default).n⟩:Ev)=es.getD k default:=by
    generalize es.getD k default=e at*
    obtain⟨a,b,d⟩:=e;simp at hd;subst hd;rfl
   have h3:=List.mem_of_mem_take h2
   rw[show (3:Int)-1=2 from rfl,hk2,List.mem_append] at h3
   rcases h3 with h3|h3
   ·exact(JX hb hp hk).1 h3
   ·obtain⟨i,hi,he⟩:=List.mem_iff_getElem.1 h3
    rw[List.length_drop] at hi
    rw[List.getElem_drop] at he
    refine(JX hb hp (k:=k+1+i) (by omega)).1 ?_
    have e2:es.getD (k+1+i) default=es.getD k default:=by
     rw[←he];simp[List.getD,show k+1+i<es.length by omega]
    rw[e2,List.mem_take_iff_getElem]
    exact⟨k,by omega,by simp[List.getD,hk]⟩
 ·intro i hi
  have e1:(es.take k++es.drop (k+1)).take k=es.take k:=by
   rw[List.take_append_of_le_length (by simp;omega),List.take_take,Nat.min_self]
  rw[e1] at hi ⊢
  have:=hp i (by rw[List.length_take] at hi;omega)
  rw[List.take_take,Nat.min_eq_left (by rw[List.length_take] at hi;omega)]
  have hik:i<k:=by rw[List.length_take] at hi;omega
  rwa [show (es.take k).getD i default=es.getD i default by simp[List.getD,List.getElem?_take,hik]]
end Go.AM
end
section
namespace Go.Proofs.YtegiblhkjfiooaaGreat
open Go Go.AM
set_option maxRecDepth 100000
def u4:AC:=
 (.seq (.region [rq 0 2 (.alloc [OZ,OZ,OZ]),
 rq 1 3 (.move (.kv (.slice none 0 0)))] 2 [0,2])
 (.seq (.region [RM 0 5 0,
 rq 1 6 (.call sS [(.tm 5)]),
 RM 2 4 6] 3 [2,4])
 (.seq (.region [RM 0 7 4,
 rq 1 8 (.call vI [(.tm 7),(ki 7)]),
 RM 2 9 4,
 rq 3 10 (.call A4 [(.tm 9),(ki 90)]),
 rn 4 (.store 3 true (.tm 2) (.tm 8)),
 RM 5 3 10] 6 [2,3])
 .ret)))
def MS:List Cert:=[⟨[],[0,2]⟩,⟨[],[2,4]⟩,⟨[],[2,3]⟩]
def CP:List aZ:=[.cell 2 3 true,.tm 3]
theorem MW:aR Tryz.prog Tryz.f14 MS=some (u4,CP):=by kernel_rfl
theorem OD:aP Tryz.prog qD Tryz.f14 u4 CP:=
 aP.mk Tryz.func14 (by kernel_rfl) MW
def zK:AC:=
 (.seq (.region [rq 0 4 (.move (.kv (.slice none 0 0)))] 1 [0,1])
 (.seq (.region [rq 0 8 (.bI 3 0 [OZ,OZ,OZ] []),
 RM 1 5 8] 2 [0,1,5])
 (.seq (.region [rq 0 9 (.bI 1 4 [VZ] [(0,1,(ki 2)),(1,1,(ki 3)),(2,1,(ki 5)),(3,1,(ki 20))]),
 RM 1 10 0,
 rq 2 11 (.call aG [(.tm 10),(ki 4)]),
 rq 3 12 (.idx 1 (.tm 9) (.tm 11)),
 RL 4 13 12,
 RM 5 6 13] 6 [0,1,5,6])
 (.seq (.seq (.region [RM 0 14 0,
 RM 1 15 1,
 rq 2 16 (.call aG [(.tm 14),(.tm 15)]),
 RM 3 7 16] 4 [0,5,6,7])
 (.block 0
 (.loop
 (.seq (.seq (.region [RM 0 17 7,
 rq 1 18 (.bin .gtr (.tm 17) (ki 0))] 2 [0,5,6,7,18])
 (.cond (.tm 18)
 .skip
 (.exit 0)))
 (.seq (.block 1
 (.region [RM 0 21 5,
 RM 1 22 0,
 RM 2 23 6,
 rq 3 24 (.call DU [(.tm 22),(.tm 23)]),
 rq 4 25 (.bI 3 1 [OZ,OZ,OZ] [(0,3,(.tm 24))]),
 rq 5 26 (.append 3 (.tm 21) (.tm 25)),
 RM 6 5 26] 7 [0,5,6,7]))
 (.region [RM 0 19 7,
 rq 1 20 (.bin .sub (.tm 19) (ki 1)),
 RM 2 7 20] 3 [0,5,6,7]))))))
 (.seq (.region [RM 0 27 5,
 RM 1 4 27] 2 [4])
 .ret)))))
def RG:List Cert:=[⟨[],[0,1]⟩,⟨[],[0,1,5]⟩,⟨[],[0,1,5,6]⟩,⟨[],[0,5,6,7]⟩,⟨[],[0,5,6,7,18]⟩,⟨[],[0,5,6,7]⟩,⟨[],[0,5,6,7]⟩,⟨[],[4]⟩]
def GK:List aZ:=[.tm 4]
theorem SL:aR Tryz.prog Tryz.f57 RG=some (zK,GK):=by kernel_rfl
def BE:AC:=
 (.seq (.region [rq 0 4 (.alloc [OZ,OZ,OZ])] 1 [0,1,4])
 (.seq (.region [rq 0 8 (.call D7 []),
 rq 1 5 (.alloc [OZ,OZ,OZ]),
 rn 2 (.store 3 true (.tm 5) (.tm 8))] 3 [0,1,4,5])
 (.seq (.seq (.region [rq 0 6 (.move (ki 0))] 1 [0,1,4,5,6])
 (.block 0
 (.loop
 (.seq (.seq (.region [RM 0 9 6,
 rq 1 10 (.bin .lss (.tm 9) (ki 3))] 2 [0,1,4,5,6,10])
 (.cond (.tm 10)
 .skip
 (.exit 0)))
 (.seq (.block 1
 (.seq (.region [RF 0 13 0 5,
 ⟨1,(some 14),.load 1 false (.tm 13),none,[],[],true⟩,
 RM 2 15 6,
 RM 3 16 0,
 RM 4 17 1,
 ⟨5,(some 18),.call aG [(.tm 16),(.tm 17)],none,[],[1],false⟩,
 rq 6 19 (.bin .gtr (.tm 18) (ki 0)),
 rq 7 20 (.idx 1 (.tm 14) (.tm 15)),
 rn 8 (.store 1 false (.tm 20) (.tm 19))] 9 [0,1,4,5,6])
 (.region [RF 0 21 2 5,
 ⟨1,(some 22),.load 1 false (.tm 21),none,[],[],true⟩,
 RM 2 23 6,
 RM 3 24 0,
 RM 4 25 1,
 ⟨5,(some 26),.call aG [(.tm 24),(.tm 25)],none,[],[1],false⟩,
 rq 6 27 (.bin .gtr (.tm 26) (ki 0)),
 rq 7 28 (.idx 1 (.tm 22) (.tm 23)),
 rn 8 (.store 1 false (.tm 28) (.tm 27))] 9 [0,1,4,5,6])))
 (.region [RM 0 11 6,
 rq 1 12 (.bin .add (.tm 11) (ki 1)),
 RM 2 6 12] 3 [0,1,4,5,6]))))))
 (.seq (.seq (.region [rq 0 7 (.move (ki 0))] 1 [0,1,4,5,7])
 (.block 2
 (.loop
 (.seq (.seq (.region [RM 0 29 7,
 rq 1 30 (.bin .leq (.tm 29) (ki 3))] 2 [0,1,4,5,7,30])
 (.cond (.tm 30)
 .skip
 (.exit 2)))
 (.seq (.block 3
 (.region [RF 0 33 1 5,
 ⟨1,(some 34),.load 1 false (.tm 33),none,[],[],true⟩,
 RM 2 35 7,
 RM 3 36 0,
 RM 4 37 1,
 ⟨5,(some 38),.call aG [(.tm 36),(.tm 37)],none,[],[1],false⟩,
 rq 6 39 (.bin .eql (.tm 38) (ki 0)),
 rq 7 40 (.idx 1 (.tm 34) (.tm 35)),
 rn 8 (.store 1 false (.tm 40) (.tm 39))] 9 [0,1,4,5,7]))
 (.region [RM 0 31 7,
 rq 1 32 (.bin .add (.tm 31) (ki 1)),
 RM 2 7 32] 3 [0,1,4,5,7]))))))
 (.seq (.region [rq 0 41 (.load 3 true (.tm 5)),
 rn 1 (.store 3 true (.tm 4) (.tm 41))] 2 [4])
 .ret)))))
def U0:List Cert:=[⟨[],[0,1,4]⟩,⟨[],[0,1,4,5]⟩,⟨[],[0,1,4,5,6]⟩,⟨[],[0,1,4,5,6,10]⟩,⟨[cz 0,(1,[],[],true),cz 2,cz 3,cz 4,(5,[],[1],false),cz 6,cz 7,cz 8],[0,1,4,5,6]⟩,⟨[cz 0,(1,[],[],true),cz 2,cz 3,cz 4,(5,[],[1],false),cz 6,cz 7,cz 8],[0,1,4,5,6]⟩,⟨[],[0,1,4,5,6]⟩,⟨[],[0,1,4,5,7]⟩,⟨[],[0,1,4,5,7,30]⟩,⟨[cz 0,(1,[],[],true),cz 2,cz 3,cz 4,(5,[],[1],false),cz 6,cz 7,cz 8],[0,1,4,5,7]⟩,⟨[],[0,1,4,5,7]⟩,⟨[],[4]⟩]
def I9:List aZ:=[.cell 4 3 true]
theorem VW:aR Tryz.prog Tryz.f109 U0=some (BE,I9):=by kernel_rfl
def BK:AC:=
 (.seq (.region [rq 0 0 (.alloc [OZ,OZ,OZ])] 1 [0])
 (.seq (.region [rq 0 1 (.bI 1 3 [(.v (.bool false))] [(0,1,(.kv (.bool true))),(1,1,(.kv (.bool true))),(2,1,(.kv (.bool true)))]),
 rq 1 2 (.bI 1 4 [(.v (.bool false))] [(0,1,(.kv (.bool false))),(1,1,(.kv (.bool false))),(2,1,(.kv (.bool false))),(3,1,(.kv (.bool false)))]),
 rq 2 3 (.bI 1 3 [(.v (.bool false))] [(0,1,(.kv (.bool true))),(1,1,(.kv (.bool true))),(2,1,(.kv (.bool true)))]),
 rq 3 4 (.build [OZ,OZ,OZ] [(0,1,(.tm 1)),(1,1,(.tm 2)),(2,1,(.tm 3))]),
 rn 4 (.store 3 true (.tm 0) (.tm 4))] 5 [0])
 .ret))
def VV:List Cert:=[⟨[],[0]⟩,⟨[],[0]⟩]
def I1:List aZ:=[.cell 0 3 true]
theorem UB:aR Tryz.prog Tryz.f178 VV=some (BK,I1):=by kernel_rfl
end Go.Proofs.YtegiblhkjfiooaaGreat
end
section
namespace Go.Proofs.YtegiblhkjfiooaaGreat
open Go Go.AM
set_option maxRecDepth 100000
set_option maxHeartbeats 4000000
section
variable {H : aA} {nx : Nat} {K : D → aA → Nat → Prop}
theorem LW (l:List Int) (p:Nat) (n:Int) (hl:mI l) (hp50:p<2^50) (hn: -2^31<n∧n<2^31):aB Tryz.prog aG [dP 2 0,dI n] (hp [(0,rdO l p)]) 1
 fun r H' n'=>n'=1∧ ∃o',H'=hp [(0,o')]∧u6 o'∧o'=rdO l (p+1)∧ ∃x:Int,r=dI x∧0≤x∧(x<n∨x=0):=by
 have hl2:=hl.len
 refine J8 rfl fun Q hQ=> ?_
 unfold qO
 simp only[rdO]
 repeat' (first| (with_reducible first| (refine hK _ _ _ ?_;clear hK K)| (refine hA ?_;clear hA hB A B)| (refine hB ?_;clear hA hB A B)|refine Z1 ?_|refine Z2 ?_|refine Z6 (fun h=> ?_) fun h=> ?_)| (with_reducible first|refine Y2 fun K hK=> ?_|refine Y3 fun A B hA hB=> ?_|refine Y6 (fun h=> ?_) fun h=> ?_)<;>(simp only[go_sem];try simp (disch:=omega) only[Iw])| ((with_reducible refine Y8 ?_);try simp only[AQ.then,AQ.blk,reduceIte,Nat.reduceEqDiff])|refine⟨by omega,?_⟩|fail)
 ·exact lN hQ (dI 0) _ _ rfl (aF rfl) rfl (bM l (p+1)) ⟨rfl,0,rfl,by omega,by omega⟩
 ·exact lN hQ (dI 0) _ _ rfl (aF rfl) rfl (bM l (p+1)) ⟨rfl,0,rfl,by omega,by omega⟩
 ·have b1:=hl.at (p+1-1:Int).toNat
  rw[IntWalk.i64_in (l.getD _ _) (by omega)]
  exact lN hQ (dI _) _ _ rfl (aF rfl) rfl (bM l (p+1)) ⟨rfl,_,rfl,Int.tmod_nonneg _ (by omega),.inl (Int.tmod_lt_of_pos _ (by omega))⟩
 ·have e1:(p:Int)+1-1=p:=by omega
  rw[e1] at*
  have hl3:(0:Int)<l.length:=by omega
  have t1:=Int.tmod_nonneg (l.length:Int) (show (0:Int)≤p by omega)
  have t2:=Int.tmod_lt_of_pos (p:Int) hl3
  have t3:=Int.tmod_nonneg (l.length:Int) (show (0:Int)≤p*7+3 by omega)
  have t4:=Int.tmod_lt_of_pos ((p:Int)*7+3) hl3
  refine⟨⟨t1,t2⟩,by omega,⟨t3,t4⟩,by omega,hK _ _ _ ?_⟩
  clear hK K
  have b1:=hl.at ((p:Int).tmod l.length).toNat
  have b2:=hl.at ((p*7+3:Int).tmod l.length).toNat
  generalize l.getD ((p:Int).tmod l.length).toNat default=x1 at*
  generalize l.getD ((p*7+3:Int).tmod l.length).toNat default=x2 at*
  have d1:0≤(p:Int).tdiv l.length:=Int.tdiv_nonneg (by omega) (by omega)
  have d2:(p:Int).tdiv l.length≤p:=Int.tdiv_le_self _ (by omega)
  generalize (p:Int).tdiv l.length=q at*
  simp (disch:=omega) only[IntWalk.i64_in]
  have hx:0≤(x1:Int)*131+x2*1117+p*29+q*53∧(x1:Int)*131+x2*1117+p*29+q*53<2^60:=by omega
  generalize (x1:Int)*131+x2*1117+p*29+q*53=X at*
  have d3:0≤X.tdiv 64:=Int.tdiv_nonneg (by omega) (by omega)
  have d4:X.tdiv 64≤X:=Int.tdiv_le_self _ (by omega)
  have hy:=arC (a:=X) (b:=X.tdiv 64) (by omega) (by omega)
  repeat' (first| (with_reducible first| (refine hK _ _ _ ?_;clear hK K)|refine Z1 ?_)| (with_reducible refine Y2 fun K hK=> ?_)<;>(simp only[go_sem];try simp (disch:=omega) only[Iw])| ((with_reducible refine Y8 ?_);try simp only[AQ.then,AQ.blk,reduceIte,Nat.reduceEqDiff])|refine⟨by omega,?_⟩|fail)
  exact lN hQ (dI _) _ _ rfl (aF rfl) rfl (bM l (p+1)) ⟨rfl,_,rfl,Int.tmod_nonneg _ hy,.inl (Int.tmod_lt_of_pos _ (by omega))⟩
theorem bL {l:List Int} {p i:Nat} {n:Int} (hl:mI l) (hp50:p<2^50) (hn: -2^31<n∧n<2^31) (hi:i<nx) (ho:H i=some (rdO l p)) (h: ∀x:Int,0≤x→(x<n∨x=0)→K (dI x) (H.set i (rdO l (p+1))) nx):
 aB Tryz.prog aG [dP 2 i,dI n] H nx K:=
 (LW l p n hl hp50 hn).PN i rfl (hU ⟨AI (by omega) rfl,aF rfl,trivial⟩) hi ho (bM l p) fun r o' ⟨h1,x,h2,h3,h4⟩=>by
  subst h1;subst h2;exact h x h3 h4
theorem F8 (l:List Int) (p:Nat):aB Tryz.prog kY [dP 2 0,dI 99999] (hp [(0,rdO l p)]) 1
 fun r H' n'=>n'=1∧ ∃o',H'=hp [(0,o')]∧u6 o'∧o'=rdO l p∧r=dB false:=by
 refine K9 rfl fun Q hQ=> ?_
 unfold tF
 repeat' (first| (with_reducible first| (refine hK _ _ _ ?_;clear hK K)|refine Z1 ?_)| (with_reducible refine Y2 fun K hK=> ?_)<;>(simp only[go_sem])| ((with_reducible refine Y8 ?_);try simp only[AQ.then,AQ.blk,reduceIte,Nat.reduceEqDiff])|fail)
 exact lN hQ (dB false) _ _ rfl (aF rfl) rfl (bM l p) ⟨rfl,rfl⟩
theorem vP {l:List Int} {p i:Nat} (hi:i<nx) (ho:H i=some (rdO l p)) (h:K (dB false) (H.set i (rdO l p)) nx):aB Tryz.prog kY [dP 2 i,dI 99999] H nx K:=
 (F8 l p).PN i rfl (hU ⟨AI (by omega) rfl,aF rfl,trivial⟩) hi ho (bM l p) fun r o' ⟨h1,h2⟩=>by
  subst h1;subst h2;exact h
end
end Go.Proofs.YtegiblhkjfiooaaGreat
end
section
namespace Go.Proofs.YtegiblhkjfiooaaGreat
open Go Go.AM
set_option maxRecDepth 100000
set_option maxHeartbeats 4000000
section
variable {H : aA} {nx : Nat} {K : D → aA → Nat → Prop}
theorem R1 (l:List Int) (p:Nat) (hl:mI l) (hp50:p+7<2^50):aB Tryz.prog r9 [dP 2 0] (hp [(0,rdO l p)]) 1
 fun rr H' n'=>n'=1∧ ∃o',H'=hp [(0,o')]∧u6 o'∧ ∃(p':Nat) (x:Int),o'=rdO l p'∧p≤p'∧p'≤p+7∧rr=dI x∧(0≤x∧x≤63):=by
 refine PC rfl fun Q hQ=> ?_
 unfold xK
 repeat' (first| (with_reducible first| (refine hK _ _ _ ?_;clear hK K)|refine Z1 ?_)| (first| (with_reducible refine Y2 fun K hK=> ?_)| (refine bL hl (by omega) (by omega) (by omega) rfl (fun x h1 h2=> ?_)))<;>(simp only[go_sem];try simp (disch:=omega) only[Iw])|refine⟨by omega,?_⟩|fail)
 have hx:x=0∨x=1∨x=2∨x=3∨x=4∨x=5∨x=6∨x=7:=by omega
 rcases hx with rfl|rfl|rfl|rfl|rfl|rfl|rfl|rfl
 all_goals simp only[go_sem];try simp (disch:=omega) only[Iw]
 all_goals repeat' (first| (with_reducible (refine hK _ _ _ ?_;clear hK K))| ((with_reducible refine Y8 ?_);try simp only[AQ.then,AQ.blk,reduceIte,Nat.reduceEqDiff])|refine⟨by omega,?_⟩|fail)
 all_goals exact lN hQ (dI _) _ _ rfl (aF rfl) rfl (bM _ _) ⟨_,_,rfl,by omega,by omega,rfl,by omega,by omega⟩
theorem RT {l:List Int} {p i:Nat} (hl:mI l) (hp50:p+7<2^50) (hi:i<nx) (ho:H i=some (rdO l p)) (h: ∀(p':Nat) (x:Int),p≤p'→p'≤p+7→(0≤x∧x≤63)→K (dI x) (H.set i (rdO l p')) nx):
 aB Tryz.prog r9 [dP 2 i] H nx K:=
 (R1 l p hl hp50).PN i rfl (hU ⟨AI (by omega) rfl,trivial⟩) hi ho (bM l p) fun r o' ⟨p',x,h1,h2,h3,h4,h5⟩=>by
  subst h1;subst h4;exact KY (A:=fun d=>K d (H.set i (rdO l p')) nx) rfl (h p' x h2 h3 h5)
theorem VE (l:List Int) (p:Nat) (hl:mI l) (hp50:p+8<2^50):aB Tryz.prog vL [dP 2 0,dI 99999] (hp [(0,rdO l p)]) 1
 fun rr H' n'=>n'=1∧ ∃o',H'=hp [(0,o')]∧u6 o'∧ ∃(p':Nat) (m:List Rng),o'=rdO l p'∧p≤p'∧p'≤p+8∧rr=dS (m.map eY)∧(D3 m):=by
 refine RD rfl fun Q hQ=> ?_
 unfold yZ
 repeat' (first| (with_reducible first| (refine hK _ _ _ ?_;clear hK K)| (refine hA ?_;clear hA hB A B)| (refine hB ?_;clear hA hB A B)|refine Z1 ?_|refine Z2 ?_|refine Z3 fun KB hKB=> ?_|refine Z6 (fun h=> ?_) fun h=> ?_)| (first| (with_reducible first|refine Y2 fun K hK=> ?_|refine Y3 fun A B hA hB=> ?_)| (refine bL hl (by omega) (by omega) (by omega) rfl (fun x h1 h2=> ?_))| (refine vP (by omega) rfl ?_))<;>(simp only[go_sem];try simp (disch:=omega) only[Iw])| ((with_reducible refine Y8 ?_);try simp only[AQ.then,AQ.blk,reduceIte,Nat.reduceEqDiff])| ((with_reducible refine Y0 ?_);simp only[AQ.then,AQ.blk])|refine⟨by omega,?_⟩| (with_reducible refine hKB _ _ _ ?_)|fail)
 ·exact lN hQ (dS ((amG _ _).map eY)) _ _ rfl (vQ (l:=amG _ _) LF rfl rfl (by simp[amG]) (by decide)) rfl (bM _ _) ⟨_,amG _ _,rfl,by omega,by omega,rfl,anI _ _ (by omega)⟩
 ·have hx:x=0∨x=1∨x=2:=by omega
  rcases hx with rfl|rfl|rfl
  ·exact lN hQ (dS (((G7 false).take 1).map eY)) _ _ rfl (EA (rows:=((G7 false).take 1).map eY) (aC LF _) rfl (by decide) rfl rfl rfl (by simp[G7])) rfl (bM _ _) ⟨_,(G7 false).take 1,rfl,by omega,by omega,rfl,QH _ 1 (by decide)⟩
  ·exact lN hQ (dS (((G7 false).take 2).map eY)) _ _ rfl (EA (rows:=((G7 false).take 2).map eY) (aC LF _) rfl (by decide) rfl rfl rfl (by simp[G7])) rfl (bM _ _) ⟨_,(G7 false).take 2,rfl,by omega,by omega,rfl,QH _ 2 (by decide)⟩
  ·exact lN hQ (dS (((G7 _).take 3).map eY)) _ _ rfl (EA (rows:=((G7 _).take 3).map eY) (aC LF _) rfl (by decide) rfl rfl rfl (by simp[G7])) rfl (bM _ _) ⟨_,(G7 _).take 3,rfl,by omega,by omega,rfl,QH _ 3 (by decide)⟩
 ·exact lN hQ (dS (((G7 _).take 3).map eY)) _ _ rfl (EA (rows:=((G7 _).take 3).map eY) (aC LF _) rfl (by decide) rfl rfl rfl (by simp[G7])) rfl (bM _ _) ⟨_,(G7 _).take 3,rfl,by omega,by omega,rfl,QH _ 3 (by decide)⟩
theorem VF {l:List Int} {p i:Nat} (hl:mI l) (hp50:p+8<2^50) (hi:i<nx) (ho:H i=some (rdO l p)) (h: ∀(p':Nat) (m:List Rng),p≤p'→p'≤p+8→(D3 m)→K (dS (m.map eY)) (H.set i (rdO l p')) nx):
 aB Tryz.prog vL [dP 2 i,dI 99999] H nx K:=
 (VE l p hl hp50).PN i rfl (hU ⟨AI (by omega) rfl,aF rfl,trivial⟩) hi ho (bM l p) fun r o' ⟨p',m,h1,h2,h3,h4,h5⟩=>by
  subst h1;subst h4;exact KY (A:=fun d=>K d (H.set i (rdO l p')) nx) rfl (h p' m h2 h3 h5)
end
end Go.Proofs.YtegiblhkjfiooaaGreat
end
