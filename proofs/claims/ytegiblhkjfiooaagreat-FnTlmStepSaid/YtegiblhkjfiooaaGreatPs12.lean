/- Texts laid together by a program: rules, contracts and the walk that leads to the law. -/
import Derived.Test.YtegiblhkjfiooaaGreatPs11
import Derived.Test.YtegiblhkjfiooaaGreatPs10
import Derived.Test.YtegiblhkjfiooaaGreatPs5
import Derived.Test.YtegiblhkjfiooaaGreatPs4
set_option linter.unusedVariables false
set_option linter.unusedSimpArgs false
set_option linter.unusedSectionVars false
section
namespace Go.Proofs.YtegiblhkjfiooaaGreat
open Go Go.AM
set_option maxRecDepth 100000
set_option maxHeartbeats 8000000
section
variable {H : aA} {nx : Nat} {K : D → aA → Nat → Prop}
theorem awO {c:Cfg} {s:TSt} {e:Ev} {c0 c1 c2 c3 c4 c5 m0 m1 m2 m3 m4 m5 i0 i1 i2 i3 i4 i5 az6:Nat} (hb:aQ c) (hs:BA c s) (hwhy:X6 c s e=0) (hc:s.words.length≤c0∧s.holds.length≤c1∧s.asked.length≤c2∧s.wait.length≤c3∧s.done.length≤c4∧s.told.length≤c5) (hm:c3≤m3∧c4≤m4∧c5≤m5)
 (hlt:i0<nx∧i1<nx∧i2<nx∧i3<nx∧i4<nx∧i5<nx∧az6<nx) (hd:[i0,i1,i2,i3,i4,i5,az6].Nodup) (h0:H i0=some ⟨6,1,[oIm i1 i2 i3 i4 i5 az6 c0 c1 c2 c3 c4 c5 s]⟩) (h1:H i1=some ⟨1,m0,s.words.map aJ⟩) (h2:H i2=some ⟨1,m1,s.holds.map aJ⟩) (h3:H i3=some ⟨1,m2,s.asked.map aJ⟩) (h4:H i4=some ⟨5,m3,s.wait.map aS⟩) (h5:H i5=some ⟨5,m4,s.done.map aS⟩) (h6:H az6=some ⟨5,m5,s.told.map aS⟩)
 (h: ∀c3' c4' c5' m3' m4' m5',((lS c s e).wait.length≤c3'∧(lS c s e).done.length≤c4'∧(lS c s e).told.length≤c5')→(c3'≤m3'∧c4'≤m4'∧c5'≤m5')→K (.tup []) ((((((((((H.set i0 ⟨6,1,[oIm i1 i2 i3 nx (nx+1) (nx+2) c0 c1 c2 c3' c4' c5' (lS c s e)]⟩).set i1 ⟨1,m0,(lS c s e).words.map aJ⟩).set i2 ⟨1,m1,(lS c s e).holds.map aJ⟩).set i3 ⟨1,m2,(lS c s e).asked.map aJ⟩).del i4).del i5).del az6).set nx ⟨5,m3',(lS c s e).wait.map aS⟩).set (nx+1) ⟨5,m4',(lS c s e).done.map aS⟩).set (nx+2) ⟨5,m5',(lS c s e).told.map aS⟩) (nx+3)):
 aB Tryz.prog auD [dA (cU c),dP 6 i0,dA (eEv e)] H nx K:=by
 refine(awS c s e c0 c1 c2 c3 c4 c5 m0 m1 m2 m3 m4 m5 hb hs hwhy hc hm).AF [i0,i1,i2,i3,i4,i5,az6] rfl ⟨aE rfl,DG (by simp) rfl,aE rfl,trivial⟩ ?_ ?_ ?_ hd fun r H' n' _ ⟨c3',c4',c5',m3',m4',m5',q1,q2,q3,q4,q5⟩=> ?_
 ·refine⟨⟨by simp,id,_,h0,aP ?_⟩,⟨by simp,id,_,h1,bP (aG bF _) rfl rfl⟩,⟨by simp,id,_,h2,bP (aG bF _) rfl rfl⟩,⟨by simp,id,_,h3,bP (aG bF _) rfl rfl⟩,⟨by simp,id,_,h4,bP (aG dZ _) rfl rfl⟩,⟨by simp,id,_,h5,bP (aG dZ _) rfl rfl⟩,⟨by simp,id,_,h6,bP (aG dZ _) rfl rfl⟩,trivial⟩
  unfold oIm
  exact aH (aaF (by simp) rfl rfl rfl rfl) (aH (aaF (by simp) rfl rfl rfl rfl) (aH (aaF (by simp) rfl rfl rfl rfl) (aH (aaF (by simp) rfl rfl rfl rfl) (aH (aaF (by simp) rfl rfl rfl rfl) (aH (aaF (by simp) rfl rfl rfl rfl) eP)))))
 ·exact hd
 ·intro x hx;simp only[List.mem_cons,List.not_mem_nil,or_false] at hx;omega
 ·have h:=h c3' c4' c5' m3' m4' m5' q1 q2
  subst q3;subst q4;subst q5
  generalize lS c s e=S' at*
  have e0:bA.rn (tau 7 nx (nth [i0,i1,i2,i3,i4,i5,az6])) ⟨6,1,[oIm 1 2 3 7 8 9 c0 c1 c2 c3' c4' c5' S']⟩=⟨6,1,[oIm i1 i2 i3 nx (nx+1) (nx+2) c0 c1 c2 c3' c4' c5' S']⟩:=rfl
  have e1:back (tau 7 nx (nth [i0,i1,i2,i3,i4,i5,az6])) (hp [(0,⟨6,1,[oIm 1 2 3 7 8 9 c0 c1 c2 c3' c4' c5' S']⟩),(1,⟨1,m0,(S').words.map aJ⟩),(2,⟨1,m1,(S').holds.map aJ⟩),(3,⟨1,m2,(S').asked.map aJ⟩),(7,⟨5,m3',(S').wait.map aS⟩),(8,⟨5,m4',(S').done.map aS⟩),(9,⟨5,m5',(S').told.map aS⟩)]) 10 H=((((((((((H.set i0 ⟨6,1,[oIm i1 i2 i3 nx (nx+1) (nx+2) c0 c1 c2 c3' c4' c5' S']⟩).set i1 ⟨1,m0,S'.words.map aJ⟩).set i2 ⟨1,m1,S'.holds.map aJ⟩).set i3 ⟨1,m2,S'.asked.map aJ⟩).del i4).del i5).del az6).set nx ⟨5,m3',S'.wait.map aS⟩).set (nx+1) ⟨5,m4',S'.done.map aS⟩).set (nx+2) ⟨5,m5',S'.told.map aS⟩):=by
   simp only[back,hp,aA.set,aA.nil,Option.map_some,Option.map_none,e0,uB,BB,aA.eL,aA.yI,if_true,Nat.reduceEqDiff,if_false,reduceIte]
   rfl
  rw[←e1] at h
  exact h
theorem azA {s:TSt} {H:aA} {F:Nat→Prop} {σ:Nat→Nat} {nh i1 i2 i3 i4 i5 az6 c0 c1 c2 c3 c4 c5 m0 m1 m2 m3 m4 m5:Nat} (hc:s.words.length≤c0∧s.holds.length≤c1∧s.asked.length≤c2∧s.wait.length≤c3∧s.done.length≤c4∧s.told.length≤c5) (h1:H i1=some ⟨1,m0,s.words.map aJ⟩) (h2:H i2=some ⟨1,m1,s.holds.map aJ⟩) (h3:H i3=some ⟨1,m2,s.asked.map aJ⟩) (h4:H i4=some ⟨5,m3,s.wait.map aS⟩) (h5:H i5=some ⟨5,m4,s.done.map aS⟩) (h6:H az6=some ⟨5,m5,s.told.map aS⟩)
 (f1:F i1) (f2:F i2) (f3:F i3) (f4:F i4) (f5:F i5) (f6:F az6):CvL H F σ nh (eSt s) (oIm i1 i2 i3 i4 i5 az6 c0 c1 c2 c3 c4 c5 s):=by
 obtain⟨q1,q2,q3,q4,q5,q6⟩:=hc
 exact aH (bW bF h1 rfl q1 f1) (aH (bW bF h2 rfl q2 f2) (aH (bW bF h3 rfl q3 f3) (aH (bW dZ h4 rfl q4 f4) (aH (bW dZ h5 rfl q5 f5) (aH (bW dZ h6 rfl q6 f6) eP)))))
theorem aoK {i0 i1 i2 i3 i4 i5 c0 c1 c2 c3 c4 c5:Nat} {s:TSt}:(oIm i0 i1 i2 i3 i4 i5 c0 c1 c2 c3 c4 c5 s).length=6:=rfl
theorem aj7 {i0 i1 i2 i3 i4 i5 c0 c1 c2 c3 c4 c5:Nat} {s:TSt}:(oIm i0 i1 i2 i3 i4 i5 c0 c1 c2 c3 c4 c5 s).take 6=oIm i0 i1 i2 i3 i4 i5 c0 c1 c2 c3 c4 c5 s:=rfl
theorem akC {i0 i1 i2 i3 i4 i5 c0 c1 c2 c3 c4 c5:Nat} {s:TSt}:(oIm i0 i1 i2 i3 i4 i5 c0 c1 c2 c3 c4 c5 s).drop 6=[]:=rfl
theorem alF {i0 i1 i2 i3 i4 i5 c0 c1 c2 c3 c4 c5 k:Nat} {s:TSt} {cs:List D1}:iA cs (k+1) (oIm i0 i1 i2 i3 i4 i5 c0 c1 c2 c3 c4 c5 s)=iA cs (k+1) [.osl 1 i0 0 s.words.length c0,.osl 1 i1 0 s.holds.length c1,.osl 1 i2 0 s.asked.length c2,.osl 5 i3 0 s.wait.length c3,.osl 5 i4 0 s.done.length c4,.osl 5 i5 0 s.told.length c5]:=rfl
attribute [go_sem] aoK aj7 akC alF
end
end Go.Proofs.YtegiblhkjfiooaaGreat
end
section
namespace Go.AM
abbrev TE:=List Job
def IF (l:TE):List D1:=[.isl (l.map aS)]
theorem ag7 {l:TE}:(IF l).length=1:=rfl
theorem aaZ {l:TE}:(IF l).take 1=[.isl (l.map aS)]:=rfl
theorem ZY {l:TE}:(IF l).drop 1=[]:=rfl
theorem ae8 {l:TE} {cs:List D1} {k:Nat}:iA cs (k+1) (IF l)=iA cs (k+1) [.isl (l.map aS)]:=rfl
theorem al7 (l:TE):(IF l).length=1∧(IF l).all D1.dQ=true:=⟨rfl,rfl⟩
attribute [go_sem] ag7 aaZ ZY ae8
end Go.AM
namespace Go.Proofs.YtegiblhkjfiooaaGreat
open Go Go.AM
set_option maxRecDepth 100000
set_option maxHeartbeats 8000000
section
variable {H : aA} {nx : Nat} {K : D → aA → Nat → Prop}
theorem ac0 {l:List Job} (h: ∀i,i<l.length→1≤i→ad5 (l.getD (i-1) default) (l.getD i default)<0):kW l:=by
 have h2: ∀(d i:Nat) (hi:i+d+1<l.length),uL (l.getD i default) (l.getD (i+d+1) default)=true:=by
  intro d
  induction d with
  |zero=>intro i hi;have:=h (i+1) (by omega) (by omega);rw[E7] at this;simpa using this
  |succ d ih=>
   intro i hi
   have h3:=ih i (by omega)
   have h4:=h (i+d+2) (by omega) (by omega)
   rw[E7,show i+d+2-1=i+d+1 by omega] at h4
   rw[show i+(d+1)+1=i+d+2 by omega]
   rw[qL] at*
   omega
 refine List.pairwise_iff_getElem.2 fun i j hi hj hij=> ?_
 have:=h2 (j-i-1) i (by omega)
 rw[show i+(j-i-1)+1=j by omega] at this
 simpa [List.getD,hi,hj] using this
theorem TI (l:List Job) (hl:l.length<2^20):aB Tryz.prog oI [dS (l.map aS)] .nil 0 fun rr _ _=>rr.plain=true∧rr=dB (decide (kW l)):=by
 refine Q2 rfl fun Q hQ=> ?_
 unfold x7
 repeat' (first| (with_reducible first| (refine hK _ _ _ ?_;clear hK K)|refine Z1 ?_|refine Z3 fun KB hKB=> ?_)| (with_reducible refine Y2 fun K hK=> ?_)<;>(simp only[go_sem])|fail)
 (have hKX:=hKB;clear hKB)
 refine aM.sG 0 (β:=Nat) (fun b k=>en [(3,dI k),(0,dS (l.map aS))]) (fun b k=>hp []) (fun k=>(1≤k∧(k≤l.length∨k=1))∧ ∀i,i<k→i<l.length→1≤i→ad5 (l.getD (i-1) default) (l.getD i default)<0) (fun k=>l.length-k) 1 (bU (Nat.le_refl _) (by repeat' (first| (with_reducible first|exact C1|refine C2 ?_ ?_)| ((with_reducible refine D0 ?_);exact CA rfl)|fail))) ⟨by omega,fun i hi _ _=>by omega⟩ ?_
 rintro k ⟨hk,hinv⟩ KL hKL
 by_cases hlt:k<l.length
 ·have e1:((k:Int)-1).toNat=k-1:=by omega
  repeat' (first| (with_reducible first| (refine hK _ _ _ ?_;clear hK K)| (refine hA ?_;clear hA hB A B)| (refine hB ?_;clear hA hB A B)|refine Z1 ?_|refine Z2 ?_|refine Z3 fun KB hKB=> ?_|refine Z4 (by omega) ?_|refine Z6 (fun h=> ?_) fun h=> ?_)| (first| (with_reducible first|refine Y2 fun K hK=> ?_|refine Y3 fun A B hA hB=> ?_)| (with_reducible refine xM ?_))<;>(simp only[go_sem,e1];try simp (disch:=omega) only[Iw])| ((with_reducible refine Y8 ?_);try simp only[AQ.then,AQ.blk,reduceIte,Nat.reduceEqDiff])| ((with_reducible refine Y0 ?_);simp only[AQ.then,AQ.blk])|refine⟨by omega,?_⟩| (with_reducible refine hKB _ _ _ ?_)|fail)
  ·refine aZ hQ (dB false) rfl rfl (j7 fun hs=> ?_)
   have h5:=List.pairwise_iff_getElem.1 hs (k-1) k (by omega) hlt (by omega)
   have h6:ad5 (l.getD (k-1) default) (l.getD k default)<0:=by rw[E7];simpa [List.getD,hlt,show k-1<l.length by omega] using h5
   omega
  ·exact hKL _ _ _ (k+1) (by omega) (bU (Nat.le_refl _) (by repeat' (first| (with_reducible first|exact C1|refine C2 ?_ ?_)| ((with_reducible refine D0 ?_);exact CA rfl)|fail))) ⟨by omega,fun i hi hl2 h1=>by
    rcases Nat.lt_succ_iff_lt_or_eq.1 hi with h2|h2
    ·exact hinv i h2 hl2 h1
    ·subst h2;omega⟩ (by omega)
 ·repeat' (first| (with_reducible first| (refine hK _ _ _ ?_;clear hK K)| (refine hB ?_;clear hA hB A B)|refine Z1 ?_|refine Z5 (by omega) ?_|refine hKX _ _ _ ?_)| (with_reducible first|refine Y2 fun K hK=> ?_|refine Y3 fun A B hA hB=> ?_)<;>(simp only[go_sem])| ((with_reducible first|refine Y8 ?_|refine Y9 ?_);try simp only[AQ.then,AQ.blk,reduceIte,Nat.reduceEqDiff])|fail)
  exact aZ hQ (dB true) rfl rfl (q9 (ac0 fun i hi h1=>hinv i (by omega) hi h1))
theorem IK {l:List Job} (hl:l.length<2^20) {d0:D} (hd0:CvD H (fun _=>True) id 0 (dS (l.map aS)) d0) (h:K (dB (decide (kW l))) H nx):aB Tryz.prog oI [d0] H nx K:=
 (TI l hl).pure rfl (aI ⟨hd0,trivial⟩) (fun r hr=>hr▸h)
theorem JU (r:Rsp) (hr:r.data.length<2^40):aB Tryz.prog iT [dA (tG r)] .nil 0 fun rr _ _=>rr.plain=true∧rr=dB (decide (r=oW)):=by
 refine HU rfl fun Q hQ=> ?_
 unfold nO
 repeat' (first| (with_reducible first| (refine hK _ _ _ ?_;clear hK K)|refine Z1 ?_)| (with_reducible first|refine Y2 fun K hK=> ?_|refine Y6 (fun h=> ?_) fun h=> ?_)<;>(simp only[go_sem])| ((with_reducible refine Y8 ?_);try simp only[AQ.then,AQ.blk,reduceIte,Nat.reduceEqDiff])|fail)
 all_goals first|with_reducible refine aZ hQ _ rfl rfl ?_|skip
 all_goals (obtain⟨r1,r2,r3⟩:=r;unfold oW;dsimp only at*;first|exact q9 (by simp_all)|exact j7 (by simp_all)|exact pD (by simp_all)|exact pD (by simp only[Rsp.mk.injEq];rw[←List.length_eq_zero_iff];omega))
theorem JG {r:Rsp} (hr:r.data.length<2^40) (h:K (dB (decide (r=oW))) H nx):aB Tryz.prog iT [dA (tG r)] H nx K:=
 (JU r hr).pure rfl (aI ⟨aE rfl,trivial⟩) (fun r hr=>hr▸h)
theorem W1 (r:Rsp) (hr:r.data.length<2^40):aB Tryz.prog m6 [dA (tG r)] .nil 0 fun rr _ _=>rr.plain=true∧rr=dB (decide (pA r)):=by
 refine UX rfl fun Q hQ=> ?_
 unfold z8
 repeat' (first| (with_reducible first| (refine hK _ _ _ ?_;clear hK K)|refine Z1 ?_)| (first| (with_reducible first|refine Y2 fun K hK=> ?_|refine Y6 (fun h=> ?_) fun h=> ?_)| (with_reducible refine fE ?_)| (refine vG hr (aE rfl) ?_))<;>(simp only[go_sem])| ((with_reducible refine Y8 ?_);try simp only[AQ.then,AQ.blk,reduceIte,Nat.reduceEqDiff])|fail)
 all_goals first|with_reducible refine aZ hQ _ rfl rfl ?_|skip
 all_goals first|exact j7 (by unfold pA;grind)|exact pD (by unfold pA;grind)|exact q9 (by unfold pA;grind)
theorem YD {r:Rsp} (hr:r.data.length<2^40) (h:K (dB (decide (pA r))) H nx):aB Tryz.prog m6 [dA (tG r)] H nx K:=
 (W1 r hr).pure rfl (aI ⟨aE rfl,trivial⟩) (fun r hr=>hr▸h)
theorem HK {r:Rsp} (hr:r.data.length<2^40) (h:K (dB (decide (r=oW))) H nx):aB Tryz.prog iT [.one (.agg [cI r.id,cI r.code,.isl (r.data.map aJ)])] H nx K:=JG hr h
theorem I8 {r:Rsp} (hr:r.data.length<2^40) (h:K (dB (decide (pA r))) H nx):aB Tryz.prog m6 [.one (.agg [cI r.id,cI r.code,.isl (r.data.map aJ)])] H nx K:=YD hr h
def UB (l:List Job):List (List Int×Int):=l.map fun j=>([j.who,j.n],1)
theorem alK {l:List Job} {j:Job} (h:key j∉l.map key):jT (UB l) [j.who,j.n]=none:=by
 unfold jT UB
 rw[Option.map_eq_none_iff,List.find?_eq_none]
 intro p hp
 obtain⟨x,hx,rfl⟩:=List.mem_map.1 hp
 simp only[List.cons.injEq,and_true,decide_eq_true_eq]
 intro he
 exact h (List.mem_map.2 ⟨x,hx,by simp[key,he.1,he.2]⟩)
theorem alD {l:List Job} {j:Job} (h:key j∉l.map key):vA (UB l) [j.who,j.n] 1=UB (l++[j]):=by
 induction l with
 |nil=>rfl
 |cons x l ih=>
  simp only[List.map_cons,List.mem_cons,not_or] at h
  have hne: ¬[j.who,j.n]=[x.who,x.n]:=fun he=>h.1 (by simp only[List.cons.injEq,and_true] at he;simp[key,he.1,he.2])
  show vA (([x.who,x.n],1)::UB l) _ _=_
  simp only[vA,hne,if_false,ih h.2]
  rfl
theorem amR {l:List Job}:(UB l).length=l.length:=by simp[UB]
theorem alS {l:List Int} {k:Nat} (h:k<l.length):(l.take (k+1)).sum=(l.take k).sum+l.getD k default:=by
 rw[List.take_succ_eq_append_getElem h,List.sum_append];simp[List.getD,h]
theorem af9 {l:List Int} (h:l.length=3):(l.take 3).sum=l.getD 0 default+l.getD 1 default+l.getD 2 default:=by
 match l,h with
 | [a,b,c],_=>simp[List.getD];omega
theorem ZS {w u:List Int} (h:WK w u):JS w u:=⟨⟨by rw[h.wl];rfl,h.wr⟩,by rw[h.hl];rfl,h.hr⟩
theorem HM (c:Cfg) (s:TSt) (hb:aQ c) (hs:BA c s):aB Tryz.prog j9 [dA (cU c),dA (eSt s)] .nil 0 fun rr _ _=>rr.plain=true∧rr=dB true:=by
 refine GV rfl fun Q hQ=> ?_
 unfold mC
 obtain⟨hp3,hp12⟩:=hC hb
 have hatm:=ZS hs.atm
 have hwl:=hs.atm.wl
 have hhl:=hs.atm.hl
 have hal:=hs.JI
 have hls:=hs.lens hb
 have hag:=hs.DC
 have hsum3:=af9 hal
 have hcnt:=hs.count
 have hd: ∀j∈s.wait++s.done++s.told,j.rsp.data.length<2^40:=fun j hj=>by
  simp only[List.mem_append] at hj
  rcases hj with(hj|hj)|hj
  ·rw[hs.P4 j hj];decide
  ·have:=(hs.R8 j (by simp[hj])).1.2.2.1;omega
  ·have:=(hs.R8 j (by simp[hj])).1.2.2.1;omega
 repeat' (first| (with_reducible first| (refine hK _ _ _ ?_;clear hK K)| (refine hB ?_;clear hA hB A B)|refine Z1 ?_|refine Z2 ?_|refine Z3 fun KB hKB=> ?_)| (first| (with_reducible first|refine Y2 fun K hK=> ?_|refine Y3 fun A B hA hB=> ?_|refine Y5 (by omega) ?_)| (refine JZ (w:=s.words) (u:=s.holds) (by omega) (by omega) (aE rfl) ?_)| (refine IK (l:=s.wait) (by omega) (aE rfl) ?_)| (refine IK (l:=s.done) (by omega) (aE rfl) ?_))<;>(simp only[go_sem,eq_true hatm,eq_true hs.NR,eq_true hs.NW])|fail)
 (have hKX:=hKB;clear hKB)
 refine aM.sG 0 (β:=Nat) (fun b k=>en [(38,dI k),(37,dI s.asked.length),(36,dS (s.asked.map aJ)),(5,dI (s.asked.take k).sum),(3,.one (.c (.fQ (eSt s)))),(2,.one (.c (.fQ (cU c))))]) (fun b k=>.nil) (fun k=>k≤3∧0≤(s.asked.take k).sum∧(s.asked.take k).sum≤12*k) (fun k=>3-k) 0 (bU (Nat.le_refl _) (by repeat' (first| (with_reducible first|exact C1|refine C2 ?_ ?_)| ((with_reducible refine D0 ?_);first|exact CA rfl|exact CI rfl (by simp) rfl rfl rfl)|fail))) ⟨by omega,by simp,by simp⟩ ?_
 rintro k ⟨hk,h1,h2⟩ KL hKL
 by_cases hlt:k<3
 ·have hg:=hag k hlt
  have hst:=alS (l:=s.asked) (k:=k) (by omega)
  have hpk:=hp12 k
  repeat' (first| (with_reducible first| (refine hK _ _ _ ?_;clear hK K)| (refine hA ?_;clear hA hB A B)| (refine hB ?_;clear hA hB A B)|refine Z1 ?_|refine Z2 ?_|refine Z3 fun KB hKB=> ?_|refine Z4 (by omega) ?_|refine Z5 (by omega) ?_)| (first| (with_reducible first|refine Y2 fun K hK=> ?_|refine Y3 fun A B hA hB=> ?_)| (with_reducible refine fE ?_))<;>(simp only[go_sem];try simp (disch:=omega) only[Iw])| ((with_reducible refine Y0 ?_);simp only[AQ.then,AQ.blk])|refine⟨by omega,?_⟩| (with_reducible refine hKB _ _ _ ?_)|fail)
  exact hKL _ _ _ (k+1) (by omega) (by rw[hst];exact bU (by omega) (by repeat' (first| (with_reducible first|exact C1|refine C2 ?_ ?_)| ((with_reducible refine D0 ?_);exact CA rfl)|fail))) ⟨by omega,by rw[hst];omega,by rw[hst];omega⟩ (by omega)
 have hk3:k=3:=by omega
 subst hk3
 repeat' (first| (with_reducible first| (refine hK _ _ _ ?_;clear hK K)| (refine hB ?_;clear hA hB A B)|refine Z1 ?_|refine Z3 fun KB hKB=> ?_|refine Z5 (by omega) ?_|refine hKX _ _ _ ?_)| (with_reducible first|refine Y2 fun K hK=> ?_|refine Y3 fun A B hA hB=> ?_)<;>(simp only[go_sem])| ((with_reducible refine Y9 ?_);try simp only[AQ.then,AQ.blk,reduceIte,Nat.reduceEqDiff])|fail)
 (have hKY:=hKB;clear hKB)
 obtain⟨LL,hLL⟩: ∃LL:List TE,LL=[s.wait,s.done,s.told]:=⟨_,rfl⟩
 have hLl:LL.length=3:=by subst hLL;rfl
 have hLr:[[D1.isl (s.wait.map aS)],[D1.isl (s.done.map aS)],[D1.isl (s.told.map aS)]]=LL.map IF:=by subst hLL;rfl
 obtain⟨seen,hse⟩: ∃seen:Nat→List Job,seen=fun k=>(LL.take k).flatten:=⟨_,rfl⟩
 have hs0:seen 0=[]:=by subst hse;rfl
 have hs3:(seen 3).length=s.wait.length+s.done.length+s.told.length:=by subst hse;subst hLL;simp;omega
 have hss: ∀k,k<3→seen (k+1)=seen k++LL.getD k default:=fun k hk=>by
  subst hse
  simp only
  rw[List.take_succ_eq_append_getElem (by omega),List.flatten_append]
  simp[List.getD,show k<LL.length by omega]
 have hnd: ∀k,k<3→((seen k++LL.getD k default).map key).Nodup:=fun k hk=>by
  have hn:=hs.nodup
  unfold keys at hn
  have:k=0∨k=1∨k=2:=by omega
  subst hse;subst hLL
  rcases this with rfl|rfl|rfl
  ·have:(s.wait.map key).Nodup:=by
    simp only[List.map_append,List.append_assoc] at hn;exact(List.nodup_append.1 hn).1
   simpa [List.getD] using this
  ·have:((s.wait++s.done).map key).Nodup:=by
    rw[List.map_append] at hn;exact(List.nodup_append.1 hn).1
   simpa [List.getD] using this
  ·simpa [List.getD] using hn
 have hmem: ∀k,k<3→∀j∈LL.getD k default,j∈s.wait++s.done++s.told:=fun k hk j hj=>by
  have:k=0∨k=1∨k=2:=by omega
  subst hLL
  rcases this with rfl|rfl|rfl<;>(simp[List.getD] at hj;simp[hj])
 have hL0: ∀j∈LL.getD 0 default,j.rsp=oW:=fun j hj=>by
  subst hLL;simp[List.getD] at hj;exact hs.P4 j hj
 have hL1: ∀k,k<3→0<k→∀j∈LL.getD k default,pA j.rsp∧j.rsp.id=(bT c j.who j.n).id:=fun k hk h0 j hj=>by
  have:k=1∨k=2:=by omega
  subst hLL
  rcases this with rfl|rfl<;>(simp[List.getD] at hj;exact hs.R8 j (by simp[hj]))
 have hLs: ∀k,k<3→(LL.getD k default).length≤36:=fun k hk=>by
  have:k=0∨k=1∨k=2:=by omega
  subst hLL
  rcases this with rfl|rfl|rfl<;>(simp[List.getD];omega)
 rw[hLr]
 clear hLr hLL hse
 refine aM.sG 1 (β:=Nat) (fun b k=>en [(65,dI k),(64,dI 3),(63,dS (LL.map IF)),(8,.one (.c (.omap b))),(5,dI (s.asked.take 3).sum),(3,.one (.c (.fQ (eSt s)))),(2,.one (.c (.fQ (cU c))))]) (fun b k=>hp [(b,u4 ⟨2,true,UB (seen k)⟩)]) (fun k=>k≤3) (fun k=>3-k) 0 ?_ (by omega) ?_
 ·refine cR [31] (by omega) ?_ ⟨⟨by simp,by simp[sgL],_,rfl,GH (by rw[hs0];rfl)⟩,trivial⟩ (by simp[sgL])
  refine oF (oF (oF (oF (oF (oF (oF K6 ?_) ?_) ?_) ?_) ?_) ?_) ?_
  all_goals first
   |exact DJ (rows:=LL.map IF) (aG al7 LL) (by simp;omega) (by simp) rfl rfl (List.take_of_length_le (by simp)) (by simp;omega)
   |exact apS (aa6 (by omega) rfl)
   | (repeat' ((with_reducible refine D0 ?_);exact CA rfl);done)
 intro k hk KM hKM
 by_cases hlt:k<3
 ·have hss1:=hss k hlt
  have hnd1:=hnd k hlt
  have hmm:=hmem k hlt
  have hr0:k=0→∀j∈LL.getD k default,j.rsp=oW:=fun h=>by subst h;exact hL0
  have hr1:=hL1 k hlt
  have hlk:=hLs k hlt
  generalize hcur:LL.getD k default=cur at hss1 hnd1 hmm hr0 hr1 hlk
  repeat' (first| (with_reducible first| (refine hK _ _ _ ?_;clear hK K)| (refine hA ?_;clear hA hB A B)|refine Z1 ?_|refine Z2 ?_|refine Z3 fun KB hKB=> ?_|refine Z4 (by omega) ?_)| (with_reducible first|refine Y2 fun K hK=> ?_|refine Y3 fun A B hA hB=> ?_)<;>(simp only[go_sem,hcur])|refine⟨by omega,?_⟩|fail)
  (have hKZ:=hKB;clear hKB)
  refine aM.sG 1 (β:=Nat) (fun b i=>en [(72,dI i),(71,dI cur.length),(70,dS (cur.map aS)),(65,dI k),(64,dI 3),(63,dS (LL.map IF)),(9,dI k),(8,.one (.c (.omap b))),(5,dI (s.asked.take 3).sum),(3,.one (.c (.fQ (eSt s)))),(2,.one (.c (.fQ (cU c))))]) (fun b i=>hp [(b,u4 ⟨2,true,UB (seen k++cur.take i)⟩)]) (fun i=>i≤cur.length) (fun i=>cur.length-i) 0 (by(refine cR [42] (by omega) (by repeat' (first| (with_reducible first|exact C1|refine C2 ?_ ?_)| ((with_reducible refine C0 ?_);exact CR (by omega) rfl)| ((with_reducible refine D0 ?_);first|exact CA rfl|refine CJ ?_)|fail)) ⟨⟨by simp,by simp[sgL],_,rfl,GH (by simp)⟩,trivial⟩ (by simp[sgL]))) (by omega) ?_
  intro i hi KN hKN
  by_cases hil:i<cur.length
  ·have hjm:=hmm _ (cC hil)
   have hjd:=hd _ hjm
   have hja:=hs.mem hjm
   have hjj:=hs.ab8 (key (cur.getD i default)) (List.mem_map_of_mem hjm)
   have hj0:=fun h=>hr0 h _ (cC hil)
   have hj1:=fun h=>hr1 h _ (cC hil)
   have hts:cur.take (i+1)=cur.take i++[cur.getD i default]:=by rw[List.take_succ_eq_append_getElem hil];simp[List.getD,hil]
   have hni:key (cur.getD i default)∉(seen k++cur.take i).map key:=fun hm=>by
    have e:seen k++cur=(seen k++cur.take i)++(cur.getD i default::cur.drop (i+1)):=by
     rw[List.append_assoc];congr 1
     have:cur.getD i default=cur[i]:=by simp[List.getD,hil]
     rw[this,←List.drop_eq_getElem_cons hil,List.take_append_drop]
    rw[e,List.map_append] at hnd1
    exact(List.nodup_append.1 hnd1).2.2 _ hm _ (by simp) rfl
   have hget:=alK hni
   have hset:=alD hni
   simp only[key] at hjj
   have har:=hs.DC (cur.getD i default).who.toNat (by omega)
   have hpk:=hp12 (cur.getD i default).who.toNat
   by_cases hk0:k=0
   ·have hjr:=hj0 hk0
    repeat' (first| (with_reducible first| (refine hK _ _ _ ?_;clear hK K)| (refine hA ?_;clear hA hB A B)| (refine hB ?_;clear hA hB A B)|refine Z1 ?_|refine Z2 ?_|refine Z3 fun KB hKB=> ?_|refine Z4 (by omega) ?_)| (first| (with_reducible first|refine Y2 fun K hK=> ?_|refine Y3 fun A B hA hB=> ?_|refine Y4 (by omega) ?_|refine Y5 (by omega) ?_)| (with_reducible refine oR ?_)| (with_reducible refine fE ?_)| (with_reducible refine HK hjd ?_))<;>(simp only[go_sem,hget,hset,Option.getD_none,eq_true hjr];try simp (disch:=omega) only[Iw])| ((with_reducible refine Y0 ?_);simp only[AQ.then,AQ.blk])|refine⟨by omega,?_⟩| (with_reducible refine hKB _ _ _ ?_)|fail)
    exact hKN _ _ _ (i+1) (by omega) (by(refine cR [52] (by omega) (by repeat' (first| (with_reducible first|exact C1|refine C2 ?_ ?_)| ((with_reducible refine C0 ?_);exact CR (by omega) rfl)| ((with_reducible refine D0 ?_);first|exact CA rfl|refine CJ ?_)|fail)) ⟨⟨by simp,by simp[sgL],_,rfl,GH (by rw[hts,List.append_assoc])⟩,trivial⟩ (by simp[sgL]))) (by omega) (by omega)
   ·obtain⟨hjr1,hjr2⟩:=hj1 (by omega)
    repeat' (first| (with_reducible first| (refine hK _ _ _ ?_;clear hK K)| (refine hA ?_;clear hA hB A B)| (refine hB ?_;clear hA hB A B)|refine Z1 ?_|refine Z2 ?_|refine Z3 fun KB hKB=> ?_|refine Z4 (by omega) ?_|refine Z5 (by omega) ?_)| (first| (with_reducible first|refine Y2 fun K hK=> ?_|refine Y3 fun A B hA hB=> ?_|refine Y4 (by omega) ?_|refine Y5 (by omega) ?_)| (with_reducible refine oR ?_)| (with_reducible refine fE ?_)| (with_reducible refine I8 hjd ?_)| (with_reducible refine iJ hp3 hja ?_))<;>(simp only[go_sem,hget,hset,Option.getD_none,eq_true hjr1];try simp (disch:=omega) only[Iw])| ((with_reducible refine Y0 ?_);simp only[AQ.then,AQ.blk])|refine⟨by omega,?_⟩| (with_reducible refine hKB _ _ _ ?_)|fail)
    exact hKN _ _ _ (i+1) (by omega) (by(refine cR [52] (by omega) (by repeat' (first| (with_reducible first|exact C1|refine C2 ?_ ?_)| ((with_reducible refine C0 ?_);exact CR (by omega) rfl)| ((with_reducible refine D0 ?_);first|exact CA rfl|refine CJ ?_)|fail)) ⟨⟨by simp,by simp[sgL],_,rfl,GH (by rw[hts,List.append_assoc])⟩,trivial⟩ (by simp[sgL]))) (by omega) (by omega)
  ·have hi2:i=cur.length:=by omega
   subst hi2
   rw[List.take_length,←hss1]
   repeat' (first| (with_reducible first| (refine hK _ _ _ ?_;clear hK K)| (refine hB ?_;clear hA hB A B)|refine Z1 ?_|refine Z5 (by omega) ?_|refine hKZ _ _ _ ?_)| (with_reducible first|refine Y2 fun K hK=> ?_|refine Y3 fun A B hA hB=> ?_)<;>(simp only[go_sem];try simp (disch:=omega) only[Iw])| ((with_reducible refine Y9 ?_);try simp only[AQ.then,AQ.blk,reduceIte,Nat.reduceEqDiff])| ((with_reducible refine Y0 ?_);simp only[AQ.then,AQ.blk])| (with_reducible refine hKB _ _ _ ?_)|fail)
   exact hKM _ _ _ (k+1) (by omega) (by(refine cR [52] (by omega) (by repeat' (first| (with_reducible first|exact C1|refine C2 ?_ ?_)| ((with_reducible refine C0 ?_);exact CR (by omega) rfl)| ((with_reducible refine D0 ?_);first|exact CA rfl|refine CJ ?_)|fail)) ⟨⟨by simp,by simp[sgL],_,rfl,GH rfl⟩,trivial⟩ (by simp[sgL]))) (by omega) (by omega)
 ·have hk3:k=3:=by omega
  subst hk3
  repeat' (first| (with_reducible first| (refine hK _ _ _ ?_;clear hK K)| (refine hB ?_;clear hA hB A B)|refine Z1 ?_|refine Z5 (by omega) ?_|refine hKY _ _ _ ?_)| (with_reducible first|refine Y2 fun K hK=> ?_|refine Y3 fun A B hA hB=> ?_)<;>(simp only[go_sem])| ((with_reducible first|refine Y8 ?_|refine Y9 ?_);try simp only[AQ.then,AQ.blk,reduceIte,Nat.reduceEqDiff])|fail)
  refine aZ hQ (dB (decide (((UB (seen 3)).length:Int)=(s.asked.take 3).sum))) rfl rfl (congrArg dB (decide_eq_true ?_))
  rw[amR,hs3];omega
theorem HQ {c:Cfg} {s:TSt} (hb:aQ c) (hs:BA c s) (h:K (dB true) H nx):aB Tryz.prog j9 [dA (cU c),dA (eSt s)] H nx K:=
 (HM c s hb hs).pure rfl (aI ⟨aE rfl,aE rfl,trivial⟩) (fun r hr=>hr▸h)
end
end Go.Proofs.YtegiblhkjfiooaaGreat
end
section
namespace Go.Proofs.YtegiblhkjfiooaaGreat
open Go Go.AM
set_option maxRecDepth 100000
set_option maxHeartbeats 8000000
section
variable {H : aA} {nx : Nat} {K : D → aA → Nat → Prop}
theorem aST (c:Cfg) (s:TSt) (hb:aQ c) (hcf:jO c) (hs:BA c s):aB Tryz.prog au7 [dA (cU c),dA (eSt s)] .nil 0 fun rr _ _=>rr.plain=true∧rr=dB true:=by
 refine ayK rfl fun Q hQ=> ?_
 unfold av2
 repeat' (first| (with_reducible first| (refine hK _ _ _ ?_;clear hK K)|refine Z1 ?_)| (first| (with_reducible refine Y2 fun K hK=> ?_)| (refine W6 hcf ?_)| (refine HQ hb hs ?_))<;>(simp only[go_sem,eq_true hb])| ((with_reducible refine Y8 ?_);try simp only[AQ.then,AQ.blk,reduceIte,Nat.reduceEqDiff])|fail)
 exact aZ hQ (dB true) rfl rfl rfl
theorem aPH {c:Cfg} {s:TSt} (hb:aQ c) (hcf:jO c) (hs:BA c s) (h:K (dB true) H nx):aB Tryz.prog au7 [dA (cU c),dA (eSt s)] H nx K:=
 (aST c s hb hcf hs).pure rfl (aI ⟨aE rfl,aE rfl,trivial⟩) fun r hr=>hr▸h
theorem aWT (c:Cfg) (s:TSt) (e:Ev) (hb:aQ c) (hcf:jO c) (hs:BA c s):aB Tryz.prog dW [dA (cU c),dA (eSt s),dA (eEv e)] .nil 0
 fun r _ n=>n=0∧r.imm=true∧r= .tup [.agg (eSt (if X6 c s e=0 then lS c s e else s)),.c (cB (decide (X6 c s e=0)))]:=by
 refine aVV rfl fun Q hQ=> ?_
 unfold aVB
 obtain⟨hp3,hp12⟩:=hC hb
 have hcl:s.words.length≤s.words.length∧s.holds.length≤s.holds.length∧s.asked.length≤s.asked.length∧s.wait.length≤s.wait.length∧s.done.length≤s.done.length∧s.told.length≤s.told.length:=⟨Nat.le_refl _,Nat.le_refl _,Nat.le_refl _,Nat.le_refl _,Nat.le_refl _,Nat.le_refl _⟩
 by_cases hw:X6 c s e=0
 ·have hsk:=G9 hb hs hw
  refine aM.seq ?_
  repeat' (first| (with_reducible (refine hK _ _ _ ?_;clear hK K))| (with_reducible refine Y2 fun K hK=> ?_)<;>(simp only[go_sem])|fail)
  refine aM.seq ?_
  repeat' (first| (with_reducible first| (refine hK _ _ _ ?_;clear hK K)| (refine hB ?_;clear hA hB A B)|refine Z2 ?_)| (first| (with_reducible first|refine Y1 fun K hK=> ?_|refine Y3 fun A B hA hB=> ?_)| (refine aPH hb hcf hs ?_)| (refine CM hb hs (fun m0 m1 m2 m3 m4 m5 hm=> ?_)))<;>(simp only[go_sem])|fail)
  refine aM.apW 0 (β:=Unit) (fun _ _=>en [(8,dP 6 11),(6,dP 6 3),(5,.one (.c (.fQ (eEv e)))),(3,.one (.c (.fQ (cU c))))])
   (fun _ _=>hp [(3,⟨6,1,[[.osl 0 0 0 0 0,.osl 0 0 0 0 0,.osl 0 0 0 0 0,.osl 0 0 0 0 0,.osl 0 0 0 0 0,.osl 0 0 0 0 0]]⟩),(11,⟨6,1,[oIm 13 14 15 16 17 18 s.words.length s.holds.length s.asked.length s.wait.length s.done.length s.told.length s]⟩),(13,⟨1,m0,s.words.map aJ⟩),(14,⟨1,m1,s.holds.map aJ⟩),(15,⟨1,m2,s.asked.map aJ⟩),(16,⟨5,m3,s.wait.map aS⟩),(17,⟨5,m4,s.done.map aS⟩),(18,⟨5,m5,s.told.map aS⟩)]) (fun _=>True) (fun KJ hKJ=> ?_) ?_
  ·repeat' (first| (with_reducible first| (refine hK _ _ _ ?_;clear hK K)| (refine hB ?_;clear hA hB A B)|refine Z1 ?_|refine Z2 ?_)| (first| (with_reducible first|refine Y2 fun K hK=> ?_|refine Y3 fun A B hA hB=> ?_)| (refine axC (c:=c) (s:=s) (e:=e) hcf hp3 (hs.fit hb) (GW fun x hx=>List.all_eq_true.1 (azX s).2 x hx) ?_))<;>(simp only[go_sem,hw])| ((with_reducible refine Y0 ?_);simp only[AQ.then,AQ.blk])|fail)
   exact hKJ _ _ _ () (by(refine cR [3,11,13,14,15,16,17,18] (by omega) (by repeat' (first| (with_reducible first|exact C1|refine C2 ?_ ?_)| ((with_reducible refine C0 ?_);exact CE (by omega) rfl)| ((with_reducible refine D0 ?_);first|exact CI rfl (by simp) rfl rfl rfl|refine CJ ?_)|fail)) ⟨⟨by simp,by simp[sgL],_,rfl,aP (by repeat' (first| (with_reducible first|exact C3|refine C4 ?_ ?_)| ((with_reducible refine C0 ?_);exact CC)|fail))⟩,⟨by simp,by simp[sgL],_,rfl,aP (by unfold oIm;repeat' (first| (with_reducible first|exact C3|refine C4 ?_ ?_)| ((with_reducible refine C0 ?_);exact CQ (by omega) rfl rfl (by rfl) rfl)|fail))⟩,⟨by simp,by simp[sgL],_,rfl,bP (aG bF _) rfl rfl⟩,⟨by simp,by simp[sgL],_,rfl,bP (aG bF _) rfl rfl⟩,⟨by simp,by simp[sgL],_,rfl,bP (aG bF _) rfl rfl⟩,⟨by simp,by simp[sgL],_,rfl,bP (aG dZ _) rfl rfl⟩,⟨by simp,by simp[sgL],_,rfl,bP (aG dZ _) rfl rfl⟩,⟨by simp,by simp[sgL],_,rfl,bP (aG dZ _) rfl rfl⟩,trivial⟩ (by simp[sgL]))) trivial
  intro _ _
  refine aM.apW 0 (β:=Unit) (fun _ _=>en [(8,.one (.c (.fQ (eSt (lS c s e))))),(6,dP 6 3)]) (fun _ _=>hp [(3,⟨6,1,[[.osl 0 0 0 0 0,.osl 0 0 0 0 0,.osl 0 0 0 0 0,.osl 0 0 0 0 0,.osl 0 0 0 0 0,.osl 0 0 0 0 0]]⟩)]) (fun _=>True) (fun KJ hKJ=> ?_) ?_
  ·repeat' (first| (with_reducible (refine hK _ _ _ ?_;clear hK K))| (first| (with_reducible refine Y2 fun K hK=> ?_)| (refine awO hb hs hw hcl hm.2.2.2 (by omega) (by simp) rfl rfl rfl rfl rfl rfl rfl (fun c3' c4' c5' m3' m4' m5' q1 q2=> ?_)))<;>(simp only[go_sem])| ((with_reducible refine Y0 ?_);simp only[AQ.then,AQ.blk])|fail)
   refine hKJ _ _ _ () ?_ trivial
   have hcl2:(lS c s e).words.length≤s.words.length∧(lS c s e).holds.length≤s.holds.length∧(lS c s e).asked.length≤s.asked.length∧(lS c s e).wait.length≤c3'∧(lS c s e).done.length≤c4'∧(lS c s e).told.length≤c5':=by
    rw[hs.atm.wl,hsk.atm.wl,hs.atm.hl,hsk.atm.hl,hs.JI,hsk.JI];exact⟨Nat.le_refl _,Nat.le_refl _,Nat.le_refl _,q1⟩
   refine cR [3] (by omega) (oF (oF K6 (DG (by omega) rfl)) (ay3 (σ:=id) (nh:=0) (azX _).2 (azA hcl2 rfl rfl rfl rfl rfl rfl (by simp) (by simp) (by simp) (by simp) (by simp) (by simp)) (by simp) rfl rfl rfl)) ?_ (by simp[sgL])
   exact⟨⟨by omega,by simp[sgL],_,rfl,aP (by repeat' (first| (with_reducible first|exact C3|refine C4 ?_ ?_)| ((with_reducible refine C0 ?_);exact CC)|fail))⟩,trivial⟩
  intro _ _
  have hcl3: ∀s:TSt,s.words.length≤s.words.length∧s.holds.length≤s.holds.length∧s.asked.length≤s.asked.length∧s.wait.length≤s.wait.length∧s.done.length≤s.done.length∧s.told.length≤s.told.length:=fun s=>⟨Nat.le_refl _,Nat.le_refl _,Nat.le_refl _,Nat.le_refl _,Nat.le_refl _,Nat.le_refl _⟩
  repeat' (first| (with_reducible first| (refine hK _ _ _ ?_;clear hK K)|refine Z1 ?_)| (first| (with_reducible refine Y2 fun K hK=> ?_)| (refine CM hb hsk (fun n0 n1 n2 n3 az7 az8 hn=> ?_)))<;>(simp only[go_sem])| ((with_reducible refine Y8 ?_);try simp only[AQ.then,AQ.blk,reduceIte,Nat.reduceEqDiff])|fail)
  refine V4 hQ (.tup [.agg (eSt (lS c s e)),.c (cB true)]) _ rfl (ay7 (ayY (azA (hcl3 _) rfl rfl rfl rfl rfl rfl trivial trivial trivial trivial trivial trivial)) (azN (bB rfl))) rfl ?_
  simp only[hw,if_true,decide_true]
 ·repeat' (first| (with_reducible first| (refine hK _ _ _ ?_;clear hK K)| (refine hA ?_;clear hA hB A B)| (refine hB ?_;clear hA hB A B)|refine Z1 ?_|refine Z2 ?_|refine Z4 (by omega) ?_)| (first| (with_reducible first|refine Y2 fun K hK=> ?_|refine Y3 fun A B hA hB=> ?_)| (refine aPH hb hcf hs ?_)| (refine CM hb hs (fun m0 m1 m2 m3 m4 m5 hm=> ?_))| (refine axC (c:=c) (s:=s) (e:=e) hcf hp3 (hs.fit hb) (GW fun x hx=>List.all_eq_true.1 (azX s).2 x hx) ?_))<;>(simp only[go_sem])| ((with_reducible refine Y8 ?_);try simp only[AQ.then,AQ.blk,reduceIte,Nat.reduceEqDiff])|fail)
  refine V4 hQ (.tup [.agg (eSt s),.c (cB false)]) _ rfl (ay7 (ayY (azA hcl rfl rfl rfl rfl rfl rfl trivial trivial trivial trivial trivial trivial)) (azN (bB rfl))) rfl ?_
  simp only[hw,if_false,decide_false]
theorem aWU {c:Cfg} {s:TSt} {e:Ev} (hb:aQ c) (hcf:jO c) (hs:BA c s) (h:K (.tup [.agg (eSt (if X6 c s e=0 then lS c s e else s)),.c (cB (decide (X6 c s e=0)))]) H nx):aB Tryz.prog dW [dA (cU c),dA (eSt s),dA (eEv e)] H nx K:=
 (aWT c s e hb hcf hs).fresh rfl fun r hr=>hr▸h
end
end Go.Proofs.YtegiblhkjfiooaaGreat
end
section
namespace Go.Proofs.YtegiblhkjfiooaaGreat
open Go Go.AM
set_option maxRecDepth 100000
set_option maxHeartbeats 8000000
def stN:TSt:=⟨[],[],[],[],[],[]⟩
section
variable {H : aA} {nx : Nat} {K : D → aA → Nat → Prop}
end
end Go.Proofs.YtegiblhkjfiooaaGreat
end
section
namespace Go.AM
theorem aXE {l:List Job} {j:Job} (h:key j∈l.map key):jT (Go.Proofs.YtegiblhkjfiooaaGreat.UB l) [j.who,j.n]=some 1:=by
 induction l with
 |nil=>simp at h
 |cons x l ih=>
  unfold jT Go.Proofs.YtegiblhkjfiooaaGreat.UB
  rw[List.map_cons,List.find?_cons]
  by_cases he:[j.who,j.n]=[x.who,x.n]
  ·simp[he]
  ·have h2:key j∈l.map key:=by
    rw[List.map_cons,List.mem_cons] at h
    rcases h with h|h
    ·exact absurd (by simp only[key,Prod.mk.injEq] at h;rw[h.1,h.2]) he
    ·exact h
   simp only[he,decide_false]
   exact ih h2
theorem aXB {α:Type} [Inhabited α] {l:List α} {i:Nat} (h:i<l.length):l=l.take i++l.getD i default::l.drop (i+1):=by
 have:l.getD i default=l[i]:=by simp[List.getD,h]
 rw[this,←List.drop_eq_getElem_cons h,List.take_append_drop]
end Go.AM
namespace Go.Proofs.YtegiblhkjfiooaaGreat
open Go Go.AM
set_option maxRecDepth 100000
set_option maxHeartbeats 16000000
section
variable {H : aA} {nx : Nat} {K : D → aA → Nat → Prop}
theorem aVZ (c:Cfg) (s:TSt) (hb:aQ c) (ht:aTQ s):aB Tryz.prog j9 [dA (cU c),dA (eSt s)] .nil 0 fun rr _ _=>rr.plain=true∧rr=dB (stB c s):=by
 refine GV rfl fun Q hQ=> ?_
 unfold mC
 obtain⟨hp3,hp12⟩:=hC hb
 obtain⟨t1,t2,t3,t4,aU1,aU2,aXK⟩:=ht
 have hd: ∀j∈s.wait++s.done++s.told,j.rsp.data.length<2^40:=fun j hj=>by have:=aXK j hj;omega
 by_cases h0:JS s.words s.holds∧(s.asked.length:Int)=3∧kW s.wait∧kW s.done
 case neg=>
  have hno: ¬BA c s:=fun hs=>h0 ⟨ZS hs.atm,by rw[hs.JI];rfl,hs.NR,hs.NW⟩
  repeat' (first| (with_reducible first| (refine hK _ _ _ ?_;clear hK K)| (refine hA ?_;clear hA hB A B)| (refine hB ?_;clear hA hB A B)|refine Z1 ?_|refine Z2 ?_|refine Z3 fun KB hKB=> ?_|refine Z6 (fun h=> ?_) fun h=> ?_)| (first| (with_reducible first|refine Y2 fun K hK=> ?_|refine Y3 fun A B hA hB=> ?_|refine Y6 (fun h=> ?_) fun h=> ?_)| (refine JZ (w:=s.words) (u:=s.holds) (by omega) (by omega) (aE rfl) ?_)| (refine IK (l:=s.wait) (by omega) (aE rfl) ?_)| (refine IK (l:=s.done) (by omega) (aE rfl) ?_))<;>(simp only[go_sem])| ((with_reducible refine Y8 ?_);try simp only[AQ.then,AQ.blk,reduceIte,Nat.reduceEqDiff])|fail)
  all_goals first|exact aZ hQ (dB false) rfl rfl (congrArg dB (aWH hno).symm)|exact absurd ⟨by simp_all,by omega,by simp_all,by simp_all⟩ h0
 obtain⟨hatm,hal,hwS,hdS⟩:=h0
 have hal:s.asked.length=3:=by omega
 have hsum3:=af9 hal
 repeat' (first| (with_reducible first| (refine hK _ _ _ ?_;clear hK K)| (refine hB ?_;clear hA hB A B)|refine Z1 ?_|refine Z2 ?_|refine Z3 fun KB hKB=> ?_)| (first| (with_reducible first|refine Y2 fun K hK=> ?_|refine Y3 fun A B hA hB=> ?_|refine Y5 (by omega) ?_)| (refine JZ (w:=s.words) (u:=s.holds) (by omega) (by omega) (aE rfl) ?_)| (refine IK (l:=s.wait) (by omega) (aE rfl) ?_)| (refine IK (l:=s.done) (by omega) (aE rfl) ?_))<;>(simp only[go_sem,eq_true hatm,eq_true hwS,eq_true hdS])|fail)
 (have hKX:=hKB;clear hKB)
 refine aM.sG 0 (β:=Nat) (fun b k=>en [(38,dI k),(37,dI s.asked.length),(36,dS (s.asked.map aJ)),(5,dI (s.asked.take k).sum),(3,.one (.c (.fQ (eSt s)))),(2,.one (.c (.fQ (cU c))))]) (fun b k=>.nil) (fun k=>k≤3∧(0≤(s.asked.take k).sum∧(s.asked.take k).sum≤12*k)∧ ∀i,i<k→0≤s.asked.getD i default∧s.asked.getD i default≤(c.cP.getD i default).length) (fun k=>3-k) 0 (bU (Nat.le_refl _) (by repeat' (first| (with_reducible first|exact C1|refine C2 ?_ ?_)| ((with_reducible refine D0 ?_);first|exact CA rfl|exact CI rfl (by simp) rfl rfl rfl)|fail))) ⟨by omega,by simp,fun i hi=>by omega⟩ ?_
 rintro k ⟨hk,⟨h1,h2⟩,hinv⟩ KL hKL
 by_cases hlt:k<3
 ·have hst:=alS (l:=s.asked) (k:=k) (by omega)
  have hpk:=hp12 k
  repeat' (first| (with_reducible first| (refine hK _ _ _ ?_;clear hK K)| (refine hA ?_;clear hA hB A B)| (refine hB ?_;clear hA hB A B)|refine Z1 ?_|refine Z2 ?_|refine Z3 fun KB hKB=> ?_|refine Z4 (by omega) ?_|refine Z6 (fun h=> ?_) fun h=> ?_)| (first| (with_reducible first|refine Y2 fun K hK=> ?_|refine Y3 fun A B hA hB=> ?_)| (with_reducible refine fE ?_))<;>(simp only[go_sem];try simp (disch:=omega) only[Iw])| ((with_reducible refine Y8 ?_);try simp only[AQ.then,AQ.blk,reduceIte,Nat.reduceEqDiff])| ((with_reducible refine Y0 ?_);simp only[AQ.then,AQ.blk])|refine⟨by omega,?_⟩| (with_reducible refine hKB _ _ _ ?_)|fail)
  ·exact aZ hQ (dB false) rfl rfl (congrArg dB (aWH fun hs=>by have:=hs.DC k hlt;omega).symm)
  ·exact hKL _ _ _ (k+1) (by omega) (by rw[hst];exact bU (by omega) (by repeat' (first| (with_reducible first|exact C1|refine C2 ?_ ?_)| ((with_reducible refine D0 ?_);exact CA rfl)|fail))) ⟨by omega,by rw[hst];omega,iS hinv (by omega)⟩ (by omega)
 have hk3:k=3:=by omega
 subst hk3
 have hask:aTF c s.asked:=hinv
 have hab: ∀i,0≤s.asked.getD i default∧s.asked.getD i default≤12:=fun i=>by
  by_cases hi:i<3
  ·have h1:=hask i hi;have h2:=hp12 i;omega
  ·have:s.asked.getD i default=0:=by simp[List.getD,show s.asked.length≤i by omega]
   omega
 repeat' (first| (with_reducible first| (refine hK _ _ _ ?_;clear hK K)| (refine hB ?_;clear hA hB A B)|refine Z1 ?_|refine Z3 fun KB hKB=> ?_|refine Z5 (by omega) ?_|refine hKX _ _ _ ?_)| (with_reducible first|refine Y2 fun K hK=> ?_|refine Y3 fun A B hA hB=> ?_)<;>(simp only[go_sem])| ((with_reducible refine Y9 ?_);try simp only[AQ.then,AQ.blk,reduceIte,Nat.reduceEqDiff])|fail)
 (have hKY:=hKB;clear hKB)
 obtain⟨LL,hLL⟩: ∃LL:List TE,LL=[s.wait,s.done,s.told]:=⟨_,rfl⟩
 have hLl:LL.length=3:=by subst hLL;rfl
 have hLr:[[D1.isl (s.wait.map aS)],[D1.isl (s.done.map aS)],[D1.isl (s.told.map aS)]]=LL.map IF:=by subst hLL;rfl
 obtain⟨seen,hse⟩: ∃seen:Nat→List Job,seen=fun k=>(LL.take k).flatten:=⟨_,rfl⟩
 have hs0:seen 0=[]:=by subst hse;rfl
 have hs3:seen 3=s.wait++s.done++s.told:=by subst hse;subst hLL;simp
 have hss: ∀k,k<3→seen (k+1)=seen k++LL.getD k default:=fun k hk=>by
  subst hse
  simp only
  rw[List.take_succ_eq_append_getElem (by omega),List.flatten_append]
  simp[List.getD,show k<LL.length by omega]
 have hsk: ∀k,k<3→∃r,seen 3=seen k++LL.getD k default++r:=fun k hk=>by
  have:k=0∨k=1∨k=2:=by omega
  rcases this with rfl|rfl|rfl
  ·exact⟨LL.getD 1 default++LL.getD 2 default,by rw[hss 2 (by omega),hss 1 (by omega),hss 0 (by omega),List.append_assoc]⟩
  ·exact⟨LL.getD 2 default,by rw[hss 2 (by omega),hss 1 (by omega)]⟩
  ·exact⟨[],by rw[hss 2 (by omega),List.append_nil]⟩
 have hmem: ∀k,k<3→∀j∈LL.getD k default,j∈s.wait++s.done++s.told:=fun k hk j hj=>by
  obtain⟨r,hr⟩:=hsk k hk
  rw[←hs3,hr];exact List.mem_append_left _ (List.mem_append_right _ hj)
 have hL0:LL.getD 0 default=s.wait:=by subst hLL;rfl
 have hL12: ∀j,j∈s.done++s.told↔∃k,(k=1∨k=2)∧j∈LL.getD k default:=fun j=>by
  subst hLL
  constructor
  ·intro h
   rcases List.mem_append.1 h with h|h
   ·exact⟨1,.inl rfl,h⟩
   ·exact⟨2,.inr rfl,h⟩
  ·rintro⟨k,rfl|rfl,h⟩
   ·exact List.mem_append_left _ h
   ·exact List.mem_append_right _ h
 have hLs: ∀k,k<3→(LL.getD k default).length<2^20:=fun k hk=>by
  have:k=0∨k=1∨k=2:=by omega
  subst hLL
  rcases this with rfl|rfl|rfl<;>(simp[List.getD];omega)
 have hsl: ∀k,k≤3→(seen k).length≤k*2^20:=fun k hk=>by
  have e1:=hLs 0 (by omega);have e2:=hLs 1 (by omega);have e3:=hLs 2 (by omega)
  have f1:(seen 1).length=(LL.getD 0 default).length:=by rw[hss 0 (by omega),hs0,List.nil_append]
  have f2:(seen 2).length=(seen 1).length+(LL.getD 1 default).length:=by rw[hss 1 (by omega),List.length_append]
  have f3:(seen 3).length=(seen 2).length+(LL.getD 2 default).length:=by rw[hss 2 (by omega),List.length_append]
  have:k=0∨k=1∨k=2∨k=3:=by omega
  rcases this with rfl|rfl|rfl|rfl
  ·rw[hs0];simp
  ·omega
  ·omega
  ·omega
 rw[hLr]
 clear hLr hLL hse
 refine aM.sG 1 (β:=Nat) (fun b k=>en [(65,dI k),(64,dI 3),(63,dS (LL.map IF)),(8,.one (.c (.omap b))),(5,dI (s.asked.take 3).sum),(3,.one (.c (.fQ (eSt s)))),(2,.one (.c (.fQ (cU c))))]) (fun b k=>hp [(b,u4 ⟨2,true,UB (seen k)⟩)])
  (fun k=>k≤3∧(∀j∈seen k,InA s.asked j)∧((seen k).map key).Nodup∧(0<k→∀j∈s.wait,j.rsp=oW)∧ ∀i,i<k→0<i→∀j∈LL.getD i default,as5 c j) (fun k=>3-k) 0 ?_ ⟨by omega,fun j hj=>by rw[hs0] at hj;simp at hj,by rw[hs0];simp,fun h=>by omega,fun i hi=>by omega⟩ ?_
 ·refine cR [31] (by omega) ?_ ⟨⟨by simp,by simp[sgL],_,rfl,GH (by rw[hs0];rfl)⟩,trivial⟩ (by simp[sgL])
  refine oF (oF (oF (oF (oF (oF (oF K6 ?_) ?_) ?_) ?_) ?_) ?_) ?_
  all_goals first
   |exact DJ (rows:=LL.map IF) (aG al7 LL) (by simp;omega) (by simp) rfl rfl (List.take_of_length_le (by simp)) (by simp;omega)
   |exact apS (aa6 (by omega) rfl)
   | (repeat' ((with_reducible refine D0 ?_);exact CA rfl);done)
 rintro k ⟨hk,hI1,hI2,hI3,hI4⟩ KM hKM
 by_cases hlt:k<3
 ·have hss1:=hss k hlt
  have hmm:=hmem k hlt
  have hlk:=hLs k hlt
  obtain⟨rest,hrest⟩:=hsk k hlt
  have hc0:k=0→LL.getD k default=s.wait:=fun h=>by rw[h];exact hL0
  have hc1:0<k→∀j∈LL.getD k default,j∈s.done++s.told:=fun h j hj=>(hL12 j).2 ⟨k,by omega,hj⟩
  have hI4': ∀i,i<k→0<i→∀j∈LL.getD i default,as5 c j:=hI4
  have hI5:(∀j∈LL.getD k default,as5 c j)→∀i,i<k+1→0<i→∀j∈LL.getD i default,as5 c j:=fun h i hi h0=>by
   rcases Nat.lt_succ_iff_lt_or_eq.1 hi with h2|h2
   ·exact hI4 i h2 h0
   ·subst h2;exact h
  generalize hcur:LL.getD k default=cur at hss1 hmm hlk hc0 hc1 hrest hI5
  repeat' (first| (with_reducible first| (refine hK _ _ _ ?_;clear hK K)| (refine hA ?_;clear hA hB A B)|refine Z1 ?_|refine Z2 ?_|refine Z3 fun KB hKB=> ?_|refine Z4 (by omega) ?_)| (with_reducible first|refine Y2 fun K hK=> ?_|refine Y3 fun A B hA hB=> ?_)<;>(simp only[go_sem,hcur])|refine⟨by omega,?_⟩|fail)
  (have hKZ:=hKB;clear hKB)
  refine aM.sG 1 (β:=Nat) (fun b i=>en [(72,dI i),(71,dI cur.length),(70,dS (cur.map aS)),(65,dI k),(64,dI 3),(63,dS (LL.map IF)),(9,dI k),(8,.one (.c (.omap b))),(5,dI (s.asked.take 3).sum),(3,.one (.c (.fQ (eSt s)))),(2,.one (.c (.fQ (cU c))))]) (fun b i=>hp [(b,u4 ⟨2,true,UB (seen k++cur.take i)⟩)])
   (fun i=>i≤cur.length∧(∀j∈seen k++cur.take i,InA s.asked j)∧((seen k++cur.take i).map key).Nodup∧ ∀j∈cur.take i,if k=0 then j.rsp=oW else as5 c j) (fun i=>cur.length-i) 0 (by(refine cR [42] (by omega) (by repeat' (first| (with_reducible first|exact C1|refine C2 ?_ ?_)| ((with_reducible refine C0 ?_);exact CR (by omega) rfl)| ((with_reducible refine D0 ?_);first|exact CA rfl|refine CJ ?_)|fail)) ⟨⟨by simp,by simp[sgL],_,rfl,GH (by simp)⟩,trivial⟩ (by simp[sgL]))) ⟨by omega,by simpa using hI1,by simpa using hI2,by simp⟩ ?_
  rintro i ⟨hi,hJ1,hJ2,hJ3⟩ KN hKN
  by_cases hil:i<cur.length
  ·have hjc:=cC hil
   have hjm:=hmm _ hjc
   have hjd:=hd _ hjm
   have hts:cur.take (i+1)=cur.take i++[cur.getD i default]:=by rw[List.take_succ_eq_append_getElem hil];simp[List.getD,hil]
   have hall:s.wait++s.done++s.told=(seen k++cur.take i)++cur.getD i default::(cur.drop (i+1)++rest):=by
    rw[←hs3,hrest,List.append_assoc,List.append_assoc,←List.cons_append,←List.append_assoc (cur.take i),←aXB hil]
   have hw0:k=0→cur.getD i default∈s.wait:=fun h=>by rw[←hc0 h];exact hjc
   have hw1:0<k→cur.getD i default∈s.done++s.told:=fun h=>hc1 h _ hjc
   generalize hjj:cur.getD i default=j at*
   have hno1: ¬InA s.asked j→¬BA c s:=fun h hs=>h (hs.inA j hjm)
   have hno2:key j∈(seen k++cur.take i).map key→¬BA c s:=fun h hs=>by
    have hn:=hs.nodup
    unfold keys at hn
    rw[hall,List.map_append] at hn
    exact(List.nodup_append.1 hn).2.2 _ h _ (by simp) rfl
   by_cases hin:InA s.asked j
   case neg=>
    unfold InA at hin
    have hal3:(s.asked.length:Int)=3:=by omega
    have har:=hab j.who.toNat
    have hpk:=hp12 j.who.toNat
    repeat' (first| (with_reducible first| (refine hK _ _ _ ?_;clear hK K)| (refine hA ?_;clear hA hB A B)|refine Z1 ?_|refine Z2 ?_|refine Z3 fun KB hKB=> ?_|refine Z4 (by omega) ?_)| (first| (with_reducible first|refine Y2 fun K hK=> ?_|refine Y3 fun A B hA hB=> ?_|refine Y4 (by omega) ?_|refine Y6 (fun h=> ?_) fun h=> ?_)| (with_reducible refine oR ?_)| (with_reducible refine fE ?_))<;>(simp only[go_sem,hjj];try simp (disch:=omega) only[Iw])| ((with_reducible refine Y8 ?_);try simp only[AQ.then,AQ.blk,reduceIte,Nat.reduceEqDiff])|refine⟨by omega,?_⟩|fail)
    all_goals first
     |exact aZ hQ (dB false) rfl rfl (congrArg dB (aWH (hno1 hin)).symm)
     | (exfalso;omega)
   have hni:key j∉(seen k++cur.take i).map key∨key j∈(seen k++cur.take i).map key:=(Classical.em _).symm
   have hJ1': ∀x∈seen k++cur.take (i+1),InA s.asked x:=fun x hx=>by
    rw[hts,←List.append_assoc] at hx
    rcases List.mem_append.1 hx with hx|hx
    ·exact hJ1 x hx
    ·simp at hx;subst hx;exact hin
   have hja:oA c j.who j.n:=by
    obtain⟨⟨q1,q2⟩,q3,q4⟩:=hin
    have:=hask j.who.toNat (by omega)
    exact⟨⟨q1,q2⟩,q3,by omega⟩
   obtain⟨⟨q1,q2⟩,q3,q4⟩:=hin
   have har:=hask j.who.toNat (by omega)
   have hpk:=hp12 j.who.toNat
   rcases hni with hni|hni
   case inr=>
    have hget:=aXE hni
    repeat' (first| (with_reducible first| (refine hK _ _ _ ?_;clear hK K)| (refine hA ?_;clear hA hB A B)|refine Z1 ?_|refine Z2 ?_|refine Z3 fun KB hKB=> ?_|refine Z4 (by omega) ?_)| (first| (with_reducible first|refine Y2 fun K hK=> ?_|refine Y3 fun A B hA hB=> ?_|refine Y5 (by omega) ?_)| (with_reducible refine oR ?_)| (with_reducible refine fE ?_))<;>(simp only[go_sem,hjj,hget,Option.getD_some];try simp (disch:=omega) only[Iw])| ((with_reducible refine Y8 ?_);try simp only[AQ.then,AQ.blk,reduceIte,Nat.reduceEqDiff])|refine⟨by omega,?_⟩|fail)
    all_goals exact aZ hQ (dB false) rfl rfl (congrArg dB (aWH (hno2 hni)).symm)
   have hget:=alK hni
   have hset:=alD hni
   have hJ2':((seen k++cur.take (i+1)).map key).Nodup:=by
    rw[hts,←List.append_assoc,List.map_append]
    refine List.nodup_append.2 ⟨hJ2,by simp,fun a ha b hb he=> ?_⟩
    simp at hb;subst hb;subst he;exact hni ha
   have hJ3':(if k=0 then j.rsp=oW else as5 c j)→∀x∈cur.take (i+1),if k=0 then x.rsp=oW else as5 c x:=fun h x hx=>by
    rw[hts] at hx
    rcases List.mem_append.1 hx with hx|hx
    ·exact hJ3 x hx
    ·simp at hx;subst hx;exact h
   by_cases hk0:k=0
   ·by_cases hjr:j.rsp=oW
    ·repeat' (first| (with_reducible first| (refine hK _ _ _ ?_;clear hK K)| (refine hA ?_;clear hA hB A B)| (refine hB ?_;clear hA hB A B)|refine Z1 ?_|refine Z2 ?_|refine Z3 fun KB hKB=> ?_|refine Z4 (by omega) ?_)| (first| (with_reducible first|refine Y2 fun K hK=> ?_|refine Y3 fun A B hA hB=> ?_|refine Y4 (by omega) ?_|refine Y5 (by omega) ?_)| (with_reducible refine oR ?_)| (with_reducible refine fE ?_)| (with_reducible refine HK hjd ?_))<;>(simp only[go_sem,hjj,hget,hset,Option.getD_none,eq_true hjr];try simp (disch:=omega) only[Iw])| ((with_reducible refine Y0 ?_);simp only[AQ.then,AQ.blk])|refine⟨by omega,?_⟩| (with_reducible refine hKB _ _ _ ?_)|fail)
     exact hKN _ _ _ (i+1) (by omega) (by(refine cR [52] (by omega) (by repeat' (first| (with_reducible first|exact C1|refine C2 ?_ ?_)| ((with_reducible refine C0 ?_);exact CR (by omega) rfl)| ((with_reducible refine D0 ?_);first|exact CA rfl|refine CJ ?_)|fail)) ⟨⟨by simp,by simp[sgL],_,rfl,GH (by rw[hts,List.append_assoc])⟩,trivial⟩ (by simp[sgL]))) ⟨by omega,hJ1',hJ2',hJ3' (by rw[if_pos hk0];exact hjr)⟩ (by omega)
    ·repeat' (first| (with_reducible first| (refine hK _ _ _ ?_;clear hK K)| (refine hA ?_;clear hA hB A B)| (refine hB ?_;clear hA hB A B)|refine Z1 ?_|refine Z2 ?_|refine Z3 fun KB hKB=> ?_|refine Z4 (by omega) ?_)| (first| (with_reducible first|refine Y2 fun K hK=> ?_|refine Y3 fun A B hA hB=> ?_|refine Y4 (by omega) ?_|refine Y5 (by omega) ?_)| (with_reducible refine oR ?_)| (with_reducible refine fE ?_)| (with_reducible refine HK hjd ?_))<;>(simp only[go_sem,hjj,hget,hset,Option.getD_none,eq_false hjr];try simp (disch:=omega) only[Iw])| ((with_reducible refine Y8 ?_);try simp only[AQ.then,AQ.blk,reduceIte,Nat.reduceEqDiff])|refine⟨by omega,?_⟩|fail)
     exact aZ hQ (dB false) rfl rfl (congrArg dB (aWH fun hs=>hjr (hs.P4 j (hw0 hk0))).symm)
   ·have hkp:0<k:=by omega
    have hno3: ¬as5 c j→¬BA c s:=fun h hs=>h (hs.R8 j (hw1 hkp))
    by_cases hjr:pA j.rsp
    ·repeat' (first| (with_reducible first| (refine hK _ _ _ ?_;clear hK K)| (refine hA ?_;clear hA hB A B)| (refine hB ?_;clear hA hB A B)|refine Z1 ?_|refine Z2 ?_|refine Z3 fun KB hKB=> ?_|refine Z4 (by omega) ?_|refine Z6 (fun h=> ?_) fun h=> ?_)| (first| (with_reducible first|refine Y2 fun K hK=> ?_|refine Y3 fun A B hA hB=> ?_|refine Y4 (by omega) ?_|refine Y5 (by omega) ?_)| (with_reducible refine oR ?_)| (with_reducible refine fE ?_)| (with_reducible refine I8 hjd ?_)| (with_reducible refine iJ hp3 hja ?_))<;>(simp only[go_sem,hjj,hget,hset,Option.getD_none,eq_true hjr];try simp (disch:=omega) only[Iw])| ((with_reducible refine Y8 ?_);try simp only[AQ.then,AQ.blk,reduceIte,Nat.reduceEqDiff])| ((with_reducible refine Y0 ?_);simp only[AQ.then,AQ.blk])|refine⟨by omega,?_⟩| (with_reducible refine hKB _ _ _ ?_)|fail)
     ·exact aZ hQ (dB false) rfl rfl (congrArg dB (aWH (hno3 fun h=>by have:=h.2;omega)).symm)
     ·exact hKN _ _ _ (i+1) (by omega) (by(refine cR [52] (by omega) (by repeat' (first| (with_reducible first|exact C1|refine C2 ?_ ?_)| ((with_reducible refine C0 ?_);exact CR (by omega) rfl)| ((with_reducible refine D0 ?_);first|exact CA rfl|refine CJ ?_)|fail)) ⟨⟨by simp,by simp[sgL],_,rfl,GH (by rw[hts,List.append_assoc])⟩,trivial⟩ (by simp[sgL]))) ⟨by omega,hJ1',hJ2',hJ3' (by rw[if_neg hk0];exact⟨hjr,by omega⟩)⟩ (by omega)
    ·repeat' (first| (with_reducible first| (refine hK _ _ _ ?_;clear hK K)| (refine hA ?_;clear hA hB A B)| (refine hB ?_;clear hA hB A B)|refine Z1 ?_|refine Z2 ?_|refine Z3 fun KB hKB=> ?_|refine Z4 (by omega) ?_)| (first| (with_reducible first|refine Y2 fun K hK=> ?_|refine Y3 fun A B hA hB=> ?_|refine Y4 (by omega) ?_|refine Y5 (by omega) ?_)| (with_reducible refine oR ?_)| (with_reducible refine fE ?_)| (with_reducible refine I8 hjd ?_))<;>(simp only[go_sem,hjj,hget,hset,Option.getD_none,eq_false hjr];try simp (disch:=omega) only[Iw])| ((with_reducible refine Y8 ?_);try simp only[AQ.then,AQ.blk,reduceIte,Nat.reduceEqDiff])|refine⟨by omega,?_⟩|fail)
     exact aZ hQ (dB false) rfl rfl (congrArg dB (aWH (hno3 fun h=>hjr h.1)).symm)
  ·have hi2:i=cur.length:=by omega
   subst hi2
   rw[List.take_length,←hss1] at hJ1 hJ2
   rw[List.take_length] at hJ3
   rw[List.take_length,←hss1]
   repeat' (first| (with_reducible first| (refine hK _ _ _ ?_;clear hK K)| (refine hB ?_;clear hA hB A B)|refine Z1 ?_|refine Z5 (by omega) ?_|refine hKZ _ _ _ ?_)| (with_reducible first|refine Y2 fun K hK=> ?_|refine Y3 fun A B hA hB=> ?_)<;>(simp only[go_sem];try simp (disch:=omega) only[Iw])| ((with_reducible refine Y9 ?_);try simp only[AQ.then,AQ.blk,reduceIte,Nat.reduceEqDiff])| ((with_reducible refine Y0 ?_);simp only[AQ.then,AQ.blk])| (with_reducible refine hKB _ _ _ ?_)|fail)
   refine hKM _ _ _ (k+1) (by omega) (by(refine cR [52] (by omega) (by repeat' (first| (with_reducible first|exact C1|refine C2 ?_ ?_)| ((with_reducible refine C0 ?_);exact CR (by omega) rfl)| ((with_reducible refine D0 ?_);first|exact CA rfl|refine CJ ?_)|fail)) ⟨⟨by simp,by simp[sgL],_,rfl,GH rfl⟩,trivial⟩ (by simp[sgL]))) ⟨by omega,hJ1,hJ2,fun _=> ?_,?_⟩ (by omega)
   ·by_cases hk0:k=0
    ·intro j hj
     have:=hJ3 j (by rw[hc0 hk0];exact hj)
     rwa [if_pos hk0] at this
    ·exact hI3 (by omega)
   ·intro i2 h1 h2
    by_cases hk0:k=0
    ·omega
    ·exact hI5 (fun j hj=>by have:=hJ3 j hj;rwa [if_neg hk0] at this) i2 h1 h2
 ·have hk3:k=3:=by omega
  subst hk3
  rw[hs3] at hI1 hI2
  have hl3:=congrArg List.length hs3
  rw[List.length_append,List.length_append] at hl3
  repeat' (first| (with_reducible first| (refine hK _ _ _ ?_;clear hK K)| (refine hB ?_;clear hA hB A B)|refine Z1 ?_|refine Z5 (by omega) ?_|refine hKY _ _ _ ?_)| (with_reducible first|refine Y2 fun K hK=> ?_|refine Y3 fun A B hA hB=> ?_)<;>(simp only[go_sem])| ((with_reducible first|refine Y8 ?_|refine Y9 ?_);try simp only[AQ.then,AQ.blk,reduceIte,Nat.reduceEqDiff])|fail)
  refine aZ hQ (dB (decide (((UB (seen 3)).length:Int)=(s.asked.take 3).sum))) rfl rfl (congrArg dB ?_)
  rw[amR]
  by_cases hcnt:((seen 3).length:Int)=(s.asked.take 3).sum
  ·rw[decide_eq_true hcnt]
   refine(aXJ (aUA hatm hal hask hwS hdS hI1 hI2 (by omega) (hI3 (by omega)) fun j hj=> ?_)).symm
   obtain⟨k,hk,hj⟩:=(hL12 j).1 hj
   exact hI4 k (by omega) (by omega) j hj
  ·rw[decide_eq_false hcnt]
   exact(aWH fun hs=>by have:=hs.count;omega).symm
theorem aVW {c:Cfg} {s:TSt} (hb:aQ c) (ht:aTQ s) (h:K (dB (stB c s)) H nx):aB Tryz.prog j9 [dA (cU c),dA (eSt s)] H nx K:=
 (aVZ c s hb ht).pure rfl (aI ⟨aE rfl,aE rfl,trivial⟩) (fun r hr=>hr▸h)
theorem aW4 (c:Cfg) (s:TSt) (hcf:jO c) (ht:aTQ s):aB Tryz.prog au7 [dA (cU c),dA (eSt s)] .nil 0 fun rr _ _=>rr.plain=true∧rr=dB (tlB c s):=by
 refine ayK rfl fun Q hQ=> ?_
 unfold av2
 by_cases hb:aQ c
 ·repeat' (first| (with_reducible first| (refine hK _ _ _ ?_;clear hK K)|refine Z1 ?_)| (first| (with_reducible refine Y2 fun K hK=> ?_)| (refine W6 hcf ?_)| (refine aVW hb ht ?_))<;>(simp only[go_sem,eq_true hb])| ((with_reducible refine Y8 ?_);try simp only[AQ.then,AQ.blk,reduceIte,Nat.reduceEqDiff])|fail)
  exact aZ hQ (dB (stB c s)) rfl rfl (congrArg dB (aXH hb).symm)
 ·repeat' (first| (with_reducible first| (refine hK _ _ _ ?_;clear hK K)|refine Z1 ?_)| (first| (with_reducible refine Y2 fun K hK=> ?_)| (refine W6 hcf ?_))<;>(simp only[go_sem,eq_false hb])| ((with_reducible refine Y8 ?_);try simp only[AQ.then,AQ.blk,reduceIte,Nat.reduceEqDiff])|fail)
  exact aZ hQ (dB false) rfl rfl (congrArg dB (aOH fun h=>hb h.1).symm)
theorem aV5 {c:Cfg} {s:TSt} (hcf:jO c) (ht:aTQ s) (h:K (dB (tlB c s)) H nx):aB Tryz.prog au7 [dA (cU c),dA (eSt s)] H nx K:=
 (aW4 c s hcf ht).pure rfl (aI ⟨aE rfl,aE rfl,trivial⟩) (fun r hr=>hr▸h)
end
end Go.Proofs.YtegiblhkjfiooaaGreat
end
section
namespace Go.Proofs.YtegiblhkjfiooaaGreat
open Go Go.AM
set_option maxRecDepth 100000
set_option maxHeartbeats 8000000
section
variable {H : aA} {nx : Nat} {K : D → aA → Nat → Prop}
end
end Go.Proofs.YtegiblhkjfiooaaGreat
end
