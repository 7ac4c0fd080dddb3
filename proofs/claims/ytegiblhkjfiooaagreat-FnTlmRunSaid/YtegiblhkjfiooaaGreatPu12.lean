/- Texts laid together by a program: rules, contracts and the walk that leads to the law. -/
import Derived.Test.YtegiblhkjfiooaaGreatPu11
import Derived.Test.YtegiblhkjfiooaaGreatPu10
import Derived.Test.YtegiblhkjfiooaaGreatPu4
import Derived.Test.YtegiblhkjfiooaaGreatPu8
set_option linter.unusedVariables false
set_option linter.unusedSimpArgs false
set_option linter.unusedSectionVars false
section
namespace Go.Proofs.YtegiblhkjfiooaaGreat
open Go Go.AM
set_option maxRecDepth 100000
set_option maxHeartbeats 8000000
section
variable {H : aA} {nx : Nat} {K : D → aA → Nat → Prop}
theorem awO {c:Cfg} {s:TSt} {e:Ev} {c0 c1 c2 c3 c4 c5 m0 m1 m2 m3 m4 m5 i0 i1 i2 i3 i4 i5 az6:Nat} (hb:aQ c) (hs:BA c s) (hwhy:X6 c s e=0) (hc:s.words.length≤c0∧s.holds.length≤c1∧s.asked.length≤c2∧s.wait.length≤c3∧s.done.length≤c4∧s.told.length≤c5) (hm:c3≤m3∧c4≤m4∧c5≤m5)
 (hlt:i0<nx∧i1<nx∧i2<nx∧i3<nx∧i4<nx∧i5<nx∧az6<nx) (hd:[i0,i1,i2,i3,i4,i5,az6].Nodup) (h0:H i0=some ⟨6,1,[oIm i1 i2 i3 i4 i5 az6 c0 c1 c2 c3 c4 c5 s]⟩) (h1:H i1=some ⟨1,m0,s.words.map aJ⟩) (h2:H i2=some ⟨1,m1,s.holds.map aJ⟩) (h3:H i3=some ⟨1,m2,s.asked.map aJ⟩) (h4:H i4=some ⟨5,m3,s.wait.map aS⟩) (h5:H i5=some ⟨5,m4,s.done.map aS⟩) (h6:H az6=some ⟨5,m5,s.told.map aS⟩)
 (h: ∀c3' c4' c5' m3' m4' m5',((lS c s e).wait.length≤c3'∧(lS c s e).done.length≤c4'∧(lS c s e).told.length≤c5')→(c3'≤m3'∧c4'≤m4'∧c5'≤m5')→K (.tup []) ((((((((((H.set i0 ⟨6,1,[oIm i1 i2 i3 nx (nx+1) (nx+2) c0 c1 c2 c3' c4' c5' (lS c s e)]⟩).set i1 ⟨1,m0,(lS c s e).words.map aJ⟩).set i2 ⟨1,m1,(lS c s e).holds.map aJ⟩).set i3 ⟨1,m2,(lS c s e).asked.map aJ⟩).del i4).del i5).del az6).set nx ⟨5,m3',(lS c s e).wait.map aS⟩).set (nx+1) ⟨5,m4',(lS c s e).done.map aS⟩).set (nx+2) ⟨5,m5',(lS c s e).told.map aS⟩) (nx+3)):
 aB Tryz.prog auD [dA (cU c),dP 6 i0,dA (eEv e)] H nx K:=by
 refine(awS c s e c0 c1 c2 c3 c4 c5 m0 m1 m2 m3 m4 m5 hb hs hwhy hc hm).AF [i0,i1,i2,i3,i4,i5,az6] rfl ⟨aE rfl,DG (by simp) rfl,aE rfl,trivial⟩ ?_ ?_ ?_ hd fun r H' n' _ ⟨c3',c4',c5',m3',m4',m5',q1,q2,q3,q4,q5⟩=> ?_
 ·refine⟨⟨by simp,id,_,h0,aP ?_⟩,⟨by simp,id,_,h1,bP (aG bF _) rfl rfl⟩,⟨by simp,id,_,h2,bP (aG bF _) rfl rfl⟩,⟨by simp,id,_,h3,bP (aG bF _) rfl rfl⟩,⟨by simp,id,_,h4,bP (aG dZ _) rfl rfl⟩,⟨by simp,id,_,h5,bP (aG dZ _) rfl rfl⟩,⟨by simp,id,_,h6,bP (aG dZ _) rfl rfl⟩,trivial⟩
  unfold oIm
  exact aH (aaF (by simp) rfl rfl rfl rfl) (aH (aaF (by simp) rfl rfl rfl rfl) (aH (aaF (by simp) rfl rfl rfl rfl) (aH (aaF (by simp) rfl rfl rfl rfl) (aH (aaF (by simp) rfl rfl rfl rfl) (aH (aaF (by simp) rfl rfl rfl rfl) eP)))))
 ·exact hd
 ·intro x hx;simp only[List.mem_cons,List.not_mem_nil,or_false] at hx;omega
 ·have h:=h c3' c4' c5' m3' m4' m5' q1 q2
  subst q3;subst q4;subst q5
  generalize lS c s e=S' at*
  have e0:bA.rn (tau 7 nx (nth [i0,i1,i2,i3,i4,i5,az6])) ⟨6,1,[oIm 1 2 3 7 8 9 c0 c1 c2 c3' c4' c5' S']⟩=⟨6,1,[oIm i1 i2 i3 nx (nx+1) (nx+2) c0 c1 c2 c3' c4' c5' S']⟩:=rfl
  have e1:back (tau 7 nx (nth [i0,i1,i2,i3,i4,i5,az6])) (hp [(0,⟨6,1,[oIm 1 2 3 7 8 9 c0 c1 c2 c3' c4' c5' S']⟩),(1,⟨1,m0,(S').words.map aJ⟩),(2,⟨1,m1,(S').holds.map aJ⟩),(3,⟨1,m2,(S').asked.map aJ⟩),(7,⟨5,m3',(S').wait.map aS⟩),(8,⟨5,m4',(S').done.map aS⟩),(9,⟨5,m5',(S').told.map aS⟩)]) 10 H=((((((((((H.set i0 ⟨6,1,[oIm i1 i2 i3 nx (nx+1) (nx+2) c0 c1 c2 c3' c4' c5' S']⟩).set i1 ⟨1,m0,S'.words.map aJ⟩).set i2 ⟨1,m1,S'.holds.map aJ⟩).set i3 ⟨1,m2,S'.asked.map aJ⟩).del i4).del i5).del az6).set nx ⟨5,m3',S'.wait.map aS⟩).set (nx+1) ⟨5,m4',S'.done.map aS⟩).set (nx+2) ⟨5,m5',S'.told.map aS⟩):=by
   simp only[back,hp,aA.set,aA.nil,Option.map_some,Option.map_none,e0,uB,BB,aA.eL,aA.yI,if_true,Nat.reduceEqDiff,if_false,reduceIte]
   rfl
  rw[←e1] at h
  exact h
theorem azA {s:TSt} {H:aA} {F:Nat→Prop} {σ:Nat→Nat} {nh i1 i2 i3 i4 i5 az6 c0 c1 c2 c3 c4 c5 m0 m1 m2 m3 m4 m5:Nat} (hc:s.words.length≤c0∧s.holds.length≤c1∧s.asked.length≤c2∧s.wait.length≤c3∧s.done.length≤c4∧s.told.length≤c5) (h1:H i1=some ⟨1,m0,s.words.map aJ⟩) (h2:H i2=some ⟨1,m1,s.holds.map aJ⟩) (h3:H i3=some ⟨1,m2,s.asked.map aJ⟩) (h4:H i4=some ⟨5,m3,s.wait.map aS⟩) (h5:H i5=some ⟨5,m4,s.done.map aS⟩) (h6:H az6=some ⟨5,m5,s.told.map aS⟩)
 (f1:F i1) (f2:F i2) (f3:F i3) (f4:F i4) (f5:F i5) (f6:F az6):CvL H F σ nh (eSt s) (oIm i1 i2 i3 i4 i5 az6 c0 c1 c2 c3 c4 c5 s):=by
 obtain⟨q1,q2,q3,q4,q5,q6⟩:=hc
 exact aH (bW bF h1 rfl q1 f1) (aH (bW bF h2 rfl q2 f2) (aH (bW bF h3 rfl q3 f3) (aH (bW dZ h4 rfl q4 f4) (aH (bW dZ h5 rfl q5 f5) (aH (bW dZ h6 rfl q6 f6) eP)))))
theorem aoK {i0 i1 i2 i3 i4 i5 c0 c1 c2 c3 c4 c5:Nat} {s:TSt}:(oIm i0 i1 i2 i3 i4 i5 c0 c1 c2 c3 c4 c5 s).length=6:=rfl
theorem aj7 {i0 i1 i2 i3 i4 i5 c0 c1 c2 c3 c4 c5:Nat} {s:TSt}:(oIm i0 i1 i2 i3 i4 i5 c0 c1 c2 c3 c4 c5 s).take 6=oIm i0 i1 i2 i3 i4 i5 c0 c1 c2 c3 c4 c5 s:=rfl
theorem akC {i0 i1 i2 i3 i4 i5 c0 c1 c2 c3 c4 c5:Nat} {s:TSt}:(oIm i0 i1 i2 i3 i4 i5 c0 c1 c2 c3 c4 c5 s).drop 6=[]:=rfl
theorem alF {i0 i1 i2 i3 i4 i5 c0 c1 c2 c3 c4 c5 k:Nat} {s:TSt} {cs:List D1}:iA cs (k+1) (oIm i0 i1 i2 i3 i4 i5 c0 c1 c2 c3 c4 c5 s)=iA cs (k+1) [.osl 1 i0 0 s.words.length c0,.osl 1 i1 0 s.holds.length c1,.osl 1 i2 0 s.asked.length c2,.osl 5 i3 0 s.wait.length c3,.osl 5 i4 0 s.done.length c4,.osl 5 i5 0 s.told.length c5]:=rfl
attribute [go_sem] aoK aj7 akC alF
end
end Go.Proofs.YtegiblhkjfiooaaGreat
end
section
namespace Go.AM
abbrev TE:=List Job
def IF (l:TE):List D1:=[.isl (l.map aS)]
theorem ag7 {l:TE}:(IF l).length=1:=rfl
theorem aaZ {l:TE}:(IF l).take 1=[.isl (l.map aS)]:=rfl
theorem ZY {l:TE}:(IF l).drop 1=[]:=rfl
theorem ae8 {l:TE} {cs:List D1} {k:Nat}:iA cs (k+1) (IF l)=iA cs (k+1) [.isl (l.map aS)]:=rfl
theorem al7 (l:TE):(IF l).length=1∧(IF l).all D1.dQ=true:=⟨rfl,rfl⟩
attribute [go_sem] ag7 aaZ ZY ae8
end Go.AM
namespace Go.Proofs.YtegiblhkjfiooaaGreat
open Go Go.AM
set_option maxRecDepth 100000
set_option maxHeartbeats 8000000
section
variable {H : aA} {nx : Nat} {K : D → aA → Nat → Prop}
theorem ac0 {l:List Job} (h: ∀i,i<l.length→1≤i→ad5 (l.getD (i-1) default) (l.getD i default)<0):kW l:=by
 have h2: ∀(d i:Nat) (hi:i+d+1<l.length),uL (l.getD i default) (l.getD (i+d+1) default)=true:=by
  intro d
  induction d with
  |zero=>intro i hi;have:=h (i+1) (by omega) (by omega);rw[E7] at this;simpa using this
  |succ d ih=>
   intro i hi
   have h3:=ih i (by omega)
   have h4:=h (i+d+2) (by omega) (by omega)
   rw[E7,show i+d+2-1=i+d+1 by omega] at h4
   rw[show i+(d+1)+1=i+d+2 by omega]
   rw[qL] at*
   omega
 refine List.pairwise_iff_getElem.2 fun i j hi hj hij=> ?_
 have:=h2 (j-i-1) i (by omega)
 rw[show i+(j-i-1)+1=j by omega] at this
 simpa [List.getD,hi,hj] using this
theorem TI (l:List Job) (hl:l.length<2^20):aB Tryz.prog oI [dS (l.map aS)] .nil 0 fun rr _ _=>rr.plain=true∧rr=dB (decide (kW l)):=by
 refine Q2 rfl fun Q hQ=> ?_
 unfold x7
 repeat' (first| (with_reducible first| (refine hK _ _ _ ?_;clear hK K)|refine Z1 ?_|refine Z3 fun KB hKB=> ?_)| (with_reducible refine Y2 fun K hK=> ?_)<;>(simp only[go_sem])|fail)
 (have hKX:=hKB;clear hKB)
 refine aM.sG 0 (β:=Nat) (fun b k=>en [(3,dI k),(0,dS (l.map aS))]) (fun b k=>hp []) (fun k=>(1≤k∧(k≤l.length∨k=1))∧ ∀i,i<k→i<l.length→1≤i→ad5 (l.getD (i-1) default) (l.getD i default)<0) (fun k=>l.length-k) 1 (bU (Nat.le_refl _) (by repeat' (first| (with_reducible first|exact C1|refine C2 ?_ ?_)| ((with_reducible refine D0 ?_);exact CA rfl)|fail))) ⟨by omega,fun i hi _ _=>by omega⟩ ?_
 rintro k ⟨hk,hinv⟩ KL hKL
 by_cases hlt:k<l.length
 ·have e1:((k:Int)-1).toNat=k-1:=by omega
  repeat' (first| (with_reducible first| (refine hK _ _ _ ?_;clear hK K)| (refine hA ?_;clear hA hB A B)| (refine hB ?_;clear hA hB A B)|refine Z1 ?_|refine Z2 ?_|refine Z3 fun KB hKB=> ?_|refine Z4 (by omega) ?_|refine Z6 (fun h=> ?_) fun h=> ?_)| (first| (with_reducible first|refine Y2 fun K hK=> ?_|refine Y3 fun A B hA hB=> ?_)| (with_reducible refine xM ?_))<;>(simp only[go_sem,e1];try simp (disch:=omega) only[Iw])| ((with_reducible refine Y8 ?_);try simp only[AQ.then,AQ.blk,reduceIte,Nat.reduceEqDiff])| ((with_reducible refine Y0 ?_);simp only[AQ.then,AQ.blk])|refine⟨by omega,?_⟩| (with_reducible refine hKB _ _ _ ?_)|fail)
  ·refine aZ hQ (dB false) rfl rfl (j7 fun hs=> ?_)
   have h5:=List.pairwise_iff_getElem.1 hs (k-1) k (by omega) hlt (by omega)
   have h6:ad5 (l.getD (k-1) default) (l.getD k default)<0:=by rw[E7];simpa [List.getD,hlt,show k-1<l.length by omega] using h5
   omega
  ·exact hKL _ _ _ (k+1) (by omega) (bU (Nat.le_refl _) (by repeat' (first| (with_reducible first|exact C1|refine C2 ?_ ?_)| ((with_reducible refine D0 ?_);exact CA rfl)|fail))) ⟨by omega,fun i hi hl2 h1=>by
    rcases Nat.lt_succ_iff_lt_or_eq.1 hi with h2|h2
    ·exact hinv i h2 hl2 h1
    ·subst h2;omega⟩ (by omega)
 ·repeat' (first| (with_reducible first| (refine hK _ _ _ ?_;clear hK K)| (refine hB ?_;clear hA hB A B)|refine Z1 ?_|refine Z5 (by omega) ?_|refine hKX _ _ _ ?_)| (with_reducible first|refine Y2 fun K hK=> ?_|refine Y3 fun A B hA hB=> ?_)<;>(simp only[go_sem])| ((with_reducible first|refine Y8 ?_|refine Y9 ?_);try simp only[AQ.then,AQ.blk,reduceIte,Nat.reduceEqDiff])|fail)
  exact aZ hQ (dB true) rfl rfl (q9 (ac0 fun i hi h1=>hinv i (by omega) hi h1))
theorem IK {l:List Job} (hl:l.length<2^20) {d0:D} (hd0:CvD H (fun _=>True) id 0 (dS (l.map aS)) d0) (h:K (dB (decide (kW l))) H nx):aB Tryz.prog oI [d0] H nx K:=
 (TI l hl).pure rfl (aI ⟨hd0,trivial⟩) (fun r hr=>hr▸h)
theorem JU (r:Rsp) (hr:r.data.length<2^40):aB Tryz.prog iT [dA (tG r)] .nil 0 fun rr _ _=>rr.plain=true∧rr=dB (decide (r=oW)):=by
 refine HU rfl fun Q hQ=> ?_
 unfold nO
 repeat' (first| (with_reducible first| (refine hK _ _ _ ?_;clear hK K)|refine Z1 ?_)| (with_reducible first|refine Y2 fun K hK=> ?_|refine Y6 (fun h=> ?_) fun h=> ?_)<;>(simp only[go_sem])| ((with_reducible refine Y8 ?_);try simp only[AQ.then,AQ.blk,reduceIte,Nat.reduceEqDiff])|fail)
 all_goals first|with_reducible refine aZ hQ _ rfl rfl ?_|skip
 all_goals (obtain⟨r1,r2,r3⟩:=r;unfold oW;dsimp only at*;first|exact q9 (by simp_all)|exact j7 (by simp_all)|exact pD (by simp_all)|exact pD (by simp only[Rsp.mk.injEq];rw[←List.length_eq_zero_iff];omega))
theorem JG {r:Rsp} (hr:r.data.length<2^40) (h:K (dB (decide (r=oW))) H nx):aB Tryz.prog iT [dA (tG r)] H nx K:=
 (JU r hr).pure rfl (aI ⟨aE rfl,trivial⟩) (fun r hr=>hr▸h)
theorem W1 (r:Rsp) (hr:r.data.length<2^40):aB Tryz.prog m6 [dA (tG r)] .nil 0 fun rr _ _=>rr.plain=true∧rr=dB (decide (pA r)):=by
 refine UX rfl fun Q hQ=> ?_
 unfold z8
 repeat' (first| (with_reducible first| (refine hK _ _ _ ?_;clear hK K)|refine Z1 ?_)| (first| (with_reducible first|refine Y2 fun K hK=> ?_|refine Y6 (fun h=> ?_) fun h=> ?_)| (with_reducible refine fE ?_)| (refine vG hr (aE rfl) ?_))<;>(simp only[go_sem])| ((with_reducible refine Y8 ?_);try simp only[AQ.then,AQ.blk,reduceIte,Nat.reduceEqDiff])|fail)
 all_goals first|with_reducible refine aZ hQ _ rfl rfl ?_|skip
 all_goals first|exact j7 (by unfold pA;grind)|exact pD (by unfold pA;grind)|exact q9 (by unfold pA;grind)
theorem YD {r:Rsp} (hr:r.data.length<2^40) (h:K (dB (decide (pA r))) H nx):aB Tryz.prog m6 [dA (tG r)] H nx K:=
 (W1 r hr).pure rfl (aI ⟨aE rfl,trivial⟩) (fun r hr=>hr▸h)
theorem HK {r:Rsp} (hr:r.data.length<2^40) (h:K (dB (decide (r=oW))) H nx):aB Tryz.prog iT [.one (.agg [cI r.id,cI r.code,.isl (r.data.map aJ)])] H nx K:=JG hr h
theorem I8 {r:Rsp} (hr:r.data.length<2^40) (h:K (dB (decide (pA r))) H nx):aB Tryz.prog m6 [.one (.agg [cI r.id,cI r.code,.isl (r.data.map aJ)])] H nx K:=YD hr h
def UB (l:List Job):List (List Int×Int):=l.map fun j=>([j.who,j.n],1)
theorem alK {l:List Job} {j:Job} (h:key j∉l.map key):jT (UB l) [j.who,j.n]=none:=by
 unfold jT UB
 rw[Option.map_eq_none_iff,List.find?_eq_none]
 intro p hp
 obtain⟨x,hx,rfl⟩:=List.mem_map.1 hp
 simp only[List.cons.injEq,and_true,decide_eq_true_eq]
 intro he
 exact h (List.mem_map.2 ⟨x,hx,by simp[key,he.1,he.2]⟩)
theorem alD {l:List Job} {j:Job} (h:key j∉l.map key):vA (UB l) [j.who,j.n] 1=UB (l++[j]):=by
 induction l with
 |nil=>rfl
 |cons x l ih=>
  simp only[List.map_cons,List.mem_cons,not_or] at h
  have hne: ¬[j.who,j.n]=[x.who,x.n]:=fun he=>h.1 (by simp only[List.cons.injEq,and_true] at he;simp[key,he.1,he.2])
  show vA (([x.who,x.n],1)::UB l) _ _=_
  simp only[vA,hne,if_false,ih h.2]
  rfl
theorem amR {l:List Job}:(UB l).length=l.length:=by simp[UB]
theorem alS {l:List Int} {k:Nat} (h:k<l.length):(l.take (k+1)).sum=(l.take k).sum+l.getD k default:=by
 rw[List.take_succ_eq_append_getElem h,List.sum_append];simp[List.getD,h]
theorem af9 {l:List Int} (h:l.length=3):(l.take 3).sum=l.getD 0 default+l.getD 1 default+l.getD 2 default:=by
 match l,h with
 | [a,b,c],_=>simp[List.getD];omega
theorem ZS {w u:List Int} (h:WK w u):JS w u:=⟨⟨by rw[h.wl];rfl,h.wr⟩,by rw[h.hl];rfl,h.hr⟩
theorem HM (c:Cfg) (s:TSt) (hb:aQ c) (hs:BA c s):aB Tryz.prog j9 [dA (cU c),dA (eSt s)] .nil 0 fun rr _ _=>rr.plain=true∧rr=dB true:=by
 refine GV rfl fun Q hQ=> ?_
 unfold mC
 obtain⟨hp3,hp12⟩:=hC hb
 have hatm:=ZS hs.atm
 have hwl:=hs.atm.wl
 have hhl:=hs.atm.hl
 have hal:=hs.JI
 have hls:=hs.lens hb
 have hag:=hs.DC
 have hsum3:=af9 hal
 have hcnt:=hs.count
 have hd: ∀j∈s.wait++s.done++s.told,j.rsp.data.length<2^40:=fun j hj=>by
  simp only[List.mem_append] at hj
  rcases hj with(hj|hj)|hj
  ·rw[hs.P4 j hj];decide
  ·have:=(hs.R8 j (by simp[hj])).1.2.2.1;omega
  ·have:=(hs.R8 j (by simp[hj])).1.2.2.1;omega
 repeat' (first| (with_reducible first| (refine hK _ _ _ ?_;clear hK K)| (refine hB ?_;clear hA hB A B)|refine Z1 ?_|refine Z2 ?_|refine Z3 fun KB hKB=> ?_)| (first| (with_reducible first|refine Y2 fun K hK=> ?_|refine Y3 fun A B hA hB=> ?_|refine Y5 (by omega) ?_)| (refine JZ (w:=s.words) (u:=s.holds) (by omega) (by omega) (aE rfl) ?_)| (refine IK (l:=s.wait) (by omega) (aE rfl) ?_)| (refine IK (l:=s.done) (by omega) (aE rfl) ?_))<;>(simp only[go_sem,eq_true hatm,eq_true hs.NR,eq_true hs.NW])|fail)
 (have hKX:=hKB;clear hKB)
 refine aM.sG 0 (β:=Nat) (fun b k=>en [(38,dI k),(37,dI s.asked.length),(36,dS (s.asked.map aJ)),(5,dI (s.asked.take k).sum),(3,.one (.c (.fQ (eSt s)))),(2,.one (.c (.fQ (cU c))))]) (fun b k=>.nil) (fun k=>k≤3∧0≤(s.asked.take k).sum∧(s.asked.take k).sum≤12*k) (fun k=>3-k) 0 (bU (Nat.le_refl _) (by repeat' (first| (with_reducible first|exact C1|refine C2 ?_ ?_)| ((with_reducible refine D0 ?_);first|exact CA rfl|exact CI rfl (by simp) rfl rfl rfl)|fail))) ⟨by omega,by simp,by simp⟩ ?_
 rintro k ⟨hk,h1,h2⟩ KL hKL
 by_cases hlt:k<3
 ·have hg:=hag k hlt
  have hst:=alS (l:=s.asked) (k:=k) (by omega)
  have hpk:=hp12 k
  repeat' (first| (with_reducible first| (refine hK _ _ _ ?_;clear hK K)| (refine hA ?_;clear hA hB A B)| (refine hB ?_;clear hA hB A B)|refine Z1 ?_|refine Z2 ?_|refine Z3 fun KB hKB=> ?_|refine Z4 (by omega) ?_|refine Z5 (by omega) ?_)| (first| (with_reducible first|refine Y2 fun K hK=> ?_|refine Y3 fun A B hA hB=> ?_)| (with_reducible refine fE ?_))<;>(simp only[go_sem];try simp (disch:=omega) only[Iw])| ((with_reducible refine Y0 ?_);simp only[AQ.then,AQ.blk])|refine⟨by omega,?_⟩| (with_reducible refine hKB _ _ _ ?_)|fail)
  exact hKL _ _ _ (k+1) (by omega) (by rw[hst];exact bU (by omega) (by repeat' (first| (with_reducible first|exact C1|refine C2 ?_ ?_)| ((with_reducible refine D0 ?_);exact CA rfl)|fail))) ⟨by omega,by rw[hst];omega,by rw[hst];omega⟩ (by omega)
 have hk3:k=3:=by omega
 subst hk3
 repeat' (first| (with_reducible first| (refine hK _ _ _ ?_;clear hK K)| (refine hB ?_;clear hA hB A B)|refine Z1 ?_|refine Z3 fun KB hKB=> ?_|refine Z5 (by omega) ?_|refine hKX _ _ _ ?_)| (with_reducible first|refine Y2 fun K hK=> ?_|refine Y3 fun A B hA hB=> ?_)<;>(simp only[go_sem])| ((with_reducible refine Y9 ?_);try simp only[AQ.then,AQ.blk,reduceIte,Nat.reduceEqDiff])|fail)
 (have hKY:=hKB;clear hKB)
 obtain⟨LL,hLL⟩: ∃LL:List TE,LL=[s.wait,s.done,s.told]:=⟨_,rfl⟩
 have hLl:LL.length=3:=by subst hLL;rfl
 have hLr:[[D1.isl (s.wait.map aS)],[D1.isl (s.done.map aS)],[D1.isl (s.told.map aS)]]=LL.map IF:=by subst hLL;rfl
 obtain⟨seen,hse⟩: ∃seen:Nat→List Job,seen=fun k=>(LL.take k).flatten:=⟨_,rfl⟩
 have hs0:seen 0=[]:=by subst hse;rfl
 have hs3:(seen 3).length=s.wait.length+s.done.length+s.told.length:=by subst hse;subst hLL;simp;omega
 have hss: ∀k,k<3→seen (k+1)=seen k++LL.getD k default:=fun k hk=>by
  subst hse
  simp only
  rw[List.take_succ_eq_append_getElem (by omega),List.flatten_append]
  simp[List.getD,show k<LL.length by omega]
 have hnd: ∀k,k<3→((seen k++LL.getD k default).map key).Nodup:=fun k hk=>by
  have hn:=hs.nodup
  unfold keys at hn
  have:k=0∨k=1∨k=2:=by omega
  subst hse;subst hLL
  rcases this with rfl|rfl|rfl
  ·have:(s.wait.map key).Nodup:=by
    simp only[List.map_append,List.append_assoc] at hn;exact(List.nodup_append.1 hn).1
   simpa [List.getD] using this
  ·have:((s.wait++s.done).map key).Nodup:=by
    rw[List.map_append] at hn;exact(List.nodup_append.1 hn).1
   simpa [List.getD] using this
  ·simpa [List.getD] using hn
 have hmem: ∀k,k<3→∀j∈LL.getD k default,j∈s.wait++s.done++s.told:=fun k hk j hj=>by
  have:k=0∨k=1∨k=2:=by omega
  subst hLL
  rcases this with rfl|rfl|rfl<;>(simp[List.getD] at hj;simp[hj])
 have hL0: ∀j∈LL.getD 0 default,j.rsp=oW:=fun j hj=>by
  subst hLL;simp[List.getD] at hj;exact hs.P4 j hj
 have hL1: ∀k,k<3→0<k→∀j∈LL.getD k default,pA j.rsp∧j.rsp.id=(bT c j.who j.n).id:=fun k hk h0 j hj=>by
  have:k=1∨k=2:=by omega
  subst hLL
  rcases this with rfl|rfl<;>(simp[List.getD] at hj;exact hs.R8 j (by simp[hj]))
 have hLs: ∀k,k<3→(LL.getD k default).length≤36:=fun k hk=>by
  have:k=0∨k=1∨k=2:=by omega
  subst hLL
  rcases this with rfl|rfl|rfl<;>(simp[List.getD];omega)
 rw[hLr]
 clear hLr hLL hse
 refine aM.sG 1 (β:=Nat) (fun b k=>en [(65,dI k),(64,dI 3),(63,dS (LL.map IF)),(8,.one (.c (.omap b))),(5,dI (s.asked.take 3).sum),(3,.one (.c (.fQ (eSt s)))),(2,.one (.c (.fQ (cU c))))]) (fun b k=>hp [(b,u4 ⟨2,true,UB (seen k)⟩)]) (fun k=>k≤3) (fun k=>3-k) 0 ?_ (by omega) ?_
 ·refine cR [31] (by omega) ?_ ⟨⟨by simp,by simp[sgL],_,rfl,GH (by rw[hs0];rfl)⟩,trivial⟩ (by simp[sgL])
  refine oF (oF (oF (oF (oF (oF (oF K6 ?_) ?_) ?_) ?_) ?_) ?_) ?_
  all_goals first
   |exact DJ (rows:=LL.map IF) (aG al7 LL) (by simp;omega) (by simp) rfl rfl (List.take_of_length_le (by simp)) (by simp;omega)
   |exact apS (aa6 (by omega) rfl)
   | (repeat' ((with_reducible refine D0 ?_);exact CA rfl);done)
 intro k hk KM hKM
 by_cases hlt:k<3
 ·have hss1:=hss k hlt
  have hnd1:=hnd k hlt
  have hmm:=hmem k hlt
  have hr0:k=0→∀j∈LL.getD k default,j.rsp=oW:=fun h=>by subst h;exact hL0
  have hr1:=hL1 k hlt
  have hlk:=hLs k hlt
  generalize hcur:LL.getD k default=cur at hss1 hnd1 hmm hr0 hr1 hlk
  repeat' (first| (with_reducible first| (refine hK _ _ _ ?_;clear hK K)| (refine hA ?_;clear hA hB A B)|refine Z1 ?_|refine Z2 ?_|refine Z3 fun KB hKB=> ?_|refine Z4 (by omega) ?_)| (with_reducible first|refine Y2 fun K hK=> ?_|refine Y3 fun A B hA hB=> ?_)<;>(simp only[go_sem,hcur])|refine⟨by omega,?_⟩|fail)
  (have hKZ:=hKB;clear hKB)
  refine aM.sG 1 (β:=Nat) (fun b i=>en [(72,dI i),(71,dI cur.length),(70,dS (cur.map aS)),(65,dI k),(64,dI 3),(63,dS (LL.map IF)),(9,dI k),(8,.one (.c (.omap b))),(5,dI (s.asked.take 3).sum),(3,.one (.c (.fQ (eSt s)))),(2,.one (.c (.fQ (cU c))))]) (fun b i=>hp [(b,u4 ⟨2,true,UB (seen k++cur.take i)⟩)]) (fun i=>i≤cur.length) (fun i=>cur.length-i) 0 (by(refine cR [42] (by omega) (by repeat' (first| (with_reducible first|exact C1|refine C2 ?_ ?_)| ((with_reducible refine C0 ?_);exact CR (by omega) rfl)| ((with_reducible refine D0 ?_);first|exact CA rfl|refine CJ ?_)|fail)) ⟨⟨by simp,by simp[sgL],_,rfl,GH (by simp)⟩,trivial⟩ (by simp[sgL]))) (by omega) ?_
  intro i hi KN hKN
  by_cases hil:i<cur.length
  ·have hjm:=hmm _ (cC hil)
   have hjd:=hd _ hjm
   have hja:=hs.mem hjm
   have hjj:=hs.ab8 (key (cur.getD i default)) (List.mem_map_of_mem hjm)
   have hj0:=fun h=>hr0 h _ (cC hil)
   have hj1:=fun h=>hr1 h _ (cC hil)
   have hts:cur.take (i+1)=cur.take i++[cur.getD i default]:=by rw[List.take_succ_eq_append_getElem hil];simp[List.getD,hil]
   have hni:key (cur.getD i default)∉(seen k++cur.take i).map key:=fun hm=>by
    have e:seen k++cur=(seen k++cur.take i)++(cur.getD i default::cur.drop (i+1)):=by
     rw[List.append_assoc];congr 1
     have:cur.getD i default=cur[i]:=by simp[List.getD,hil]
     rw[this,←List.drop_eq_getElem_cons hil,List.take_append_drop]
    rw[e,List.map_append] at hnd1
    exact(List.nodup_append.1 hnd1).2.2 _ hm _ (by simp) rfl
   have hget:=alK hni
   have hset:=alD hni
   simp only[key] at hjj
   have har:=hs.DC (cur.getD i default).who.toNat (by omega)
   have hpk:=hp12 (cur.getD i default).who.toNat
   by_cases hk0:k=0
   ·have hjr:=hj0 hk0
    repeat' (first| (with_reducible first| (refine hK _ _ _ ?_;clear hK K)| (refine hA ?_;clear hA hB A B)| (refine hB ?_;clear hA hB A B)|refine Z1 ?_|refine Z2 ?_|refine Z3 fun KB hKB=> ?_|refine Z4 (by omega) ?_)| (first| (with_reducible first|refine Y2 fun K hK=> ?_|refine Y3 fun A B hA hB=> ?_|refine Y4 (by omega) ?_|refine Y5 (by omega) ?_)| (with_reducible refine oR ?_)| (with_reducible refine fE ?_)| (with_reducible refine HK hjd ?_))<;>(simp only[go_sem,hget,hset,Option.getD_none,eq_true hjr];try simp (disch:=omega) only[Iw])| ((with_reducible refine Y0 ?_);simp only[AQ.then,AQ.blk])|refine⟨by omega,?_⟩| (with_reducible refine hKB _ _ _ ?_)|fail)
    exact hKN _ _ _ (i+1) (by omega) (by(refine cR [52] (by omega) (by repeat' (first| (with_reducible first|exact C1|refine C2 ?_ ?_)| ((with_reducible refine C0 ?_);exact CR (by omega) rfl)| ((with_reducible refine D0 ?_);first|exact CA rfl|refine CJ ?_)|fail)) ⟨⟨by simp,by simp[sgL],_,rfl,GH (by rw[hts,List.append_assoc])⟩,trivial⟩ (by simp[sgL]))) (by omega) (by omega)
   ·obtain⟨hjr1,hjr2⟩:=hj1 (by omega)
    repeat' (first| (with_reducible first| (refine hK _ _ _ ?_;clear hK K)| (refine hA ?_;clear hA hB A B)| (refine hB ?_;clear hA hB A B)|refine Z1 ?_|refine Z2 ?_|refine Z3 fun KB hKB=> ?_|refine Z4 (by omega) ?_|refine Z5 (by omega) ?_)| (first| (with_reducible first|refine Y2 fun K hK=> ?_|refine Y3 fun A B hA hB=> ?_|refine Y4 (by omega) ?_|refine Y5 (by omega) ?_)| (with_reducible refine oR ?_)| (with_reducible refine fE ?_)| (with_reducible refine I8 hjd ?_)| (with_reducible refine iJ hp3 hja ?_))<;>(simp only[go_sem,hget,hset,Option.getD_none,eq_true hjr1];try simp (disch:=omega) only[Iw])| ((with_reducible refine Y0 ?_);simp only[AQ.then,AQ.blk])|refine⟨by omega,?_⟩| (with_reducible refine hKB _ _ _ ?_)|fail)
    exact hKN _ _ _ (i+1) (by omega) (by(refine cR [52] (by omega) (by repeat' (first| (with_reducible first|exact C1|refine C2 ?_ ?_)| ((with_reducible refine C0 ?_);exact CR (by omega) rfl)| ((with_reducible refine D0 ?_);first|exact CA rfl|refine CJ ?_)|fail)) ⟨⟨by simp,by simp[sgL],_,rfl,GH (by rw[hts,List.append_assoc])⟩,trivial⟩ (by simp[sgL]))) (by omega) (by omega)
  ·have hi2:i=cur.length:=by omega
   subst hi2
   rw[List.take_length,←hss1]
   repeat' (first| (with_reducible first| (refine hK _ _ _ ?_;clear hK K)| (refine hB ?_;clear hA hB A B)|refine Z1 ?_|refine Z5 (by omega) ?_|refine hKZ _ _ _ ?_)| (with_reducible first|refine Y2 fun K hK=> ?_|refine Y3 fun A B hA hB=> ?_)<;>(simp only[go_sem];try simp (disch:=omega) only[Iw])| ((with_reducible refine Y9 ?_);try simp only[AQ.then,AQ.blk,reduceIte,Nat.reduceEqDiff])| ((with_reducible refine Y0 ?_);simp only[AQ.then,AQ.blk])| (with_reducible refine hKB _ _ _ ?_)|fail)
   exact hKM _ _ _ (k+1) (by omega) (by(refine cR [52] (by omega) (by repeat' (first| (with_reducible first|exact C1|refine C2 ?_ ?_)| ((with_reducible refine C0 ?_);exact CR (by omega) rfl)| ((with_reducible refine D0 ?_);first|exact CA rfl|refine CJ ?_)|fail)) ⟨⟨by simp,by simp[sgL],_,rfl,GH rfl⟩,trivial⟩ (by simp[sgL]))) (by omega) (by omega)
 ·have hk3:k=3:=by omega
  subst hk3
  repeat' (first| (with_reducible first| (refine hK _ _ _ ?_;clear hK K)| (refine hB ?_;clear hA hB A B)|refine Z1 ?_|refine Z5 (by omega) ?_|refine hKY _ _ _ ?_)| (with_reducible first|refine Y2 fun K hK=> ?_|refine Y3 fun A B hA hB=> ?_)<;>(simp only[go_sem])| ((with_reducible first|refine Y8 ?_|refine Y9 ?_);try simp only[AQ.then,AQ.blk,reduceIte,Nat.reduceEqDiff])|fail)
  refine aZ hQ (dB (decide (((UB (seen 3)).length:Int)=(s.asked.take 3).sum))) rfl rfl (congrArg dB (decide_eq_true ?_))
  rw[amR,hs3];omega
theorem HQ {c:Cfg} {s:TSt} (hb:aQ c) (hs:BA c s) (h:K (dB true) H nx):aB Tryz.prog j9 [dA (cU c),dA (eSt s)] H nx K:=
 (HM c s hb hs).pure rfl (aI ⟨aE rfl,aE rfl,trivial⟩) (fun r hr=>hr▸h)
end
end Go.Proofs.YtegiblhkjfiooaaGreat
end
section
namespace Go.Proofs.YtegiblhkjfiooaaGreat
open Go Go.AM
set_option maxRecDepth 100000
set_option maxHeartbeats 8000000
section
variable {H : aA} {nx : Nat} {K : D → aA → Nat → Prop}
theorem aST (c:Cfg) (s:TSt) (hb:aQ c) (hcf:jO c) (hs:BA c s):aB Tryz.prog au7 [dA (cU c),dA (eSt s)] .nil 0 fun rr _ _=>rr.plain=true∧rr=dB true:=by
 refine ayK rfl fun Q hQ=> ?_
 unfold av2
 repeat' (first| (with_reducible first| (refine hK _ _ _ ?_;clear hK K)|refine Z1 ?_)| (first| (with_reducible refine Y2 fun K hK=> ?_)| (refine W6 hcf ?_)| (refine HQ hb hs ?_))<;>(simp only[go_sem,eq_true hb])| ((with_reducible refine Y8 ?_);try simp only[AQ.then,AQ.blk,reduceIte,Nat.reduceEqDiff])|fail)
 exact aZ hQ (dB true) rfl rfl rfl
theorem aPH {c:Cfg} {s:TSt} (hb:aQ c) (hcf:jO c) (hs:BA c s) (h:K (dB true) H nx):aB Tryz.prog au7 [dA (cU c),dA (eSt s)] H nx K:=
 (aST c s hb hcf hs).pure rfl (aI ⟨aE rfl,aE rfl,trivial⟩) fun r hr=>hr▸h
theorem aWT (c:Cfg) (s:TSt) (e:Ev) (hb:aQ c) (hcf:jO c) (hs:BA c s):aB Tryz.prog dW [dA (cU c),dA (eSt s),dA (eEv e)] .nil 0
 fun r _ n=>n=0∧r.imm=true∧r= .tup [.agg (eSt (if X6 c s e=0 then lS c s e else s)),.c (cB (decide (X6 c s e=0)))]:=by
 refine aVV rfl fun Q hQ=> ?_
 unfold aVB
 obtain⟨hp3,hp12⟩:=hC hb
 have hcl:s.words.length≤s.words.length∧s.holds.length≤s.holds.length∧s.asked.length≤s.asked.length∧s.wait.length≤s.wait.length∧s.done.length≤s.done.length∧s.told.length≤s.told.length:=⟨Nat.le_refl _,Nat.le_refl _,Nat.le_refl _,Nat.le_refl _,Nat.le_refl _,Nat.le_refl _⟩
 by_cases hw:X6 c s e=0
 ·have hsk:=G9 hb hs hw
  refine aM.seq ?_
  repeat' (first| (with_reducible (refine hK _ _ _ ?_;clear hK K))| (with_reducible refine Y2 fun K hK=> ?_)<;>(simp only[go_sem])|fail)
  refine aM.seq ?_
  repeat' (first| (with_reducible first| (refine hK _ _ _ ?_;clear hK K)| (refine hB ?_;clear hA hB A B)|refine Z2 ?_)| (first| (with_reducible first|refine Y1 fun K hK=> ?_|refine Y3 fun A B hA hB=> ?_)| (refine aPH hb hcf hs ?_)| (refine CM hb hs (fun m0 m1 m2 m3 m4 m5 hm=> ?_)))<;>(simp only[go_sem])|fail)
  refine aM.apW 0 (β:=Unit) (fun _ _=>en [(8,dP 6 11),(6,dP 6 3),(5,.one (.c (.fQ (eEv e)))),(3,.one (.c (.fQ (cU c))))])
   (fun _ _=>hp [(3,⟨6,1,[[.osl 0 0 0 0 0,.osl 0 0 0 0 0,.osl 0 0 0 0 0,.osl 0 0 0 0 0,.osl 0 0 0 0 0,.osl 0 0 0 0 0]]⟩),(11,⟨6,1,[oIm 13 14 15 16 17 18 s.words.length s.holds.length s.asked.length s.wait.length s.done.length s.told.length s]⟩),(13,⟨1,m0,s.words.map aJ⟩),(14,⟨1,m1,s.holds.map aJ⟩),(15,⟨1,m2,s.asked.map aJ⟩),(16,⟨5,m3,s.wait.map aS⟩),(17,⟨5,m4,s.done.map aS⟩),(18,⟨5,m5,s.told.map aS⟩)]) (fun _=>True) (fun KJ hKJ=> ?_) ?_
  ·repeat' (first| (with_reducible first| (refine hK _ _ _ ?_;clear hK K)| (refine hB ?_;clear hA hB A B)|refine Z1 ?_|refine Z2 ?_)| (first| (with_reducible first|refine Y2 fun K hK=> ?_|refine Y3 fun A B hA hB=> ?_)| (refine axC (c:=c) (s:=s) (e:=e) hcf hp3 (hs.fit hb) (GW fun x hx=>List.all_eq_true.1 (azX s).2 x hx) ?_))<;>(simp only[go_sem,hw])| ((with_reducible refine Y0 ?_);simp only[AQ.then,AQ.blk])|fail)
   exact hKJ _ _ _ () (by(refine cR [3,11,13,14,15,16,17,18] (by omega) (by repeat' (first| (with_reducible first|exact C1|refine C2 ?_ ?_)| ((with_reducible refine C0 ?_);exact CE (by omega) rfl)| ((with_reducible refine D0 ?_);first|exact CI rfl (by simp) rfl rfl rfl|refine CJ ?_)|fail)) ⟨⟨by simp,by simp[sgL],_,rfl,aP (by repeat' (first| (with_reducible first|exact C3|refine C4 ?_ ?_)| ((with_reducible refine C0 ?_);exact CC)|fail))⟩,⟨by simp,by simp[sgL],_,rfl,aP (by unfold oIm;repeat' (first| (with_reducible first|exact C3|refine C4 ?_ ?_)| ((with_reducible refine C0 ?_);exact CQ (by omega) rfl rfl (by rfl) rfl)|fail))⟩,⟨by simp,by simp[sgL],_,rfl,bP (aG bF _) rfl rfl⟩,⟨by simp,by simp[sgL],_,rfl,bP (aG bF _) rfl rfl⟩,⟨by simp,by simp[sgL],_,rfl,bP (aG bF _) rfl rfl⟩,⟨by simp,by simp[sgL],_,rfl,bP (aG dZ _) rfl rfl⟩,⟨by simp,by simp[sgL],_,rfl,bP (aG dZ _) rfl rfl⟩,⟨by simp,by simp[sgL],_,rfl,bP (aG dZ _) rfl rfl⟩,trivial⟩ (by simp[sgL]))) trivial
  intro _ _
  refine aM.apW 0 (β:=Unit) (fun _ _=>en [(8,.one (.c (.fQ (eSt (lS c s e))))),(6,dP 6 3)]) (fun _ _=>hp [(3,⟨6,1,[[.osl 0 0 0 0 0,.osl 0 0 0 0 0,.osl 0 0 0 0 0,.osl 0 0 0 0 0,.osl 0 0 0 0 0,.osl 0 0 0 0 0]]⟩)]) (fun _=>True) (fun KJ hKJ=> ?_) ?_
  ·repeat' (first| (with_reducible (refine hK _ _ _ ?_;clear hK K))| (first| (with_reducible refine Y2 fun K hK=> ?_)| (refine awO hb hs hw hcl hm.2.2.2 (by omega) (by simp) rfl rfl rfl rfl rfl rfl rfl (fun c3' c4' c5' m3' m4' m5' q1 q2=> ?_)))<;>(simp only[go_sem])| ((with_reducible refine Y0 ?_);simp only[AQ.then,AQ.blk])|fail)
   refine hKJ _ _ _ () ?_ trivial
   have hcl2:(lS c s e).words.length≤s.words.length∧(lS c s e).holds.length≤s.holds.length∧(lS c s e).asked.length≤s.asked.length∧(lS c s e).wait.length≤c3'∧(lS c s e).done.length≤c4'∧(lS c s e).told.length≤c5':=by
    rw[hs.atm.wl,hsk.atm.wl,hs.atm.hl,hsk.atm.hl,hs.JI,hsk.JI];exact⟨Nat.le_refl _,Nat.le_refl _,Nat.le_refl _,q1⟩
   refine cR [3] (by omega) (oF (oF K6 (DG (by omega) rfl)) (ay3 (σ:=id) (nh:=0) (azX _).2 (azA hcl2 rfl rfl rfl rfl rfl rfl (by simp) (by simp) (by simp) (by simp) (by simp) (by simp)) (by simp) rfl rfl rfl)) ?_ (by simp[sgL])
   exact⟨⟨by omega,by simp[sgL],_,rfl,aP (by repeat' (first| (with_reducible first|exact C3|refine C4 ?_ ?_)| ((with_reducible refine C0 ?_);exact CC)|fail))⟩,trivial⟩
  intro _ _
  have hcl3: ∀s:TSt,s.words.length≤s.words.length∧s.holds.length≤s.holds.length∧s.asked.length≤s.asked.length∧s.wait.length≤s.wait.length∧s.done.length≤s.done.length∧s.told.length≤s.told.length:=fun s=>⟨Nat.le_refl _,Nat.le_refl _,Nat.le_refl _,Nat.le_refl _,Nat.le_refl _,Nat.le_refl _⟩
  repeat' (first| (with_reducible first| (refine hK _ _ _ ?_;clear hK K)|refine Z1 ?_)| (first| (with_reducible refine Y2 fun K hK=> ?_)| (refine CM hb hsk (fun n0 n1 n2 n3 az7 az8 hn=> ?_)))<;>(simp only[go_sem])| ((with_reducible refine Y8 ?_);try simp only[AQ.then,AQ.blk,reduceIte,Nat.reduceEqDiff])|fail)
  refine V4 hQ (.tup [.agg (eSt (lS c s e)),.c (cB true)]) _ rfl (ay7 (ayY (azA (hcl3 _) rfl rfl rfl rfl rfl rfl trivial trivial trivial trivial trivial trivial)) (azN (bB rfl))) rfl ?_
  simp only[hw,if_true,decide_true]
 ·repeat' (first| (with_reducible first| (refine hK _ _ _ ?_;clear hK K)| (refine hA ?_;clear hA hB A B)| (refine hB ?_;clear hA hB A B)|refine Z1 ?_|refine Z2 ?_|refine Z4 (by omega) ?_)| (first| (with_reducible first|refine Y2 fun K hK=> ?_|refine Y3 fun A B hA hB=> ?_)| (refine aPH hb hcf hs ?_)| (refine CM hb hs (fun m0 m1 m2 m3 m4 m5 hm=> ?_))| (refine axC (c:=c) (s:=s) (e:=e) hcf hp3 (hs.fit hb) (GW fun x hx=>List.all_eq_true.1 (azX s).2 x hx) ?_))<;>(simp only[go_sem])| ((with_reducible refine Y8 ?_);try simp only[AQ.then,AQ.blk,reduceIte,Nat.reduceEqDiff])|fail)
  refine V4 hQ (.tup [.agg (eSt s),.c (cB false)]) _ rfl (ay7 (ayY (azA hcl rfl rfl rfl rfl rfl rfl trivial trivial trivial trivial trivial trivial)) (azN (bB rfl))) rfl ?_
  simp only[hw,if_false,decide_false]
theorem aWU {c:Cfg} {s:TSt} {e:Ev} (hb:aQ c) (hcf:jO c) (hs:BA c s) (h:K (.tup [.agg (eSt (if X6 c s e=0 then lS c s e else s)),.c (cB (decide (X6 c s e=0)))]) H nx):aB Tryz.prog dW [dA (cU c),dA (eSt s),dA (eEv e)] H nx K:=
 (aWT c s e hb hcf hs).fresh rfl fun r hr=>hr▸h
end
end Go.Proofs.YtegiblhkjfiooaaGreat
end
section
namespace Go.AM
end Go.AM
end
section
namespace Go.AM
structure Sam (k:Int) (s s':TSt):Prop where
 asked:s'.asked.getD k.toNat default=s.asked.getD k.toNat default
 wait: ∀n,(k,n)∈s'.wait.map key↔(k,n)∈s.wait.map key
 done: ∀n,(k,n)∈s'.done.map key↔(k,n)∈s.done.map key
theorem Sam.refl {k:Int} {s:TSt}:Sam k s s:=⟨rfl,fun _=>.rfl,fun _=>.rfl⟩
theorem Sam.symm {k:Int} {s s':TSt} (h:Sam k s s'):Sam k s' s:=⟨h.asked.symm,fun n=>(h.wait n).symm,fun n=>(h.done n).symm⟩
theorem Sam.trans {k:Int} {s s' s2:TSt} (h:Sam k s s') (h2:Sam k s' s2):Sam k s s2:=⟨h2.asked.trans h.asked,fun n=>(h2.wait n).trans (h.wait n),fun n=>(h2.done n).trans (h.done n)⟩
end Go.AM
end
section
namespace Go.AM
end Go.AM
end
section
namespace Go.AM
def kP (q:Req):List Int:=bE q.addr q.many q.wrap
def hB (br:Nat) (who:Int) (q:Req) (h:List Int):List Int:=if br=5 then iU h (kP q) else if br=3 then h.set (who*2+q.id).toNat q.addr else h
def u9 (a b:Req):Prop:=∀x∈kP a,x∉kP b
theorem u9.symm {a b:Req} (h:u9 a b):u9 b a:=fun x hx hy=>h x hy hx
def ajR (c:Cfg) (a b:Ev):Prop:=a.who≠b.who∧ ¬(a.kind=3∧b.kind=3)∧(a.kind=2→b.kind=2→u9 (bT c a.who a.n) (bT c b.who b.n))
instance {a b:Req}:Decidable (u9 a b):=by unfold u9;infer_instance
instance {c:Cfg} {a b:Ev}:Decidable (ajR c a b):=by unfold ajR;infer_instance
end Go.AM
end
section
namespace Go.AM
theorem wW {c:Cfg} {s:TSt} {e:Ev} {l:List Ev}:runM c s (e::l)=runM c (lS c s e) l:=rfl
theorem xB {c:Cfg} {s:TSt} {e:Ev} {l:List Ev}:F9 c s (e::l)↔X6 c s e=0∧F9 c (lS c s e) l:=by
 constructor
 ·intro h
  refine⟨h 0 (by simp),fun k hk=> ?_⟩
  have:=h (k+1) (by simpa using hk)
  rwa [List.take_succ_cons,wW,List.getD_cons_succ] at this
 ·rintro⟨h1,h2⟩ k hk
  match k with
  |0=>exact h1
  |k+1=>
   rw[List.take_succ_cons,wW,List.getD_cons_succ]
   exact h2 k (by simpa using hk)
end Go.AM
end
section
namespace Go.AM
def b9 (c:Cfg):TSt→List Ev→Nat
 |_,[]=>0
 |s,e::l=>if X6 c s e=0 then b9 c (lS c s e) l+1 else 0
theorem aNZ {c:Cfg}: ∀{l:List Ev} {s:TSt},b9 c s l≤l.length
 | [],s=>Nat.le_refl _
 |e::l,s=>by
  unfold b9
  split
  ·have:=aNZ (c:=c) (l:=l) (s:=lS c s e);simp;omega
  ·simp
theorem aOI {c:Cfg}: ∀{l:List Ev} {s:TSt},F9 c s (l.take (b9 c s l))
 | [],s=>pV
 |e::l,s=>by
  unfold b9
  split
  ·rename_i h
   rw[List.take_succ_cons,xB]
   exact⟨h,aOI⟩
  ·exact pV
theorem aN8 {c:Cfg}: ∀{l:List Ev} {s:TSt},b9 c s l<l.length→X6 c (runM c s (l.take (b9 c s l))) (l.getD (b9 c s l) default)≠0
 | [],s,h=>by simp[b9] at h
 |e::l,s,h=>by
  unfold b9 at h ⊢
  split
  ·rename_i hw
   rw[if_pos hw] at h
   rw[List.take_succ_cons,wW,List.getD_cons_succ]
   exact aN8 (by simpa using h)
  ·rename_i hw
   simpa [runM] using hw
theorem aS0 {c:Cfg} {s:TSt} {es:List Ev} {k:Nat} (hk:k<b9 c s es):X6 c (runM c s (es.take k)) (es.getD k default)=0:=by
 have hp:=aOI (c:=c) (l:=es) (s:=s)
 have hle:=aNZ (c:=c) (l:=es) (s:=s)
 have:=hp k (by rw[List.length_take];omega)
 rw[List.take_take,Nat.min_eq_left (by omega)] at this
 rwa [show (es.take (b9 c s es)).getD k default=es.getD k default by simp[List.getD,List.getElem?_take,hk]] at this
theorem aPL {c:Cfg} {s:TSt} {es:List Ev} (hb:aQ c) (hs:BA c s) {k:Nat} (hk:k≤b9 c s es):BA c (runM c s (es.take k)):=by
 have hle:=aNZ (c:=c) (l:=es) (s:=s)
 have:=ax6 hb hs (aOI (c:=c) (l:=es) (s:=s)) k (by rw[List.length_take];omega)
 rwa [List.take_take,Nat.min_eq_left hk] at this
end Go.AM
end
section
namespace Go.AM
structure aTQ (s:TSt):Prop where
 words:s.words.length<2^20
 holds:s.holds.length<2^20
 asked:s.asked.length<2^20
 wait:s.wait.length<2^20
 done:s.done.length<2^20
 told:s.told.length<2^20
 data: ∀j∈s.wait++s.done++s.told,j.rsp.data.length<2^20
theorem BA.aUG {c:Cfg} {s:TSt} (hb:aQ c) (hs:BA c s):aTQ s:=by
 have h:=hs.lens hb
 exact⟨by rw[hs.atm.wl];decide,by rw[hs.atm.hl];decide,by rw[hs.JI];decide,by omega,by omega,by omega,hs.ar7⟩
def InA (asked:List Int) (j:Job):Prop:=(0≤j.who∧j.who≤2)∧0≤j.n∧j.n<asked.getD j.who.toNat default
def as5 (c:Cfg) (j:Job):Prop:=pA j.rsp∧j.rsp.id=(bT c j.who j.n).id
def aTF (c:Cfg) (asked:List Int):Prop:=∀k,k<3→0≤asked.getD k default∧asked.getD k default≤(c.cP.getD k default).length
noncomputable def stB (c:Cfg) (s:TSt):Bool:=@decide (BA c s) (Classical.propDecidable _)
theorem aXJ {c:Cfg} {s:TSt} (h:BA c s):stB c s=true:=by simp[stB,h]
theorem aWH {c:Cfg} {s:TSt} (h: ¬BA c s):stB c s=false:=by simp[stB,h]
noncomputable def tlB (c:Cfg) (s:TSt):Bool:=@decide (aQ c∧BA c s) (Classical.propDecidable _)
theorem aTX {c:Cfg} {s:TSt} (hb:aQ c) (h:BA c s):tlB c s=true:=by simp[tlB,h,hb]
theorem aOH {c:Cfg} {s:TSt} (h: ¬(aQ c∧BA c s)):tlB c s=false:=by simp[tlB,h]
theorem aXH {c:Cfg} {s:TSt} (hb:aQ c):tlB c s=stB c s:=by simp[tlB,stB,hb]
theorem zG {l:List Job} (h:kW l):(l.map key).Nodup:=by
 refine List.pairwise_map.2 (h.imp ?_)
 intro a b hab he
 rw[qL] at hab
 simp only[key,Prod.mk.injEq] at he
 omega
theorem aUA {c:Cfg} {s:TSt} (h1:JS s.words s.holds) (h2:s.asked.length=3) (h3:aTF c s.asked) (h4:kW s.wait) (h5:kW s.done) (h6: ∀j∈s.wait++s.done++s.told,InA s.asked j) (h7:(keys s).Nodup)
 (h8:(s.wait.length:Int)+s.done.length+s.told.length=s.asked.getD 0 default+s.asked.getD 1 default+s.asked.getD 2 default) (h9: ∀j∈s.wait,j.rsp=oW) (h10: ∀j∈s.done++s.told,as5 c j):BA c s:=
 ⟨⟨by have:=h1.1.1;omega,h1.1.2,by have:=h1.2.1;omega,h1.2.2⟩,h2,h3,h4,h5,fun p hp=>by
   obtain⟨j,hj,rfl⟩:=List.mem_map.1 hp
   exact h6 j hj,h7,h8,h9,h10⟩
theorem aS8 {w d t:List Job} (hw:kW w) (hd:kW d) (ht:(t.map key).Nodup) (h1: ∀j∈t,key j∉w.map key∧key j∉d.map key) (h2: ∀j∈d,key j∉w.map key):((w++d++t).map key).Nodup:=by
 rw[List.map_append,List.map_append,List.nodup_append,List.nodup_append]
 refine⟨⟨zG hw,zG hd,fun a ha b hb he=> ?_⟩,ht,fun a ha b hb he=> ?_⟩
 ·obtain⟨j,hj,rfl⟩:=List.mem_map.1 hb
  exact h2 j hj (he▸ha)
 ·obtain⟨j,hj,rfl⟩:=List.mem_map.1 hb
  rcases List.mem_append.1 ha with ha|ha
  ·exact(h1 j hj).1 (he▸ha)
  ·exact(h1 j hj).2 (he▸ha)
theorem ZP {l:List Job} {who n:Int}:0≤bK (iM who n) l↔(who,n)∈l.map key:=by
 rw[cH,List.mem_map]
 refine⟨fun⟨x,hx,h⟩=>⟨x,hx,?_⟩,fun⟨x,hx,h⟩=>⟨x,hx,?_⟩⟩
 ·have:=of_decide_eq_true h;simp[key,this.1,this.2]
 ·simp only[key,Prod.mk.injEq] at h;exact decide_eq_true h
theorem BA.apart {c:Cfg} {s:TSt} (h:BA c s):(s.told.map key).Nodup∧(∀j∈s.told,key j∉s.wait.map key∧key j∉s.done.map key)∧(∀j∈s.done,key j∉s.wait.map key):=by
 have hn:=h.nodup
 unfold keys at hn
 rw[List.map_append,List.map_append,List.nodup_append,List.nodup_append] at hn
 obtain⟨⟨h1,h2,h3⟩,h4,h5⟩:=hn
 refine⟨h4,fun j hj=>⟨fun hm=> ?_,fun hm=> ?_⟩,fun j hj hm=> ?_⟩
 ·exact h5 _ (List.mem_append_left _ hm) _ (List.mem_map_of_mem hj) rfl
 ·exact h5 _ (List.mem_append_right _ hm) _ (List.mem_map_of_mem hj) rfl
 ·exact h3 _ hm _ (List.mem_map_of_mem hj) rfl
structure aPN (c:Cfg) (asked:List Int) (l:List Job) (done:Bool):Prop where
 inA: ∀j∈l,InA asked j
 sorted:kW l
 rsp: ∀j∈l,if done then as5 c j else j.rsp=oW
noncomputable def aPK (c:Cfg) (asked:List Int) (l:List Job) (done:Bool):Bool:=@decide (aPN c asked l done) (Classical.propDecidable _)
theorem aQD {c:Cfg} {asked:List Int} {l:List Job} {done:Bool} (h:aPN c asked l done):aPK c asked l done=true:=by simp[aPK,h]
theorem aSY {c:Cfg} {asked:List Int} {l:List Job} {done:Bool} (h: ¬aPN c asked l done):aPK c asked l done=false:=by simp[aPK,h]
structure aSQ (c:Cfg) (s:TSt):Prop where
 inA: ∀j∈s.told,InA s.asked j
 once:(s.told.map key).Nodup
 rsp: ∀j∈s.told,as5 c j
noncomputable def aRF (c:Cfg) (s:TSt):Bool:=@decide (aSQ c s) (Classical.propDecidable _)
theorem aTM {c:Cfg} {s:TSt} (h:aSQ c s):aRF c s=true:=by simp[aRF,h]
theorem aTL {c:Cfg} {s:TSt} (h: ¬aSQ c s):aRF c s=false:=by simp[aRF,h]
theorem aTG {c:Cfg} {s:TSt} (h1:JS s.words s.holds) (h2:s.asked.length=3) (h3:aTF c s.asked) (h4:aPN c s.asked s.wait false) (h5:aPN c s.asked s.done true) (h6:aSQ c s)
 (h8:(s.wait.length:Int)+s.done.length+s.told.length=s.asked.getD 0 default+s.asked.getD 1 default+s.asked.getD 2 default) (h7: ∀j∈s.told,key j∉s.wait.map key∧key j∉s.done.map key) (h9: ∀j∈s.done,key j∉s.wait.map key):BA c s:=by
 refine aUA h1 h2 h3 h4.sorted h5.sorted (fun j hj=> ?_) (aS8 h4.sorted h5.sorted h6.once h7 h9) h8 (fun j hj=>by simpa using h4.rsp j hj) fun j hj=> ?_
 ·simp only[List.mem_append] at hj
  rcases hj with(hj|hj)|hj
  ·exact h4.inA j hj
  ·exact h5.inA j hj
  ·exact h6.inA j hj
 ·rcases List.mem_append.1 hj with hj|hj
  ·have:=h5.rsp j hj
   rwa [if_pos rfl] at this
  ·exact h6.rsp j hj
theorem BA.inA {c:Cfg} {s:TSt} (h:BA c s): ∀j∈s.wait++s.done++s.told,InA s.asked j:=fun j hj=>h.ab8 (key j) (List.mem_map_of_mem hj)
theorem BA.aUL {c:Cfg} {s:TSt} (h:BA c s):aPN c s.asked s.wait false:=⟨fun j hj=>h.inA j (by simp[hj]),h.NR,fun j hj=>by simpa using h.P4 j hj⟩
theorem BA.aUM {c:Cfg} {s:TSt} (h:BA c s):aPN c s.asked s.done true:=⟨fun j hj=>h.inA j (by simp[hj]),h.NW,fun j hj=>by rw[if_pos rfl];exact h.R8 j (by simp[hj])⟩
theorem BA.aUN {c:Cfg} {s:TSt} (h:BA c s):aSQ c s:=⟨fun j hj=>h.inA j (by simp[hj]),h.apart.1,fun j hj=>h.R8 j (by simp[hj])⟩
theorem aEA {l:List Int} {lo up:Int} (h: ∀i,i<l.length→lo≤l.getD i default∧l.getD i default≤up):All l lo up:=fun x hx=>by
 obtain⟨i,hi,rfl⟩:=List.mem_iff_getElem.1 hx
 simpa [List.getD,hi] using h i hi
theorem aj1 {l:List Int} {lo up:Int} (h:All l lo up) {i:Nat} (hi:i<l.length):lo≤l.getD i default∧l.getD i default≤up:=h _ (by simp[List.getD,hi])
theorem aKJ {α:Type} [Inhabited α] {l:List α} {P:α→Prop} (h: ∀i,i<l.length→P (l.getD i default)): ∀x∈l,P x:=fun x hx=>by
 obtain⟨i,hi,rfl⟩:=List.mem_iff_getElem.1 hx
 simpa [List.getD,hi] using h i hi
end Go.AM
end
section
namespace Go.Proofs.YtegiblhkjfiooaaGreat
open Go Go.AM
set_option maxRecDepth 100000
set_option maxHeartbeats 8000000
def stN:TSt:=⟨[],[],[],[],[],[]⟩
section
variable {H : aA} {nx : Nat} {K : D → aA → Nat → Prop}
end
end Go.Proofs.YtegiblhkjfiooaaGreat
end
