/- Texts laid together by a program: rules, contracts and the walk that leads to the law. -/
import Derived.Test.YtegiblhkjfiooaaGreatPx12
import Derived.Test.YtegiblhkjfiooaaGreatPx6
import Derived.Test.YtegiblhkjfiooaaGreatPx8
import Derived.Test.YtegiblhkjfiooaaGreatPx9
set_option linter.unusedVariables false
set_option linter.unusedSimpArgs false
set_option linter.unusedSectionVars false
section
namespace Go.Proofs.YtegiblhkjfiooaaGreat
open Go Go.AM
set_option maxRecDepth 100000
set_option maxHeartbeats 4000000
section
variable {H : aA} {nx : Nat} {K : D → aA → Nat → Prop}
theorem aeU (old new lanes:Int) (h1:0≤old∧old≤65535) (h2:0≤new∧new≤65535) (h3:0≤lanes∧lanes≤3):aB Tryz.prog DA [dI old,dI new,dI lanes] .nil 0 fun rr _ _=>rr.plain=true∧rr=dI (xZ old new lanes):=by
 refine ZG rfl fun Q hQ=> ?_
 unfold GM
 have hc:lanes=0∨lanes=1∨lanes=2∨lanes=3:=by omega
 rcases hc with rfl|rfl|rfl|rfl
 all_goals repeat' (first| (with_reducible first| (refine hK _ _ _ ?_;clear hK K)|refine Z1 ?_)| (with_reducible refine Y2 fun K hK=> ?_)<;>(simp only[go_sem])| ((with_reducible refine Y8 ?_);try simp only[AQ.then,AQ.blk,reduceIte,Nat.reduceEqDiff])|fail)
 ·exact aZ hQ (dI (aeN old new (aaU 0))) rfl rfl (qA (by rw[arC];exact PW h1 h2 (by omega)))
 ·exact aZ hQ (dI (aeN old new (aaU 1))) rfl rfl (qA (by rw[aqD];exact PW h1 h2 (by omega)))
 ·exact aZ hQ (dI (aeN old new (aaU 2))) rfl rfl (qA (by rw[arO];exact PW h1 h2 (by omega)))
 ·exact aZ hQ (dI (aeN old new (aaU 3))) rfl rfl (qA (by rw[arA];exact PW h1 h2 (by omega)))
theorem ae5 {old:Int} {new:Int} {lanes:Int} (h1:0≤old∧old≤65535) (h2:0≤new∧new≤65535) (h3:0≤lanes∧lanes≤3) (h:K (dI (xZ old new lanes)) H nx):aB Tryz.prog DA [dI old,dI new,dI lanes] H nx K:=
 (aeU old new lanes h1 h2 h3).pure rfl (aI ⟨aE rfl,aE rfl,aE rfl,trivial⟩) (fun r hr=>hr▸h)
theorem aqI {w all:List Int}:(List.range all.length).map (fun k=>w.getD (all.getD k default).toNat default)=all.map fun a=>w.getD a.toNat default:=by
 apply List.ext_getElem
 ·simp
 ·intro i h1 h2
  simp only[List.length_map] at h2
  simp[List.getD,h2]
end
end Go.Proofs.YtegiblhkjfiooaaGreat
end
section
namespace Go.Proofs.YtegiblhkjfiooaaGreat
open Go Go.AM
set_option maxRecDepth 100000
set_option maxHeartbeats 8000000
section
variable {H : aA} {nx : Nat} {K : D → aA → Nat → Prop}
end
end Go.Proofs.YtegiblhkjfiooaaGreat
end
section
namespace Go.Proofs.YtegiblhkjfiooaaGreat
open Go Go.AM
set_option maxRecDepth 100000
set_option maxHeartbeats 8000000
section
variable {H : aA} {nx : Nat} {K : D → aA → Nat → Prop}
theorem aoK {i0 i1 i2 i3 i4 i5 c0 c1 c2 c3 c4 c5:Nat} {s:TSt}:(oIm i0 i1 i2 i3 i4 i5 c0 c1 c2 c3 c4 c5 s).length=6:=rfl
theorem aj7 {i0 i1 i2 i3 i4 i5 c0 c1 c2 c3 c4 c5:Nat} {s:TSt}:(oIm i0 i1 i2 i3 i4 i5 c0 c1 c2 c3 c4 c5 s).take 6=oIm i0 i1 i2 i3 i4 i5 c0 c1 c2 c3 c4 c5 s:=rfl
theorem akC {i0 i1 i2 i3 i4 i5 c0 c1 c2 c3 c4 c5:Nat} {s:TSt}:(oIm i0 i1 i2 i3 i4 i5 c0 c1 c2 c3 c4 c5 s).drop 6=[]:=rfl
theorem alF {i0 i1 i2 i3 i4 i5 c0 c1 c2 c3 c4 c5 k:Nat} {s:TSt} {cs:List D1}:iA cs (k+1) (oIm i0 i1 i2 i3 i4 i5 c0 c1 c2 c3 c4 c5 s)=iA cs (k+1) [.osl 1 i0 0 s.words.length c0,.osl 1 i1 0 s.holds.length c1,.osl 1 i2 0 s.asked.length c2,.osl 5 i3 0 s.wait.length c3,.osl 5 i4 0 s.done.length c4,.osl 5 i5 0 s.told.length c5]:=rfl
attribute [go_sem] aoK aj7 akC alF
end
end Go.Proofs.YtegiblhkjfiooaaGreat
end
section
namespace Go.AM
abbrev TE:=List Job
def IF (l:TE):List D1:=[.isl (l.map aS)]
theorem ag7 {l:TE}:(IF l).length=1:=rfl
theorem aaZ {l:TE}:(IF l).take 1=[.isl (l.map aS)]:=rfl
theorem ZY {l:TE}:(IF l).drop 1=[]:=rfl
theorem ae8 {l:TE} {cs:List D1} {k:Nat}:iA cs (k+1) (IF l)=iA cs (k+1) [.isl (l.map aS)]:=rfl
theorem al7 (l:TE):(IF l).length=1∧(IF l).all D1.dQ=true:=⟨rfl,rfl⟩
attribute [go_sem] ag7 aaZ ZY ae8
end Go.AM
namespace Go.Proofs.YtegiblhkjfiooaaGreat
open Go Go.AM
set_option maxRecDepth 100000
set_option maxHeartbeats 8000000
section
variable {H : aA} {nx : Nat} {K : D → aA → Nat → Prop}
theorem ac0 {l:List Job} (h: ∀i,i<l.length→1≤i→ad5 (l.getD (i-1) default) (l.getD i default)<0):kW l:=by
 have h2: ∀(d i:Nat) (hi:i+d+1<l.length),uL (l.getD i default) (l.getD (i+d+1) default)=true:=by
  intro d
  induction d with
  |zero=>intro i hi;have:=h (i+1) (by omega) (by omega);rw[E7] at this;simpa using this
  |succ d ih=>
   intro i hi
   have h3:=ih i (by omega)
   have h4:=h (i+d+2) (by omega) (by omega)
   rw[E7,show i+d+2-1=i+d+1 by omega] at h4
   rw[show i+(d+1)+1=i+d+2 by omega]
   rw[qL] at*
   omega
 refine List.pairwise_iff_getElem.2 fun i j hi hj hij=> ?_
 have:=h2 (j-i-1) i (by omega)
 rw[show i+(j-i-1)+1=j by omega] at this
 simpa [List.getD,hi,hj] using this
theorem TI (l:List Job) (hl:l.length<2^20):aB Tryz.prog oI [dS (l.map aS)] .nil 0 fun rr _ _=>rr.plain=true∧rr=dB (decide (kW l)):=by
 refine Q2 rfl fun Q hQ=> ?_
 unfold x7
 repeat' (first| (with_reducible first| (refine hK _ _ _ ?_;clear hK K)|refine Z1 ?_|refine Z3 fun KB hKB=> ?_)| (with_reducible refine Y2 fun K hK=> ?_)<;>(simp only[go_sem])|fail)
 (have hKX:=hKB;clear hKB)
 refine aM.sG 0 (β:=Nat) (fun b k=>en [(3,dI k),(0,dS (l.map aS))]) (fun b k=>hp []) (fun k=>(1≤k∧(k≤l.length∨k=1))∧ ∀i,i<k→i<l.length→1≤i→ad5 (l.getD (i-1) default) (l.getD i default)<0) (fun k=>l.length-k) 1 (bU (Nat.le_refl _) (by repeat' (first| (with_reducible first|exact C1|refine C2 ?_ ?_)| ((with_reducible refine D0 ?_);exact CA rfl)|fail))) ⟨by omega,fun i hi _ _=>by omega⟩ ?_
 rintro k ⟨hk,hinv⟩ KL hKL
 by_cases hlt:k<l.length
 ·have e1:((k:Int)-1).toNat=k-1:=by omega
  repeat' (first| (with_reducible first| (refine hK _ _ _ ?_;clear hK K)| (refine hA ?_;clear hA hB A B)| (refine hB ?_;clear hA hB A B)|refine Z1 ?_|refine Z2 ?_|refine Z3 fun KB hKB=> ?_|refine Z4 (by omega) ?_|refine Z6 (fun h=> ?_) fun h=> ?_)| (first| (with_reducible first|refine Y2 fun K hK=> ?_|refine Y3 fun A B hA hB=> ?_)| (with_reducible refine xM ?_))<;>(simp only[go_sem,e1];try simp (disch:=omega) only[Iw])| ((with_reducible refine Y8 ?_);try simp only[AQ.then,AQ.blk,reduceIte,Nat.reduceEqDiff])| ((with_reducible refine Y0 ?_);simp only[AQ.then,AQ.blk])|refine⟨by omega,?_⟩| (with_reducible refine hKB _ _ _ ?_)|fail)
  ·refine aZ hQ (dB false) rfl rfl (j7 fun hs=> ?_)
   have h5:=List.pairwise_iff_getElem.1 hs (k-1) k (by omega) hlt (by omega)
   have h6:ad5 (l.getD (k-1) default) (l.getD k default)<0:=by rw[E7];simpa [List.getD,hlt,show k-1<l.length by omega] using h5
   omega
  ·exact hKL _ _ _ (k+1) (by omega) (bU (Nat.le_refl _) (by repeat' (first| (with_reducible first|exact C1|refine C2 ?_ ?_)| ((with_reducible refine D0 ?_);exact CA rfl)|fail))) ⟨by omega,fun i hi hl2 h1=>by
    rcases Nat.lt_succ_iff_lt_or_eq.1 hi with h2|h2
    ·exact hinv i h2 hl2 h1
    ·subst h2;omega⟩ (by omega)
 ·repeat' (first| (with_reducible first| (refine hK _ _ _ ?_;clear hK K)| (refine hB ?_;clear hA hB A B)|refine Z1 ?_|refine Z5 (by omega) ?_|refine hKX _ _ _ ?_)| (with_reducible first|refine Y2 fun K hK=> ?_|refine Y3 fun A B hA hB=> ?_)<;>(simp only[go_sem])| ((with_reducible first|refine Y8 ?_|refine Y9 ?_);try simp only[AQ.then,AQ.blk,reduceIte,Nat.reduceEqDiff])|fail)
  exact aZ hQ (dB true) rfl rfl (q9 (ac0 fun i hi h1=>hinv i (by omega) hi h1))
theorem IK {l:List Job} (hl:l.length<2^20) {d0:D} (hd0:CvD H (fun _=>True) id 0 (dS (l.map aS)) d0) (h:K (dB (decide (kW l))) H nx):aB Tryz.prog oI [d0] H nx K:=
 (TI l hl).pure rfl (aI ⟨hd0,trivial⟩) (fun r hr=>hr▸h)
theorem JU (r:Rsp) (hr:r.data.length<2^40):aB Tryz.prog iT [dA (tG r)] .nil 0 fun rr _ _=>rr.plain=true∧rr=dB (decide (r=oW)):=by
 refine HU rfl fun Q hQ=> ?_
 unfold nO
 repeat' (first| (with_reducible first| (refine hK _ _ _ ?_;clear hK K)|refine Z1 ?_)| (with_reducible first|refine Y2 fun K hK=> ?_|refine Y6 (fun h=> ?_) fun h=> ?_)<;>(simp only[go_sem])| ((with_reducible refine Y8 ?_);try simp only[AQ.then,AQ.blk,reduceIte,Nat.reduceEqDiff])|fail)
 all_goals first|with_reducible refine aZ hQ _ rfl rfl ?_|skip
 all_goals (obtain⟨r1,r2,r3⟩:=r;unfold oW;dsimp only at*;first|exact q9 (by simp_all)|exact j7 (by simp_all)|exact pD (by simp_all)|exact pD (by simp only[Rsp.mk.injEq];rw[←List.length_eq_zero_iff];omega))
theorem JG {r:Rsp} (hr:r.data.length<2^40) (h:K (dB (decide (r=oW))) H nx):aB Tryz.prog iT [dA (tG r)] H nx K:=
 (JU r hr).pure rfl (aI ⟨aE rfl,trivial⟩) (fun r hr=>hr▸h)
theorem W1 (r:Rsp) (hr:r.data.length<2^40):aB Tryz.prog m6 [dA (tG r)] .nil 0 fun rr _ _=>rr.plain=true∧rr=dB (decide (pA r)):=by
 refine UX rfl fun Q hQ=> ?_
 unfold z8
 repeat' (first| (with_reducible first| (refine hK _ _ _ ?_;clear hK K)|refine Z1 ?_)| (first| (with_reducible first|refine Y2 fun K hK=> ?_|refine Y6 (fun h=> ?_) fun h=> ?_)| (with_reducible refine fE ?_)| (refine vG hr (aE rfl) ?_))<;>(simp only[go_sem])| ((with_reducible refine Y8 ?_);try simp only[AQ.then,AQ.blk,reduceIte,Nat.reduceEqDiff])|fail)
 all_goals first|with_reducible refine aZ hQ _ rfl rfl ?_|skip
 all_goals first|exact j7 (by unfold pA;grind)|exact pD (by unfold pA;grind)|exact q9 (by unfold pA;grind)
theorem YD {r:Rsp} (hr:r.data.length<2^40) (h:K (dB (decide (pA r))) H nx):aB Tryz.prog m6 [dA (tG r)] H nx K:=
 (W1 r hr).pure rfl (aI ⟨aE rfl,trivial⟩) (fun r hr=>hr▸h)
theorem HK {r:Rsp} (hr:r.data.length<2^40) (h:K (dB (decide (r=oW))) H nx):aB Tryz.prog iT [.one (.agg [cI r.id,cI r.code,.isl (r.data.map aJ)])] H nx K:=JG hr h
theorem I8 {r:Rsp} (hr:r.data.length<2^40) (h:K (dB (decide (pA r))) H nx):aB Tryz.prog m6 [.one (.agg [cI r.id,cI r.code,.isl (r.data.map aJ)])] H nx K:=YD hr h
def UB (l:List Job):List (List Int×Int):=l.map fun j=>([j.who,j.n],1)
theorem alK {l:List Job} {j:Job} (h:key j∉l.map key):jT (UB l) [j.who,j.n]=none:=by
 unfold jT UB
 rw[Option.map_eq_none_iff,List.find?_eq_none]
 intro p hp
 obtain⟨x,hx,rfl⟩:=List.mem_map.1 hp
 simp only[List.cons.injEq,and_true,decide_eq_true_eq]
 intro he
 exact h (List.mem_map.2 ⟨x,hx,by simp[key,he.1,he.2]⟩)
theorem alD {l:List Job} {j:Job} (h:key j∉l.map key):vA (UB l) [j.who,j.n] 1=UB (l++[j]):=by
 induction l with
 |nil=>rfl
 |cons x l ih=>
  simp only[List.map_cons,List.mem_cons,not_or] at h
  have hne: ¬[j.who,j.n]=[x.who,x.n]:=fun he=>h.1 (by simp only[List.cons.injEq,and_true] at he;simp[key,he.1,he.2])
  show vA (([x.who,x.n],1)::UB l) _ _=_
  simp only[vA,hne,if_false,ih h.2]
  rfl
theorem amR {l:List Job}:(UB l).length=l.length:=by simp[UB]
theorem alS {l:List Int} {k:Nat} (h:k<l.length):(l.take (k+1)).sum=(l.take k).sum+l.getD k default:=by
 rw[List.take_succ_eq_append_getElem h,List.sum_append];simp[List.getD,h]
theorem af9 {l:List Int} (h:l.length=3):(l.take 3).sum=l.getD 0 default+l.getD 1 default+l.getD 2 default:=by
 match l,h with
 | [a,b,c],_=>simp[List.getD];omega
theorem ZS {w u:List Int} (h:WK w u):JS w u:=⟨⟨by rw[h.wl];rfl,h.wr⟩,by rw[h.hl];rfl,h.hr⟩
theorem HM (c:Cfg) (s:TSt) (hb:aQ c) (hs:BA c s):aB Tryz.prog j9 [dA (cU c),dA (eSt s)] .nil 0 fun rr _ _=>rr.plain=true∧rr=dB true:=by
 refine GV rfl fun Q hQ=> ?_
 unfold mC
 obtain⟨hp3,hp12⟩:=hC hb
 have hatm:=ZS hs.atm
 have hwl:=hs.atm.wl
 have hhl:=hs.atm.hl
 have hal:=hs.JI
 have hls:=hs.lens hb
 have hag:=hs.DC
 have hsum3:=af9 hal
 have hcnt:=hs.count
 have hd: ∀j∈s.wait++s.done++s.told,j.rsp.data.length<2^40:=fun j hj=>by
  simp only[List.mem_append] at hj
  rcases hj with(hj|hj)|hj
  ·rw[hs.P4 j hj];decide
  ·have:=(hs.R8 j (by simp[hj])).1.2.2.1;omega
  ·have:=(hs.R8 j (by simp[hj])).1.2.2.1;omega
 repeat' (first| (with_reducible first| (refine hK _ _ _ ?_;clear hK K)| (refine hB ?_;clear hA hB A B)|refine Z1 ?_|refine Z2 ?_|refine Z3 fun KB hKB=> ?_)| (first| (with_reducible first|refine Y2 fun K hK=> ?_|refine Y3 fun A B hA hB=> ?_|refine Y5 (by omega) ?_)| (refine JZ (w:=s.words) (u:=s.holds) (by omega) (by omega) (aE rfl) ?_)| (refine IK (l:=s.wait) (by omega) (aE rfl) ?_)| (refine IK (l:=s.done) (by omega) (aE rfl) ?_))<;>(simp only[go_sem,eq_true hatm,eq_true hs.NR,eq_true hs.NW])|fail)
 (have hKX:=hKB;clear hKB)
 refine aM.sG 0 (β:=Nat) (fun b k=>en [(38,dI k),(37,dI s.asked.length),(36,dS (s.asked.map aJ)),(5,dI (s.asked.take k).sum),(3,.one (.c (.fQ (eSt s)))),(2,.one (.c (.fQ (cU c))))]) (fun b k=>.nil) (fun k=>k≤3∧0≤(s.asked.take k).sum∧(s.asked.take k).sum≤12*k) (fun k=>3-k) 0 (bU (Nat.le_refl _) (by repeat' (first| (with_reducible first|exact C1|refine C2 ?_ ?_)| ((with_reducible refine D0 ?_);first|exact CA rfl|exact CI rfl (by simp) rfl rfl rfl)|fail))) ⟨by omega,by simp,by simp⟩ ?_
 rintro k ⟨hk,h1,h2⟩ KL hKL
 by_cases hlt:k<3
 ·have hg:=hag k hlt
  have hst:=alS (l:=s.asked) (k:=k) (by omega)
  have hpk:=hp12 k
  repeat' (first| (with_reducible first| (refine hK _ _ _ ?_;clear hK K)| (refine hA ?_;clear hA hB A B)| (refine hB ?_;clear hA hB A B)|refine Z1 ?_|refine Z2 ?_|refine Z3 fun KB hKB=> ?_|refine Z4 (by omega) ?_|refine Z5 (by omega) ?_)| (first| (with_reducible first|refine Y2 fun K hK=> ?_|refine Y3 fun A B hA hB=> ?_)| (with_reducible refine fE ?_))<;>(simp only[go_sem];try simp (disch:=omega) only[Iw])| ((with_reducible refine Y0 ?_);simp only[AQ.then,AQ.blk])|refine⟨by omega,?_⟩| (with_reducible refine hKB _ _ _ ?_)|fail)
  exact hKL _ _ _ (k+1) (by omega) (by rw[hst];exact bU (by omega) (by repeat' (first| (with_reducible first|exact C1|refine C2 ?_ ?_)| ((with_reducible refine D0 ?_);exact CA rfl)|fail))) ⟨by omega,by rw[hst];omega,by rw[hst];omega⟩ (by omega)
 have hk3:k=3:=by omega
 subst hk3
 repeat' (first| (with_reducible first| (refine hK _ _ _ ?_;clear hK K)| (refine hB ?_;clear hA hB A B)|refine Z1 ?_|refine Z3 fun KB hKB=> ?_|refine Z5 (by omega) ?_|refine hKX _ _ _ ?_)| (with_reducible first|refine Y2 fun K hK=> ?_|refine Y3 fun A B hA hB=> ?_)<;>(simp only[go_sem])| ((with_reducible refine Y9 ?_);try simp only[AQ.then,AQ.blk,reduceIte,Nat.reduceEqDiff])|fail)
 (have hKY:=hKB;clear hKB)
 obtain⟨LL,hLL⟩: ∃LL:List TE,LL=[s.wait,s.done,s.told]:=⟨_,rfl⟩
 have hLl:LL.length=3:=by subst hLL;rfl
 have hLr:[[D1.isl (s.wait.map aS)],[D1.isl (s.done.map aS)],[D1.isl (s.told.map aS)]]=LL.map IF:=by subst hLL;rfl
 obtain⟨seen,hse⟩: ∃seen:Nat→List Job,seen=fun k=>(LL.take k).flatten:=⟨_,rfl⟩
 have hs0:seen 0=[]:=by subst hse;rfl
 have hs3:(seen 3).length=s.wait.length+s.done.length+s.told.length:=by subst hse;subst hLL;simp;omega
 have hss: ∀k,k<3→seen (k+1)=seen k++LL.getD k default:=fun k hk=>by
  subst hse
  simp only
  rw[List.take_succ_eq_append_getElem (by omega),List.flatten_append]
  simp[List.getD,show k<LL.length by omega]
 have hnd: ∀k,k<3→((seen k++LL.getD k default).map key).Nodup:=fun k hk=>by
  have hn:=hs.nodup
  unfold keys at hn
  have:k=0∨k=1∨k=2:=by omega
  subst hse;subst hLL
  rcases this with rfl|rfl|rfl
  ·have:(s.wait.map key).Nodup:=by
    simp only[List.map_append,List.append_assoc] at hn;exact(List.nodup_append.1 hn).1
   simpa [List.getD] using this
  ·have:((s.wait++s.done).map key).Nodup:=by
    rw[List.map_append] at hn;exact(List.nodup_append.1 hn).1
   simpa [List.getD] using this
  ·simpa [List.getD] using hn
 have hmem: ∀k,k<3→∀j∈LL.getD k default,j∈s.wait++s.done++s.told:=fun k hk j hj=>by
  have:k=0∨k=1∨k=2:=by omega
  subst hLL
  rcases this with rfl|rfl|rfl<;>(simp[List.getD] at hj;simp[hj])
 have hL0: ∀j∈LL.getD 0 default,j.rsp=oW:=fun j hj=>by
  subst hLL;simp[List.getD] at hj;exact hs.P4 j hj
 have hL1: ∀k,k<3→0<k→∀j∈LL.getD k default,pA j.rsp∧j.rsp.id=(bT c j.who j.n).id:=fun k hk h0 j hj=>by
  have:k=1∨k=2:=by omega
  subst hLL
  rcases this with rfl|rfl<;>(simp[List.getD] at hj;exact hs.R8 j (by simp[hj]))
 have hLs: ∀k,k<3→(LL.getD k default).length≤36:=fun k hk=>by
  have:k=0∨k=1∨k=2:=by omega
  subst hLL
  rcases this with rfl|rfl|rfl<;>(simp[List.getD];omega)
 rw[hLr]
 clear hLr hLL hse
 refine aM.sG 1 (β:=Nat) (fun b k=>en [(65,dI k),(64,dI 3),(63,dS (LL.map IF)),(8,.one (.c (.omap b))),(5,dI (s.asked.take 3).sum),(3,.one (.c (.fQ (eSt s)))),(2,.one (.c (.fQ (cU c))))]) (fun b k=>hp [(b,u4 ⟨2,true,UB (seen k)⟩)]) (fun k=>k≤3) (fun k=>3-k) 0 ?_ (by omega) ?_
 ·refine cR [31] (by omega) ?_ ⟨⟨by simp,by simp[sgL],_,rfl,GH (by rw[hs0];rfl)⟩,trivial⟩ (by simp[sgL])
  refine oF (oF (oF (oF (oF (oF (oF K6 ?_) ?_) ?_) ?_) ?_) ?_) ?_
  all_goals first
   |exact DJ (rows:=LL.map IF) (aG al7 LL) (by simp;omega) (by simp) rfl rfl (List.take_of_length_le (by simp)) (by simp;omega)
   |exact apS (aa6 (by omega) rfl)
   | (repeat' ((with_reducible refine D0 ?_);exact CA rfl);done)
 intro k hk KM hKM
 by_cases hlt:k<3
 ·have hss1:=hss k hlt
  have hnd1:=hnd k hlt
  have hmm:=hmem k hlt
  have hr0:k=0→∀j∈LL.getD k default,j.rsp=oW:=fun h=>by subst h;exact hL0
  have hr1:=hL1 k hlt
  have hlk:=hLs k hlt
  generalize hcur:LL.getD k default=cur at hss1 hnd1 hmm hr0 hr1 hlk
  repeat' (first| (with_reducible first| (refine hK _ _ _ ?_;clear hK K)| (refine hA ?_;clear hA hB A B)|refine Z1 ?_|refine Z2 ?_|refine Z3 fun KB hKB=> ?_|refine Z4 (by omega) ?_)| (with_reducible first|refine Y2 fun K hK=> ?_|refine Y3 fun A B hA hB=> ?_)<;>(simp only[go_sem,hcur])|refine⟨by omega,?_⟩|fail)
  (have hKZ:=hKB;clear hKB)
  refine aM.sG 1 (β:=Nat) (fun b i=>en [(72,dI i),(71,dI cur.length),(70,dS (cur.map aS)),(65,dI k),(64,dI 3),(63,dS (LL.map IF)),(9,dI k),(8,.one (.c (.omap b))),(5,dI (s.asked.take 3).sum),(3,.one (.c (.fQ (eSt s)))),(2,.one (.c (.fQ (cU c))))]) (fun b i=>hp [(b,u4 ⟨2,true,UB (seen k++cur.take i)⟩)]) (fun i=>i≤cur.length) (fun i=>cur.length-i) 0 (by(refine cR [42] (by omega) (by repeat' (first| (with_reducible first|exact C1|refine C2 ?_ ?_)| ((with_reducible refine C0 ?_);exact CR (by omega) rfl)| ((with_reducible refine D0 ?_);first|exact CA rfl|refine CJ ?_)|fail)) ⟨⟨by simp,by simp[sgL],_,rfl,GH (by simp)⟩,trivial⟩ (by simp[sgL]))) (by omega) ?_
  intro i hi KN hKN
  by_cases hil:i<cur.length
  ·have hjm:=hmm _ (cC hil)
   have hjd:=hd _ hjm
   have hja:=hs.mem hjm
   have hjj:=hs.ab8 (key (cur.getD i default)) (List.mem_map_of_mem hjm)
   have hj0:=fun h=>hr0 h _ (cC hil)
   have hj1:=fun h=>hr1 h _ (cC hil)
   have hts:cur.take (i+1)=cur.take i++[cur.getD i default]:=by rw[List.take_succ_eq_append_getElem hil];simp[List.getD,hil]
   have hni:key (cur.getD i default)∉(seen k++cur.take i).map key:=fun hm=>by
    have e:seen k++cur=(seen k++cur.take i)++(cur.getD i default::cur.drop (i+1)):=by
     rw[List.append_assoc];congr 1
     have:cur.getD i default=cur[i]:=by simp[List.getD,hil]
     rw[this,←List.drop_eq_getElem_cons hil,List.take_append_drop]
    rw[e,List.map_append] at hnd1
    exact(List.nodup_append.1 hnd1).2.2 _ hm _ (by simp) rfl
   have hget:=alK hni
   have hset:=alD hni
   simp only[key] at hjj
   have har:=hs.DC (cur.getD i default).who.toNat (by omega)
   have hpk:=hp12 (cur.getD i default).who.toNat
   by_cases hk0:k=0
   ·have hjr:=hj0 hk0
    repeat' (first| (with_reducible first| (refine hK _ _ _ ?_;clear hK K)| (refine hA ?_;clear hA hB A B)| (refine hB ?_;clear hA hB A B)|refine Z1 ?_|refine Z2 ?_|refine Z3 fun KB hKB=> ?_|refine Z4 (by omega) ?_)| (first| (with_reducible first|refine Y2 fun K hK=> ?_|refine Y3 fun A B hA hB=> ?_|refine Y4 (by omega) ?_|refine Y5 (by omega) ?_)| (with_reducible refine oR ?_)| (with_reducible refine fE ?_)| (with_reducible refine HK hjd ?_))<;>(simp only[go_sem,hget,hset,Option.getD_none,eq_true hjr];try simp (disch:=omega) only[Iw])| ((with_reducible refine Y0 ?_);simp only[AQ.then,AQ.blk])|refine⟨by omega,?_⟩| (with_reducible refine hKB _ _ _ ?_)|fail)
    exact hKN _ _ _ (i+1) (by omega) (by(refine cR [52] (by omega) (by repeat' (first| (with_reducible first|exact C1|refine C2 ?_ ?_)| ((with_reducible refine C0 ?_);exact CR (by omega) rfl)| ((with_reducible refine D0 ?_);first|exact CA rfl|refine CJ ?_)|fail)) ⟨⟨by simp,by simp[sgL],_,rfl,GH (by rw[hts,List.append_assoc])⟩,trivial⟩ (by simp[sgL]))) (by omega) (by omega)
   ·obtain⟨hjr1,hjr2⟩:=hj1 (by omega)
    repeat' (first| (with_reducible first| (refine hK _ _ _ ?_;clear hK K)| (refine hA ?_;clear hA hB A B)| (refine hB ?_;clear hA hB A B)|refine Z1 ?_|refine Z2 ?_|refine Z3 fun KB hKB=> ?_|refine Z4 (by omega) ?_|refine Z5 (by omega) ?_)| (first| (with_reducible first|refine Y2 fun K hK=> ?_|refine Y3 fun A B hA hB=> ?_|refine Y4 (by omega) ?_|refine Y5 (by omega) ?_)| (with_reducible refine oR ?_)| (with_reducible refine fE ?_)| (with_reducible refine I8 hjd ?_)| (with_reducible refine iJ hp3 hja ?_))<;>(simp only[go_sem,hget,hset,Option.getD_none,eq_true hjr1];try simp (disch:=omega) only[Iw])| ((with_reducible refine Y0 ?_);simp only[AQ.then,AQ.blk])|refine⟨by omega,?_⟩| (with_reducible refine hKB _ _ _ ?_)|fail)
    exact hKN _ _ _ (i+1) (by omega) (by(refine cR [52] (by omega) (by repeat' (first| (with_reducible first|exact C1|refine C2 ?_ ?_)| ((with_reducible refine C0 ?_);exact CR (by omega) rfl)| ((with_reducible refine D0 ?_);first|exact CA rfl|refine CJ ?_)|fail)) ⟨⟨by simp,by simp[sgL],_,rfl,GH (by rw[hts,List.append_assoc])⟩,trivial⟩ (by simp[sgL]))) (by omega) (by omega)
  ·have hi2:i=cur.length:=by omega
   subst hi2
   rw[List.take_length,←hss1]
   repeat' (first| (with_reducible first| (refine hK _ _ _ ?_;clear hK K)| (refine hB ?_;clear hA hB A B)|refine Z1 ?_|refine Z5 (by omega) ?_|refine hKZ _ _ _ ?_)| (with_reducible first|refine Y2 fun K hK=> ?_|refine Y3 fun A B hA hB=> ?_)<;>(simp only[go_sem];try simp (disch:=omega) only[Iw])| ((with_reducible refine Y9 ?_);try simp only[AQ.then,AQ.blk,reduceIte,Nat.reduceEqDiff])| ((with_reducible refine Y0 ?_);simp only[AQ.then,AQ.blk])| (with_reducible refine hKB _ _ _ ?_)|fail)
   exact hKM _ _ _ (k+1) (by omega) (by(refine cR [52] (by omega) (by repeat' (first| (with_reducible first|exact C1|refine C2 ?_ ?_)| ((with_reducible refine C0 ?_);exact CR (by omega) rfl)| ((with_reducible refine D0 ?_);first|exact CA rfl|refine CJ ?_)|fail)) ⟨⟨by simp,by simp[sgL],_,rfl,GH rfl⟩,trivial⟩ (by simp[sgL]))) (by omega) (by omega)
 ·have hk3:k=3:=by omega
  subst hk3
  repeat' (first| (with_reducible first| (refine hK _ _ _ ?_;clear hK K)| (refine hB ?_;clear hA hB A B)|refine Z1 ?_|refine Z5 (by omega) ?_|refine hKY _ _ _ ?_)| (with_reducible first|refine Y2 fun K hK=> ?_|refine Y3 fun A B hA hB=> ?_)<;>(simp only[go_sem])| ((with_reducible first|refine Y8 ?_|refine Y9 ?_);try simp only[AQ.then,AQ.blk,reduceIte,Nat.reduceEqDiff])|fail)
  refine aZ hQ (dB (decide (((UB (seen 3)).length:Int)=(s.asked.take 3).sum))) rfl rfl (congrArg dB (decide_eq_true ?_))
  rw[amR,hs3];omega
theorem HQ {c:Cfg} {s:TSt} (hb:aQ c) (hs:BA c s) (h:K (dB true) H nx):aB Tryz.prog j9 [dA (cU c),dA (eSt s)] H nx K:=
 (HM c s hb hs).pure rfl (aI ⟨aE rfl,aE rfl,trivial⟩) (fun r hr=>hr▸h)
end
end Go.Proofs.YtegiblhkjfiooaaGreat
end
section
namespace Go.Proofs.YtegiblhkjfiooaaGreat
open Go Go.AM
set_option maxRecDepth 100000
set_option maxHeartbeats 8000000
theorem AP:cJ Tryz.prog cO Tryz.f132 jP oE:=cJ.mk Tryz.func132 (by kernel_rfl) AH
theorem BX:cJ Tryz.prog iX Tryz.f66 lB qR:=cJ.mk Tryz.func66 (by kernel_rfl) B8
end Go.Proofs.YtegiblhkjfiooaaGreat
namespace Go.AM
theorem aM.abC {P:Program} {T:Nat} {e:Env} {H:aA} {nx:Nat} {Q:AQ} {zs:List AC} (h: ∀G,G=H→aM P T zs e G nx Q):aM P T zs e H nx Q:=h H rfl
theorem akM {H:aA} {F:Nat→Prop} {nh:Nat} {f:FuncId} {caps:List D1} (h: ∀x∈caps,∃n id row col,id<nh∧x= .ptr n id row col):Cv1 H F id nh (.clo f caps) (.clo f caps):=
 .clo f caps caps rfl fun i x y hx hy=>by
  rw[hx] at hy
  obtain rfl:x=y:=by simpa using hy
  obtain⟨n,id,row,col,h1,rfl⟩:=h x (List.mem_of_getElem? hx)
  exact .inr ⟨n,id,row,col,h1,rfl,rfl⟩
def aaK (V:List (Int×Int)) (k:Nat) (u:List Int):Prop:=u.length=3∧ ∀w,w<3→u.getD w default= -1∨ ∃i,i<k∧V[i]?=some ((w:Int),u.getD w default)
theorem aaK.next {c:Cfg} {s:CSt} {st k:Nat} {u:List Int} {x:Int×Int} (hs:COk c s) (hst:st<4) (h:aaK (cS (aL s st)) k u) (hx:(cS (aL s st))[k]?=some x):
 (x.1=(x.1.toNat:Int)∧x.1.toNat<3)∧u.getD x.1.toNat default<x.2∧aaK (cS (aL s st)) (k+1) (u.set x.1.toNat x.2):=by
 obtain⟨hk,hxk⟩:=List.getElem?_eq_some_iff.1 hx
 have hm:x∈cS (aL s st):=hxk▸List.getElem_mem hk
 obtain⟨hw,h0,h1⟩:=hs.vIn hst hm
 have hw3:x.1.toNat<3:=by omega
 have hwe:x.1=(x.1.toNat:Int):=by omega
 refine⟨⟨hwe,hw3⟩,?_,by simp[h.1],fun w hw3'=> ?_⟩
 ·rcases h.2 _ hw3 with h2|⟨i,hi,h2⟩
  ·omega
  ·obtain⟨hi2,h3⟩:=List.getElem?_eq_some_iff.1 h2
   have h4:=List.pairwise_iff_getElem.1 (hs.slv st hst).inc i k hi2 hk hi
   rw[h3,hxk] at h4
   exact h4 hwe.symm
 ·by_cases he:w=x.1.toNat
  ·right
   refine⟨k,by omega,?_⟩
   rw[he,pY (by rw[h.1];omega),if_pos rfl,hx,←hwe]
  ·rw[pY (by rw[h.1];omega),if_neg he]
   exact(h.2 w hw3').imp (fun h=>h) fun⟨i,hi,h2⟩=>⟨i,by omega,h2⟩
theorem COk.aqC {c:Cfg} {s:CSt} {st:Nat} {x:Int×Int} (hs:COk c s) (hst:st<4) (hm:x∈cS (aL s st)):0≤bK (isC x.2) (aF s x.1.toNat).out∧(bK (isC x.2) (aF s x.1.toNat).out).toNat<(aF s x.1.toNat).out.length∧((aF s x.1.toNat).out.getD (bK (isC x.2) (aF s x.1.toNat).out).toNat default).left=st:=by
 obtain⟨hw,j,hj,h1,h2⟩:=(hs.slv st hst).out x hm
 have hex: ∃j∈(aF s x.1.toNat).out,j.n=x.2:=⟨j,hj,h1⟩
 obtain⟨az9,az2⟩:=PJ hex
 refine⟨cH.2 ⟨j,hj,decide_eq_true h1⟩,az9,?_⟩
 have:=ZO (hs.port x.1.toNat (by omega)).acX (cC az9) hj (by rw[az2,h1])
 rw[this];exact h2
end Go.AM
namespace Go.Proofs.YtegiblhkjfiooaaGreat
open Go Go.AM
set_option maxRecDepth 100000
set_option maxHeartbeats 8000000
section
variable {H : aA} {nx : Nat} {K : D → aA → Nat → Prop}
theorem kA {s:CSt} {st who:Nat} {w n:Int} {u:List Int} {i0 i1 i2:Nat} (hww:w=who) (hu:u.length=3) (hw:who<3) (hn:u.getD who default<n) (hpl:s.bM.length=3) (hol:(aF s who).out.length<2^40)
 (hx:0≤bK (isC n) (aF s who).out) (hx1:(bK (isC n) (aF s who).out).toNat<(aF s who).out.length) (hx2:((aF s who).out.getD (bK (isC n) (aF s who).out).toNat default).left=st)
 (hlt:i0<nx∧i1<nx∧i2<nx) (hd:[i0,i1,i2].Nodup) (o0:H i0=some ⟨3,1,[u.map cI]⟩) (o1:H i1=some ⟨5,1,[eI s]⟩) (o2:H i2=some ⟨1,1,[[cI st]]⟩)
 (h: ∀H' nx',nx≤nx'→H' i0=some ⟨3,1,[(u.set who n).map cI]⟩→(∀id,id<nx→id≠i0→H' id=H id)→K (dB true) H' nx'):
 aB Tryz.prog cO [dI w,dI n,.one (.c (.ptr 3 i0 0 0)),.one (.c (.ptr 5 i1 0 0)),.one (.c (.ptr 1 i2 0 0))] H nx K:=by
 subst hww
 refine AP rfl fun Q hQ=> ?_
 unfold jP
 have hA:bQ nx [i0,i1,i2]:=AM.apart hd (by simp;omega)
 simp only[bQ,eZ] at hA
 obtain⟨p,hpd⟩: ∃p,p=aF s who:=⟨_,rfl⟩
 have hpd':s.bM.getD who default=p:=hpd.symm
 rw[←hpd] at hol hx hx1 hx2
 obtain⟨a,ha⟩: ∃a,a=bK (isC n) p.out:=⟨_,rfl⟩
 have hut:((u.map cI).drop who).take 1=[cI (u.getD who default)]:=by
  rw[List.drop_eq_getElem_cons (by simp;omega)]
  simp[List.getD,show who<u.length by omega]
 have hull:(u.map cI).length=3:=by rw[List.length_map,hu]
 have hle:(who+1≤3)=True:=eq_true (by omega)
 have hou: ∀{H:aA} {nx:Nat} {K:D→aA→Nat→Prop},K (dI a) H nx→aB Tryz.prog kV [dA (cD p),dI n] H nx K:=fun h=>KT (p:=p) hol (aE rfl) (by rw[←ha];exact h)
 rw[←ha] at hx hx1 hx2
 repeat' (first| (with_reducible first| (refine hK _ _ _ ?_;clear hK K)| (refine hB ?_;clear hA hB A B)|refine Z1 ?_|refine Z2 ?_|refine Z5 (by omega) ?_)| (first| (with_reducible first|refine Y2 fun K hK=> ?_|refine Y3 fun A B hA hB=> ?_|refine Y4 (by omega) ?_|refine Y5 (by omega) ?_)| (with_reducible refine oR ?_)| (with_reducible refine hou ?_))<;>(simp only[go_sem,Nat.add_assoc,Nat.left_eq_add,Nat.mul_one,o0,o1,o2,hut,hull,hle,hpd',hx2,hA])| ((with_reducible refine Y8 ?_);try simp only[AQ.then,AQ.blk,reduceIte,Nat.reduceEqDiff])|refine⟨by omega,?_⟩|fail)
 have eu:List.take who (List.map cI u)++[D1.v (.int .i64 n)]++List.drop (who+1) (List.map cI u)=(u.set who n).map cI:=by
  rw[List.map_set,List.set_eq_take_append_cons_drop,if_pos (by simp;omega),List.append_assoc];rfl
 rw[eu]
 exact hQ _ _ _ _ _ (.inr rfl) rfl (h _ _ (by omega) aA.bH fun id e0 e1=>aA.aC e1)
theorem ES (c:Cfg) (s:CSt) (st:Nat) (hb:aQ c) (hs:COk c s) (hst:st<4):aB Tryz.prog iX [dA (cU c),dA (eI s),dI st] .nil 0 fun r _ _=>r.plain=true∧r=dB true:=by
 refine BX rfl fun Q hQ=> ?_
 unfold lB
 have hsl:=hs.sl
 obtain⟨v,hvd⟩: ∃v,v=aL s st:=⟨_,rfl⟩
 have hvd':s.dD.getD st default=v:=hvd.symm
 have hso:=hs.slv st hst
 have hpl:=hso.pl
 have hdl:=hso.dl
 obtain⟨hl1,hl2⟩:=hso.last
 rw[←hvd] at hpl hdl hl1 hl2
 repeat' (first| (with_reducible first| (refine hK _ _ _ ?_;clear hK K)| (refine hB ?_;clear hA hB A B)|refine Z1 ?_|refine Z2 ?_|refine Z3 fun KB hKB=> ?_|refine Z5 (by omega) ?_)| (first| (with_reducible first|refine Y2 fun K hK=> ?_|refine Y3 fun A B hA hB=> ?_|refine Y5 (by omega) ?_)| (with_reducible refine oR ?_))<;>(simp only[go_sem,hvd'])|refine⟨by omega,?_⟩|fail)
 (have hKX:=hKB;clear hKB)
 refine aM.abC fun G0 hG0=> ?_
 have c0:G0 0=some ⟨3,1,[cU c]⟩:=by rw[hG0];rfl
 have c1:G0 1=some ⟨5,1,[eI s]⟩:=by rw[hG0];rfl
 have c2:G0 2=some ⟨1,1,[[cI st]]⟩:=by rw[hG0];rfl
 have c9:G0 9=some ⟨3,1,[gF v]⟩:=by rw[hG0];rfl
 have c28:G0 28=some ⟨3,1,[([-1,-1,-1]:List Int).map cI]⟩:=by rw[hG0];rfl
 clear hG0
 have hp3:=(hC hb).1
 have hlat4:=hb.2.1
 have hV: ∀k,k<v.done.length→(cS (aL s st))[k]?=some (key (v.done.getD k default)):=fun k hk=>by
  rw[←hvd];unfold cS
  rw[List.getElem?_append_left (by simpa using hk)];simp[List.getD,hk]
 have hV2: ∀k,k<v.pipe.length→(cS (aL s st))[v.done.length+k]?=some ((v.pipe.getD k default).who,(v.pipe.getD k default).n):=fun k hk=>by
  rw[←hvd];unfold cS
  rw[List.getElem?_append_right (by simp)];simp[List.getD,hk]
 have hask: ∀x∈cS (aL s st),oA c x.1 x.2:=fun x hx=>by
  obtain⟨hw,h0,h1⟩:=hs.vIn hst hx
  have:=(hs.port x.1.toNat (by omega)).asks (n:=x.2) (by omega) h0 (by omega)
  rwa [show ((x.1.toNat:Nat):Int)=x.1 by omega] at this
 have hol: ∀w,w<3→(aF s w).out.length<2^40:=fun w hw=>by have:=(hs.port w hw).ol;omega
 have hclo: ∀{H:aA} {F:Nat→Prop} {nh:Nat},36≤nh→Cv1 H F id nh (.clo cO [.ptr 3 28 0 0,.ptr 5 1 0 0,.ptr 1 2 0 0]) (.clo cO [.ptr 3 28 0 0,.ptr 5 1 0 0,.ptr 1 2 0 0]):=fun h=>akM fun x hx=>by
  simp only[List.mem_cons,List.not_mem_nil,or_false] at hx
  rcases hx with rfl|rfl|rfl
  ·exact⟨_,_,_,_,by omega,rfl⟩
  ·exact⟨_,_,_,_,by omega,rfl⟩
  ·exact⟨_,_,_,_,by omega,rfl⟩
 refine aM.gP (β:=Nat×List Int) (fun u=>en [(40,dI u.1),(39,dI v.done.length),(38,dS (v.done.map aS)),(9,.one (.c (.clo cO [.ptr 3 28 0 0,.ptr 5 1 0 0,.ptr 1 2 0 0]))),(7,.one (.c (.ptr 3 9 0 0))),(5,.one (.c (.ptr 1 2 0 0))),(3,.one (.c (.ptr 3 0 0 0)))])
  (fun u H1 _=>u.1≤v.done.length∧aaK (cS (aL s st)) u.1 u.2∧H1 28=some ⟨3,1,[u.2.map cI]⟩∧ ∀id,id<36→id≠28→H1 id=G0 id) (fun u=>v.done.length-u.1) (0,[-1,-1,-1])
  ⟨noF,_,by(repeat' (first| (with_reducible first|exact C1|refine C2 ?_ ?_)| ((with_reducible refine C0 ?_);exact CE (by omega) rfl)| ((with_reducible refine D0 ?_);first|exact CA rfl|refine CJ ?_)|fail));all_goals exact hclo (by omega),aK,by dsimp only;omega,⟨rfl,fun w hw=>.inl (by rcases(show w=0∨w=1∨w=2 by omega) with rfl|rfl|rfl<;>rfl)⟩,c28,fun _ _ _=>rfl⟩ ?_
 rintro⟨k,u⟩ H1 nx1 hnx ⟨hk,hI,g28,hfr⟩ KL hKL
 dsimp only at hk hI g28
 have g0:H1 0=some ⟨3,1,[cU c]⟩:=by rw[hfr _ (by omega) (by omega)];exact c0
 have g1:H1 1=some ⟨5,1,[eI s]⟩:=by rw[hfr _ (by omega) (by omega)];exact c1
 have g2:H1 2=some ⟨1,1,[[cI st]]⟩:=by rw[hfr _ (by omega) (by omega)];exact c2
 have g9:H1 9=some ⟨3,1,[gF v]⟩:=by rw[hfr _ (by omega) (by omega)];exact c9
 have hA:bQ nx1 [0,1,2,9,28]:=AM.apart (by simp) (by simp;omega)
 simp only[bQ,eZ] at hA
 by_cases hlt:k<v.done.length
 ·obtain⟨d,hdd⟩: ∃d,d=v.done.getD k default:=⟨_,rfl⟩
  have hx:=hV k hlt
  rw[←hdd] at hx
  have hm:key d∈cS (aL s st):=by obtain⟨h1,h2⟩:=List.getElem?_eq_some_iff.1 hx;exact h2▸List.getElem_mem h1
  obtain⟨⟨hw1,hw2⟩,hn,hI2⟩:=hI.next hs hst hx
  obtain⟨ha1,ha2,ha3⟩:=hs.aqC hst hm
  obtain⟨hr1,hr2⟩:=hso.rsp d (by rw[hdd,←hvd];exact cC hlt)
  have hrl:d.rsp.data.length<2^40:=by have h1:=hr1;unfold pA at h1;omega
  have hdr:=decide_eq_true hr1
  repeat' (first| (with_reducible first| (refine hK _ _ _ ?_;clear hK K)| (refine hA ?_;clear hA hB A B)|refine Z1 ?_|refine Z2 ?_|refine Z3 fun KB hKB=> ?_|refine Z4 (by omega) ?_)| (first| (with_reducible first|refine Y2 fun K hK=> ?_|refine Y3 fun A B hA hB=> ?_)| (refine kA (w:=d.who) (n:=d.n) hw1 hI.1 hw2 hn hs.pl (hol _ hw2) ha1 ha2 ha3 (by omega) (by simp) (by simp only[aA.set,hA,if_false];exact g28) (by simp only[aA.set,hA,if_false];exact g1) (by simp only[aA.set,hA,if_false];exact g2) (fun H' nx' hx' f28 ffr=> ?_)))<;>(simp only[go_sem,Nat.add_assoc,Nat.left_eq_add,hdd.symm,g0,g1,g2,g28,hA])|refine⟨by omega,?_⟩|fail)
  have e0:H' 0=some ⟨3,1,[cU c]⟩:=by rw[ffr _ (by omega) (by omega)];simp only[aA.set,hA,if_false];exact g0
  have ej:H' (nx1+3)=some ⟨5,1,[aS d]⟩:=by rw[ffr _ (by omega) (by omega)];exact aA.bH
  have hfr2: ∀id,id<36→id≠28→H' id=G0 id:=fun id e0 e1=>by rw[ffr id (by omega) e1,aA.aC (by omega)];exact hfr id e0 e1
  have hA':bQ nx' [0,1,2,9,28,nx1+3]:=AM.apart (by simp;omega) (by simp;omega)
  simp only[bQ,eZ] at hA'
  simp only[go_sem,Nat.add_assoc,Nat.left_eq_add,e0,ej,hdr,hA']
  repeat' (first| (with_reducible first| (refine hK _ _ _ ?_;clear hK K)| (refine hB ?_;clear hA hB A B)|refine Z2 ?_)| (first| (with_reducible first|refine Y2 fun K hK=> ?_|refine Y3 fun A B hA hB=> ?_)| (refine I8 hrl ?_)| (refine iJ hp3 (hask _ hm) ?_))<;>(simp only[go_sem,Nat.add_assoc,Nat.left_eq_add,e0,ej,hdr,hr2,hA'];try simp (disch:=omega) only[Iw])| ((with_reducible refine Y0 ?_);simp only[AQ.then,AQ.blk])| (with_reducible refine hKB _ _ _ ?_)|fail)
  exact hKL _ _ _ (k+1,u.set d.who.toNat d.n) noF _ (by omega) (by dsimp only;omega) (by(repeat' (first| (with_reducible first|exact C1|refine C2 ?_ ?_)| ((with_reducible refine C0 ?_);exact CE (by omega) rfl)| ((with_reducible refine D0 ?_);first|exact CA rfl|refine CJ ?_)|fail));all_goals exact hclo (by omega)) aK ⟨by dsimp only;omega,hI2,f28,hfr2⟩
 ·repeat' (first| (with_reducible first| (refine hK _ _ _ ?_;clear hK K)| (refine hB ?_;clear hA hB A B)|refine Z1 ?_|refine Z3 fun KB hKB=> ?_|refine Z5 (by omega) ?_|refine hKX _ _ _ ?_)| (with_reducible first|refine Y2 fun K hK=> ?_|refine Y3 fun A B hA hB=> ?_)<;>(simp only[go_sem,g9])| ((with_reducible refine Y9 ?_);try simp only[AQ.then,AQ.blk,reduceIte,Nat.reduceEqDiff])|fail)
  have hk2:k=v.done.length:=by omega
  subst hk2
  (have hKY:=hKB;clear hKB)
  refine aM.gP (β:=Nat×List Int) (fun u=>en [(73,dI u.1),(72,dI v.pipe.length),(71,dS (v.pipe.map eCJ)),(9,.one (.c (.clo cO [.ptr 3 28 0 0,.ptr 5 1 0 0,.ptr 1 2 0 0]))),(5,.one (.c (.ptr 1 2 0 0))),(3,.one (.c (.ptr 3 0 0 0)))])
   (fun u H1 _=>u.1≤v.pipe.length∧aaK (cS (aL s st)) (v.done.length+u.1) u.2∧H1 28=some ⟨3,1,[u.2.map cI]⟩∧ ∀id,id<36→id≠28→H1 id=G0 id) (fun u=>v.pipe.length-u.1) (0,u)
   ⟨noF,_,by(repeat' (first| (with_reducible first|exact C1|refine C2 ?_ ?_)| ((with_reducible refine C0 ?_);exact CE (by omega) rfl)| ((with_reducible refine D0 ?_);first|exact CA rfl|refine CJ ?_)|fail));all_goals exact hclo (by omega),aK,by dsimp only;omega,hI,g28,hfr⟩ ?_
  clear hI g28 hfr g0 g1 g2 g9 hA
  rintro⟨k,u⟩ H2 nx2 hnx2 ⟨hk,hI,g28,hfr⟩ KM hKM
  dsimp only at hk hI g28
  have g0:H2 0=some ⟨3,1,[cU c]⟩:=by rw[hfr _ (by omega) (by omega)];exact c0
  have g1:H2 1=some ⟨5,1,[eI s]⟩:=by rw[hfr _ (by omega) (by omega)];exact c1
  have g2:H2 2=some ⟨1,1,[[cI st]]⟩:=by rw[hfr _ (by omega) (by omega)];exact c2
  have hA:bQ nx2 [0,1,2,9,28]:=AM.apart (by simp) (by simp;omega)
  simp only[bQ,eZ] at hA
  by_cases hlt:k<v.pipe.length
  ·obtain⟨d,hdd⟩: ∃d,d=v.pipe.getD k default:=⟨_,rfl⟩
   have hx:=hV2 k hlt
   rw[←hdd] at hx
   have hm:(d.who,d.n)∈cS (aL s st):=by obtain⟨h1,h2⟩:=List.getElem?_eq_some_iff.1 hx;exact h2▸List.getElem_mem h1
   obtain⟨⟨hw1,hw2⟩,hn,hI2⟩:=hI.next hs hst hx
   obtain⟨ha1,ha2,ha3⟩:=hs.aqC hst hm
   dsimp only at hw1 hw2 hn hI2 ha1 ha2 ha3
   obtain⟨⟨hl1',hl2'⟩,hl3'⟩:=hso.left k (by rw[←hvd];exact hlt)
   rw[←hvd,←hdd] at hl1' hl2' hl3'
   have hdl:=decide_eq_true (show 0≤d.left∧d.left≤c.lat.getD st default from ⟨hl1',hl2'⟩)
   rcases Nat.eq_zero_or_pos k with h0|h0
   ·have hz3:((k:Int)=0)=True:=eq_true (by omega)
    have hz4:(0<(k:Int))=False:=eq_false (by omega)
    have hlk:True:=trivial
    repeat' (first| (with_reducible first| (refine hK _ _ _ ?_;clear hK K)| (refine hA ?_;clear hA hB A B)|refine Z1 ?_|refine Z2 ?_|refine Z3 fun KB hKB=> ?_|refine Z4 (by omega) ?_)| (first| (with_reducible first|refine Y2 fun K hK=> ?_|refine Y3 fun A B hA hB=> ?_)| (refine kA (w:=d.who) (n:=d.n) hw1 hI.1 hw2 hn hs.pl (hol _ hw2) ha1 ha2 ha3 (by omega) (by simp) (by simp only[aA.set,hA,if_false];exact g28) (by simp only[aA.set,hA,if_false];exact g1) (by simp only[aA.set,hA,if_false];exact g2) (fun H' nx' hx' f28 ffr=> ?_)))<;>(simp only[go_sem,Nat.add_assoc,Nat.left_eq_add,hdd.symm,g0,g1,g2,g28,hz3,hz4,hA])|refine⟨by omega,?_⟩|fail)
    have hfr2: ∀id,id<36→id≠28→H' id=G0 id:=fun id e0 e1=>by rw[ffr id (by omega) e1,aA.aC (by omega)];exact hfr id e0 e1
    have e0:H' 0=some ⟨3,1,[cU c]⟩:=(hfr2 _ (by omega) (by omega)).trans c0
    have e2:H' 2=some ⟨1,1,[[cI st]]⟩:=(hfr2 _ (by omega) (by omega)).trans c2
    have ej:H' (nx2+4)=some ⟨3,1,[eCJ d]⟩:=by rw[ffr _ (by omega) (by omega)];exact aA.bH
    simp only[go_sem,Nat.add_assoc,Nat.left_eq_add,e0,e2,ej,hdl,hz3,hz4,hA]
    repeat' (first| (with_reducible first| (refine hK _ _ _ ?_;clear hK K)| (refine hB ?_;clear hA hB A B)|refine Z2 ?_)| (first| (with_reducible first|refine Y2 fun K hK=> ?_|refine Y3 fun A B hA hB=> ?_)| (with_reducible refine fE ?_))<;>(simp only[go_sem,Nat.add_assoc,Nat.left_eq_add,e0,e2,ej,hdl,hz3,hz4,hlk,hA];try simp (disch:=omega) only[Iw])| ((with_reducible refine Y0 ?_);simp only[AQ.then,AQ.blk])|refine⟨by omega,?_⟩| (with_reducible refine hKB _ _ _ ?_)|fail)
    all_goals exact hKM _ _ _ (k+1,u.set d.who.toNat d.n) noF _ (by omega) (by dsimp only;omega) (by(repeat' (first| (with_reducible first|exact C1|refine C2 ?_ ?_)| ((with_reducible refine C0 ?_);exact CE (by omega) rfl)| ((with_reducible refine D0 ?_);first|exact CA rfl|refine CJ ?_)|fail));all_goals exact hclo (by omega)) aK ⟨by dsimp only;omega,hI2,f28,hfr2⟩
   ·have hz3:((k:Int)=0)=False:=eq_false (by omega)
    have hz4:(0<(k:Int))=True:=eq_true (by omega)
    have hlk:d.left=c.lat.getD st default:=hl3' h0
    repeat' (first| (with_reducible first| (refine hK _ _ _ ?_;clear hK K)| (refine hA ?_;clear hA hB A B)|refine Z1 ?_|refine Z2 ?_|refine Z3 fun KB hKB=> ?_|refine Z4 (by omega) ?_)| (first| (with_reducible first|refine Y2 fun K hK=> ?_|refine Y3 fun A B hA hB=> ?_)| (refine kA (w:=d.who) (n:=d.n) hw1 hI.1 hw2 hn hs.pl (hol _ hw2) ha1 ha2 ha3 (by omega) (by simp) (by simp only[aA.set,hA,if_false];exact g28) (by simp only[aA.set,hA,if_false];exact g1) (by simp only[aA.set,hA,if_false];exact g2) (fun H' nx' hx' f28 ffr=> ?_)))<;>(simp only[go_sem,Nat.add_assoc,Nat.left_eq_add,hdd.symm,g0,g1,g2,g28,hz3,hz4,hA])|refine⟨by omega,?_⟩|fail)
    have hfr2: ∀id,id<36→id≠28→H' id=G0 id:=fun id e0 e1=>by rw[ffr id (by omega) e1,aA.aC (by omega)];exact hfr id e0 e1
    have e0:H' 0=some ⟨3,1,[cU c]⟩:=(hfr2 _ (by omega) (by omega)).trans c0
    have e2:H' 2=some ⟨1,1,[[cI st]]⟩:=(hfr2 _ (by omega) (by omega)).trans c2
    have ej:H' (nx2+4)=some ⟨3,1,[eCJ d]⟩:=by rw[ffr _ (by omega) (by omega)];exact aA.bH
    simp only[go_sem,Nat.add_assoc,Nat.left_eq_add,e0,e2,ej,hdl,hz3,hz4,hA]
    repeat' (first| (with_reducible first| (refine hK _ _ _ ?_;clear hK K)| (refine hB ?_;clear hA hB A B)|refine Z2 ?_)| (with_reducible first|refine Y2 fun K hK=> ?_|refine Y3 fun A B hA hB=> ?_)<;>(simp only[go_sem,Nat.add_assoc,Nat.left_eq_add,e0,e2,ej,hdl,hz3,hz4,hlk,hA];try simp (disch:=omega) only[Iw])| ((with_reducible refine Y0 ?_);simp only[AQ.then,AQ.blk])|refine⟨by omega,?_⟩| (with_reducible refine hKB _ _ _ ?_)|fail)
    all_goals exact hKM _ _ _ (k+1,u.set d.who.toNat d.n) noF _ (by omega) (by dsimp only;omega) (by(repeat' (first| (with_reducible first|exact C1|refine C2 ?_ ?_)| ((with_reducible refine C0 ?_);exact CE (by omega) rfl)| ((with_reducible refine D0 ?_);first|exact CA rfl|refine CJ ?_)|fail));all_goals exact hclo (by omega)) aK ⟨by dsimp only;omega,hI2,f28,hfr2⟩
  ·repeat' (first| (with_reducible first| (refine hK _ _ _ ?_;clear hK K)| (refine hB ?_;clear hA hB A B)|refine Z1 ?_|refine Z5 (by omega) ?_|refine hKY _ _ _ ?_)| (with_reducible first|refine Y2 fun K hK=> ?_|refine Y3 fun A B hA hB=> ?_)<;>(simp only[go_sem])| ((with_reducible first|refine Y8 ?_|refine Y9 ?_);try simp only[AQ.then,AQ.blk,reduceIte,Nat.reduceEqDiff])|fail)
   exact hQ _ _ _ _ _ (.inr rfl) rfl ⟨rfl,rfl⟩
theorem EL {c:Cfg} {s:CSt} {st:Nat} (hb:aQ c) (hs:COk c s) (hst:st<4) (h:K (dB true) H nx):aB Tryz.prog iX [dA (cU c),dA (eI s),dI st] H nx K:=
 (ES c s st hb hs hst).pure rfl (aI ⟨aE rfl,aE rfl,aE rfl,trivial⟩) fun r hr=>hr▸h
end
end Go.Proofs.YtegiblhkjfiooaaGreat
end
section
namespace Go.AM
theorem agO {M:List (List Int×Int)} {l l':List Int} {n:Int}:jT (vA M l n) l'=if l'=l then some n else jT M l':=by
 induction M with
 |nil=>
  by_cases h:l'=l
  ·simp[vA,jT,h]
  ·simp[vA,jT,h]
 |cons p M ih=>
  obtain⟨a,b⟩:=p
  simp only[vA]
  by_cases hl:l=a
  ·subst hl
   rw[if_pos rfl]
   by_cases h:l'=l
   ·simp[jT,h]
   ·simp[jT,h]
  ·rw[if_neg hl]
   unfold jT at ih ⊢
   simp only[List.find?_cons]
   by_cases h:l'=a
   ·subst h
    simp[Ne.symm hl]
   ·simp only[h,decide_false]
    rw[ih]
def XM (c:Cfg) (who:Nat) (out:List fC) (k:Nat) (M:List (List Int×Int)):Prop:=∀i v,jT M [i]=some v→∃j∈out.take k,(bT c who j.n).id=i∧j.left=v
theorem XM.next {c:Cfg} {who:Nat} {out:List fC} {k:Nat} {M:List (List Int×Int)} (h:XM c who out k M) (hk:k<out.length):XM c who out (k+1) (vA M [(bT c who (out.getD k default).n).id] (out.getD k default).left):=by
 intro i v hv
 rw[agO] at hv
 have hm:out.getD k default∈out.take (k+1):=by
  rw[nK hk];simp
 split at hv
 ·rename_i he
  simp only[List.cons.injEq,and_true] at he
  simp only[Option.some.injEq] at hv
  exact⟨_,hm,he.symm,hv⟩
 ·obtain⟨j,h1,h2⟩:=h i v hv
  exact⟨j,(List.take_sublist_take_left (by omega)).mem h1,h2⟩
end Go.AM
namespace Go.Proofs.YtegiblhkjfiooaaGreat
open Go Go.AM
set_option maxRecDepth 100000
set_option maxHeartbeats 8000000
theorem EG:cJ Tryz.prog jK Tryz.f65 lL sF:=cJ.mk Tryz.func65 (by kernel_rfl) EM
section
variable {H : aA} {nx : Nat} {K : D → aA → Nat → Prop}
theorem FK (c:Cfg) (who:Nat) (p:fR) (hb:aQ c) (hw:who<3) (hp:mD c who p):aB Tryz.prog jK [dA (cU c),dI who,dA (cD p)] .nil 0 fun r _ _=>r.plain=true∧r=dB true:=by
 refine EG rfl fun Q hQ=> ?_
 unfold lL
 obtain⟨hp3,hpr⟩:=hC hb
 have hprw:=hpr who
 have hml:=hb.1.1
 obtain⟨hn1,hn2⟩:=hp.next
 obtain⟨hq1,hq2⟩:=hp.ql
 have hol:=hp.ol
 obtain⟨hl1,hl2⟩:=hp.last
 have hd1:=decide_eq_true (show 0≤p.next∧p.next≤(c.cP.getD who default).length from ⟨hn1,hn2⟩)
 have hd2:=decide_eq_true (show 0≤p.last∧p.last≤3 from ⟨hl1,hl2⟩)
 repeat' (first| (with_reducible first| (refine hK _ _ _ ?_;clear hK K)| (refine hB ?_;clear hA hB A B)|refine Z1 ?_|refine Z2 ?_|refine Z3 fun KB hKB=> ?_)| (first| (with_reducible first|refine Y2 fun K hK=> ?_|refine Y3 fun A B hA hB=> ?_|refine Y5 (by omega) ?_)| (with_reducible refine fE ?_))<;>(simp only[go_sem,hd1,hd2];try simp (disch:=omega) only[Iw])|refine⟨by omega,?_⟩|fail)
 (have hKX:=hKB;clear hKB)
 refine aM.abC fun G0 hG0=> ?_
 have c0:G0 0=some ⟨3,1,[cU c]⟩:=by rw[hG0];rfl
 have c1:G0 1=some ⟨4,1,[cD p]⟩:=by rw[hG0];rfl
 clear hG0
 refine aM.gP (β:=Nat) (fun k=>en [(57,dI k),(56,dI p.queue.length),(55,dS (p.queue.map aJ)),(7,dI (p.next-p.queue.length)),(5,.one (.c (.ptr 4 1 0 0))),(3,.one (.c (.ptr 3 0 0 0))),(1,dI who)])
  (fun k H1 _=>k≤p.queue.length∧ ∀id,id<45→H1 id=G0 id) (fun k=>p.queue.length-k) 0 ⟨noF,_,by repeat' (first| (with_reducible first|exact C1|refine C2 ?_ ?_)| ((with_reducible refine C0 ?_);exact CE (by omega) rfl)| ((with_reducible refine D0 ?_);first|exact CA rfl|refine CJ ?_)|fail),aK,by omega,fun _ _=>rfl⟩ ?_
 rintro k H1 nx1 hnx ⟨hk,hfr⟩ KL hKL
 have g0:H1 0=some ⟨3,1,[cU c]⟩:=by rw[hfr _ (by omega)];exact c0
 have g1:H1 1=some ⟨4,1,[cD p]⟩:=by rw[hfr _ (by omega)];exact c1
 have hA:bQ nx1 [0,1]:=AM.apart (by simp) (by simp;omega)
 simp only[bQ,eZ] at hA
 by_cases hlt:k<p.queue.length
 ·have hqk:=hp.queue k hlt
  repeat' (first| (with_reducible first| (refine hK _ _ _ ?_;clear hK K)| (refine hA ?_;clear hA hB A B)| (refine hB ?_;clear hA hB A B)|refine Z1 ?_|refine Z2 ?_|refine Z3 fun KB hKB=> ?_|refine Z4 (by omega) ?_|refine Z5 (by omega) ?_)| (with_reducible first|refine Y2 fun K hK=> ?_|refine Y3 fun A B hA hB=> ?_)<;>(simp only[go_sem];try simp (disch:=omega) only[Iw])| ((with_reducible refine Y0 ?_);simp only[AQ.then,AQ.blk])|refine⟨by omega,?_⟩| (with_reducible refine hKB _ _ _ ?_)|fail)
  exact hKL _ _ _ (k+1) noF _ (by omega) (by omega) (by repeat' (first| (with_reducible first|exact C1|refine C2 ?_ ?_)| ((with_reducible refine C0 ?_);exact CE (by omega) rfl)| ((with_reducible refine D0 ?_);first|exact CA rfl|refine CJ ?_)|fail)) aK ⟨by omega,hfr⟩
 ·repeat' (first| (with_reducible first| (refine hK _ _ _ ?_;clear hK K)| (refine hB ?_;clear hA hB A B)|refine Z1 ?_|refine Z3 fun KB hKB=> ?_|refine Z5 (by omega) ?_|refine hKX _ _ _ ?_)| (with_reducible first|refine Y2 fun K hK=> ?_|refine Y3 fun A B hA hB=> ?_)<;>(simp only[go_sem,Nat.add_assoc,Nat.left_eq_add,g0,g1,hA])| ((with_reducible refine Y9 ?_);try simp only[AQ.then,AQ.blk,reduceIte,Nat.reduceEqDiff])|fail)
  (have hKY:=hKB;clear hKB)
  have hom: ∀{H:aA} {F:Nat→Prop} {nh:Nat},nx1+8≤nh→Cv1 H F id nh (.omap (nx1+2)) (.omap (nx1+2)):=fun h=>.omap _ (by omega)
  have hout: ∀k,k<p.out.length→p.out.getD k default∈p.out:=fun k hk=>cC hk
  refine aM.gP (β:=Nat×Int×List (List Int×Int)) (fun u=>en [(72,dI u.1),(71,dI p.out.length),(70,dS (p.out.map eCJ)),(11,.one (.c (.omap (nx1+2)))),(10,dI u.2.1),(7,dI (p.next-p.queue.length)),(3,.one (.c (.ptr 3 0 0 0))),(1,dI who)])
   (fun u H2 _=>u.1≤p.out.length∧H2 0=some ⟨3,1,[cU c]⟩∧H2 (nx1+2)=some (u4 ⟨0,false,u.2.2⟩)∧XM c who p.out u.1 u.2.2∧(-1≤u.2.1∧u.2.1≤1000)∧ ∀i,u.1≤i→i<p.out.length→u.2.1<(p.out.getD i default).n) (fun u=>p.out.length-u.1) (0,-1,[])
   ⟨noF,_,by(repeat' (first| (with_reducible first|exact C1|refine C2 ?_ ?_)| ((with_reducible refine C0 ?_);first|exact CE (by omega) rfl|exact CR (by omega) rfl)| ((with_reducible refine D0 ?_);first|exact CA rfl|refine CJ ?_)|fail));all_goals exact hom (by omega),aK,by dsimp only;omega,by rw[aA.aC (by omega)];exact g0,aA.bH,fun i v hv=>by simp[jT] at hv,by dsimp only;omega,fun i _ hi=>by have:=(hp.out _ (hout i hi)).2.1.1;dsimp only;omega⟩ ?_
  rintro⟨k,last,M⟩ H2 nx2 hnx2 ⟨hk,f0,fm,hM,hla,hlast⟩ KM hKM
  dsimp only at hk fm hM hla hlast
  have hA2:bQ nx2 [0,nx1+2]:=AM.apart (by simp) (by simp;omega)
  simp only[bQ,eZ] at hA2
  by_cases hlt:k<p.out.length
  ·obtain⟨j,hjd⟩: ∃j,j=p.out.getD k default:=⟨_,rfl⟩
   have hjm:=hout k hlt
   have hM2:=hM.next hlt
   have hlk:=hlast k (Nat.le_refl _) hlt
   rw[←hjd] at hjm hM2 hlk
   obtain⟨ho1,⟨ho2,ho3⟩,ho4⟩:=hp.out j hjm
   have hd3:=decide_eq_true (show last+1≤j.n∧j.n≤p.next-p.queue.length-1 by omega)
   have hsv:gZ c.map (List.getD (c.cP.getD who default) j.n.toNat default)=j.left:=ho4.symm
   have hask:oA c who j.n:=hp.asks hw ho2 (by omega)
   obtain⟨hk1,hk2,hk3⟩:=hask
   have hnext: ∀i,k+1≤i→i<p.out.length→j.n<(p.out.getD i default).n:=fun i h1 h2=>by
    have:=List.pairwise_iff_getElem.1 hp.acX k i hlt h2 (by omega)
    rw[hjd];simpa [List.getD,hlt,h2] using this
   have hsame: ∀v,jT M [(bT c who j.n).id]=some v→v=j.left:=fun v hv=>by
    obtain⟨j',h1,h2,h3⟩:=hM _ _ hv
    rw[←h3]
    exact hp.akF j' (List.mem_of_mem_take h1) j hjm h2
   cases hgm:jT M [(bT c who j.n).id] with
   |none=>
    repeat' (first| (with_reducible first| (refine hK _ _ _ ?_;clear hK K)| (refine hA ?_;clear hA hB A B)| (refine hB ?_;clear hA hB A B)|refine Z1 ?_|refine Z2 ?_|refine Z3 fun KB hKB=> ?_|refine Z4 (by omega) ?_)| (first| (with_reducible first|refine Y2 fun K hK=> ?_|refine Y3 fun A B hA hB=> ?_|refine Y5 (by omega) ?_)| (with_reducible refine fE ?_)| (refine DE (by omega) ?_)| (refine iJ hp3 ⟨hk1,hk2,hk3⟩ ?_))<;>(simp only[go_sem,Nat.add_assoc,Nat.left_eq_add,hjd.symm,hd3,hsv,f0,fm,hA2,hgm,Option.isSome,Option.getD];try simp (disch:=omega) only[Iw])| ((with_reducible refine Y0 ?_);simp only[AQ.then,AQ.blk])|refine⟨by omega,?_⟩| (with_reducible refine hKB _ _ _ ?_)|fail)
    exact hKM _ _ _ (k+1,j.n,vA M [(bT c who j.n).id] j.left) noF _ (by omega) (by dsimp only;omega) (by(repeat' (first| (with_reducible first|exact C1|refine C2 ?_ ?_)| ((with_reducible refine C0 ?_);first|exact CE (by omega) rfl|exact CR (by omega) rfl)| ((with_reducible refine D0 ?_);first|exact CA rfl|refine CJ ?_)|fail));all_goals exact hom (by omega)) aK ⟨by dsimp only;omega,by rw[aA.aC (by omega),aA.aC (by omega)];exact f0,aA.bH,hM2,by dsimp only;omega,hnext⟩
   |some v=>
    obtain rfl:=hsame v hgm
    repeat' (first| (with_reducible first| (refine hK _ _ _ ?_;clear hK K)| (refine hA ?_;clear hA hB A B)| (refine hB ?_;clear hA hB A B)|refine Z1 ?_|refine Z2 ?_|refine Z3 fun KB hKB=> ?_|refine Z4 (by omega) ?_)| (first| (with_reducible first|refine Y2 fun K hK=> ?_|refine Y3 fun A B hA hB=> ?_|refine Y5 (by omega) ?_)| (with_reducible refine fE ?_)| (refine DE (by omega) ?_)| (refine iJ hp3 ⟨hk1,hk2,hk3⟩ ?_))<;>(simp only[go_sem,Nat.add_assoc,Nat.left_eq_add,hjd.symm,hd3,hsv,f0,fm,hA2,hgm,Option.isSome,Option.getD];try simp (disch:=omega) only[Iw])| ((with_reducible refine Y0 ?_);simp only[AQ.then,AQ.blk])|refine⟨by omega,?_⟩| (with_reducible refine hKB _ _ _ ?_)|fail)
    exact hKM _ _ _ (k+1,j.n,vA M [(bT c who j.n).id] j.left) noF _ (by omega) (by dsimp only;omega) (by(repeat' (first| (with_reducible first|exact C1|refine C2 ?_ ?_)| ((with_reducible refine C0 ?_);first|exact CE (by omega) rfl|exact CR (by omega) rfl)| ((with_reducible refine D0 ?_);first|exact CA rfl|refine CJ ?_)|fail));all_goals exact hom (by omega)) aK ⟨by dsimp only;omega,by rw[aA.aC (by omega),aA.aC (by omega)];exact f0,aA.bH,hM2,by dsimp only;omega,hnext⟩
  ·repeat' (first| (with_reducible first| (refine hK _ _ _ ?_;clear hK K)| (refine hB ?_;clear hA hB A B)|refine Z1 ?_|refine Z5 (by omega) ?_|refine hKY _ _ _ ?_)| (with_reducible first|refine Y2 fun K hK=> ?_|refine Y3 fun A B hA hB=> ?_)<;>(simp only[go_sem])| ((with_reducible first|refine Y8 ?_|refine Y9 ?_);try simp only[AQ.then,AQ.blk,reduceIte,Nat.reduceEqDiff])|fail)
   exact hQ _ _ _ _ _ (.inr rfl) rfl ⟨rfl,rfl⟩
theorem FQ {c:Cfg} {who:Nat} {p:fR} (hb:aQ c) (hw:who<3) (hp:mD c who p) (h:K (dB true) H nx):aB Tryz.prog jK [dA (cU c),dI who,dA (cD p)] H nx K:=
 (FK c who p hb hw hp).pure rfl (aI ⟨aE rfl,aE rfl,aE rfl,trivial⟩) fun r hr=>hr▸h
end
end Go.Proofs.YtegiblhkjfiooaaGreat
end
