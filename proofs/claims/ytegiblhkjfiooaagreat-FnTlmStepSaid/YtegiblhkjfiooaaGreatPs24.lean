/- Texts laid together by a program: rules, contracts and the walk that leads to the law. -/
import Derived.Test.YtegiblhkjfiooaaGreatPs23
import Derived.Test.YtegiblhkjfiooaaGreatPs10
import Derived.Test.YtegiblhkjfiooaaGreatPs12
import Derived.Test.YtegiblhkjfiooaaGreatPs3
import Derived.Test.YtegiblhkjfiooaaGreatPs5
import Derived.Test.YtegiblhkjfiooaaGreatPs19
import Derived.Test.YtegiblhkjfiooaaGreatPs4
import Derived.OpenShut
import Derived.Below
set_option linter.unusedVariables false
set_option linter.unusedSimpArgs false
set_option linter.unusedSectionVars false
section
namespace Go.Proofs.YtegiblhkjfiooaaGreat
open Go Go.AM
set_option maxRecDepth 100000
set_option maxHeartbeats 8000000
section
variable {H : aA} {nx : Nat} {K : D → aA → Nat → Prop}
theorem yO {α:Type} [Inhabited α] {a b:List α} (hl:a.length=b.length) (h: ∀i,i<a.length→a.getD i default=b.getD i default):a=b:=by
 refine List.ext_getElem hl fun i h1 h2=> ?_
 have:=h i h1
 simpa [List.getD,h1,h2] using this
theorem VC (a b:List Int) (ha:a.length<2^40) (hb:b.length<2^40):aB Tryz.prog jM [dS (a.map aJ),dS (b.map aJ)] .nil 0 fun rr _ _=>rr.plain=true∧rr=dB (decide (a=b)):=by
 refine SU rfl fun Q hQ=> ?_
 unfold xO
 by_cases hl:a.length=b.length
 ·repeat' (first| (with_reducible first| (refine hK _ _ _ ?_;clear hK K)| (refine hB ?_;clear hA hB A B)|refine Z1 ?_|refine Z2 ?_|refine Z3 fun KB hKB=> ?_|refine Z5 (by omega) ?_)| (with_reducible first|refine Y2 fun K hK=> ?_|refine Y3 fun A B hA hB=> ?_)<;>(simp only[go_sem])|fail)
  (have hKX:=hKB;clear hKB);(refine aM.loop (α:={k:Nat//k≤a.length∧(∀i,i<k→a.getD i default=b.getD i default)}) (fun u=>en [(5,dI u.1),(1,dS (b.map aJ)),(0,dS (a.map aJ))]) (fun _=>.nil) _ (fun u=>a.length-u.1) ⟨0,by omega,(by intros;first|trivial|omega)⟩ (bU (Nat.le_refl _) (by repeat' (first| (with_reducible first|exact C1|refine C2 ?_ ?_)| ((with_reducible refine D0 ?_);exact CA rfl)|fail))) ?_);(rintro⟨k,hk,hinv⟩ KL hKL)
  by_cases hlt:k<a.length
  ·repeat' (first| (with_reducible first| (refine hK _ _ _ ?_;clear hK K)| (refine hA ?_;clear hA hB A B)| (refine hB ?_;clear hA hB A B)|refine Z1 ?_|refine Z2 ?_|refine Z3 fun KB hKB=> ?_|refine Z4 (by omega) ?_|refine Z6 (fun h=> ?_) fun h=> ?_)| (with_reducible first|refine Y2 fun K hK=> ?_|refine Y3 fun A B hA hB=> ?_)<;>(simp only[go_sem];try simp (disch:=omega) only[Iw])| ((with_reducible refine Y8 ?_);try simp only[AQ.then,AQ.blk,reduceIte,Nat.reduceEqDiff])| ((with_reducible refine Y0 ?_);simp only[AQ.then,AQ.blk])|refine⟨by omega,?_⟩| (with_reducible refine hKB _ _ _ ?_)|fail)
   ·refine aZ hQ _ rfl rfl (j7 ?_)
    intro he;subst he;simp_all
   · (refine hKL _ _ _ ⟨k+1,by omega,iS hinv (by omega)⟩ (by omega) (by(try dsimp only);omega) (bU (Nat.le_refl _) (by repeat' (first| (with_reducible first|exact C1|refine C2 ?_ ?_)| ((with_reducible refine D0 ?_);exact CA rfl)|fail))))
  ·repeat' (first| (with_reducible first| (refine hK _ _ _ ?_;clear hK K)| (refine hB ?_;clear hA hB A B)|refine Z1 ?_|refine Z5 (by omega) ?_|refine hKX _ _ _ ?_)| (with_reducible first|refine Y2 fun K hK=> ?_|refine Y3 fun A B hA hB=> ?_)<;>(simp only[go_sem])| ((with_reducible first|refine Y8 ?_|refine Y9 ?_);try simp only[AQ.then,AQ.blk,reduceIte,Nat.reduceEqDiff])|fail)
   refine aZ hQ _ rfl rfl (q9 (yO hl fun i hi=>hinv i (by omega)))
 ·repeat' (first| (with_reducible first| (refine hK _ _ _ ?_;clear hK K)| (refine hA ?_;clear hA hB A B)|refine Z1 ?_|refine Z4 (by omega) ?_)| (with_reducible first|refine Y2 fun K hK=> ?_|refine Y3 fun A B hA hB=> ?_)<;>(simp only[go_sem])| ((with_reducible refine Y8 ?_);try simp only[AQ.then,AQ.blk,reduceIte,Nat.reduceEqDiff])|fail)
  refine aZ hQ _ rfl rfl (j7 fun he=>hl (by rw[he]))
theorem tP {a:List Int} {b:List Int} (ha:a.length<2^40) (hb:b.length<2^40) (h:K (dB (decide (a=b))) H nx):aB Tryz.prog jM [dS (a.map aJ),dS (b.map aJ)] H nx K:=
 (VC a b ha hb).pure rfl (aI ⟨aE rfl,aE rfl,trivial⟩) (fun r hr=>hr▸h)
theorem YL (a b:Rsp) (ha:a.data.length<2^40) (hb:b.data.length<2^40):aB Tryz.prog qO [dA (tG a),dA (tG b)] .nil 0 fun rr _ _=>rr.plain=true∧rr=dB (decide (a=b)):=by
 refine UL rfl fun Q hQ=> ?_
 unfold AT
 repeat' (first| (with_reducible first| (refine hK _ _ _ ?_;clear hK K)|refine Z1 ?_)| (first| (with_reducible first|refine Y2 fun K hK=> ?_|refine Y6 (fun h=> ?_) fun h=> ?_)| (with_reducible refine tP ha hb ?_))<;>(simp only[go_sem])| ((with_reducible refine Y8 ?_);try simp only[AQ.then,AQ.blk,reduceIte,Nat.reduceEqDiff])|fail)
 all_goals first|with_reducible refine aZ hQ _ rfl rfl ?_|skip
 all_goals (obtain⟨az9,az2,aAD⟩:=a;obtain⟨b1,b2,b3⟩:=b;dsimp only at*;first|exact q9 (by simp_all)|exact j7 (by simp_all)|exact pD (by simp_all))
theorem W9 {a:Rsp} {b:Rsp} (ha:a.data.length<2^40) (hb:b.data.length<2^40) (h:K (dB (decide (a=b))) H nx):aB Tryz.prog qO [dA (tG a),dA (tG b)] H nx K:=
 (YL a b ha hb).pure rfl (aI ⟨aE rfl,aE rfl,trivial⟩) (fun r hr=>hr▸h)
theorem VN {a b:Rsp} (ha:a.data.length<2^40) (hb:b.data.length<2^40) (h:K (dB (decide (a=b))) H nx):aB Tryz.prog qO [.one (.agg [cI a.id,cI a.code,.isl (a.data.map aJ)]),.one (.agg [cI b.id,cI b.code,.isl (b.data.map aJ)])] H nx K:=W9 ha hb h
attribute [-go_sem] agE ai7
theorem TJ (a b:List Job) (ha:a.length<2^40) (hb:b.length<2^40) (hda: ∀j∈a,j.rsp.data.length<2^40) (hdb: ∀j∈b,j.rsp.data.length<2^40):aB Tryz.prog jN [dS (a.map aS),dS (b.map aS)] .nil 0 fun rr _ _=>rr.plain=true∧rr=dB (decide (a=b)):=by
 refine RW rfl fun Q hQ=> ?_
 unfold xT
 by_cases hl:a.length=b.length
 ·repeat' (first| (with_reducible first| (refine hK _ _ _ ?_;clear hK K)| (refine hB ?_;clear hA hB A B)|refine Z1 ?_|refine Z2 ?_|refine Z3 fun KB hKB=> ?_|refine Z5 (by omega) ?_)| (with_reducible first|refine Y2 fun K hK=> ?_|refine Y3 fun A B hA hB=> ?_)<;>(simp only[go_sem])|fail)
  (have hKX:=hKB;clear hKB);(refine aM.loop (α:={k:Nat//k≤a.length∧(∀i,i<k→a.getD i default=b.getD i default)}) (fun u=>en [(5,dI u.1),(1,dS (b.map aS)),(0,dS (a.map aS))]) (fun _=>.nil) _ (fun u=>a.length-u.1) ⟨0,by omega,(by intros;first|trivial|omega)⟩ (bU (Nat.le_refl _) (by repeat' (first| (with_reducible first|exact C1|refine C2 ?_ ?_)| ((with_reducible refine D0 ?_);exact CA rfl)|fail))) ?_);(rintro⟨k,hk,hinv⟩ KL hKL)
  by_cases hlt:k<a.length
  ·have d1:=hda _ (cC (l:=a) (k:=k) hlt)
   have d2:=hdb _ (cC (l:=b) (k:=k) (by omega))
   have hne: ¬a.getD k default=b.getD k default→¬a=b:=fun h1 h2=>h1 (by rw[h2])
   have heq:(a.getD k default).who=(b.getD k default).who→(a.getD k default).n=(b.getD k default).n→(a.getD k default).rsp=(b.getD k default).rsp→a.getD k default=b.getD k default:=by
    generalize a.getD k default=x
    generalize b.getD k default=y
    obtain⟨x1,x2,aYM⟩:=x;obtain⟨y1,aHC,aHD⟩:=y
    dsimp only;intro h1 h2 h3;subst h1;subst h2;subst h3;rfl
   repeat' (first| (with_reducible first| (refine hK _ _ _ ?_;clear hK K)| (refine hA ?_;clear hA hB A B)| (refine hB ?_;clear hA hB A B)|refine Z1 ?_|refine Z2 ?_|refine Z3 fun KB hKB=> ?_|refine Z4 (by omega) ?_|refine Z6 (fun h=> ?_) fun h=> ?_)| (first| (with_reducible first|refine Y2 fun K hK=> ?_|refine Y3 fun A B hA hB=> ?_|refine Y6 (fun h=> ?_) fun h=> ?_)| (with_reducible refine VN (a:=(a.getD k default).rsp) (b:=(b.getD k default).rsp) d1 d2 ?_))<;>(simp only[go_sem];try simp (disch:=omega) only[Iw])| ((with_reducible refine Y8 ?_);try simp only[AQ.then,AQ.blk,reduceIte,Nat.reduceEqDiff])| ((with_reducible refine Y0 ?_);simp only[AQ.then,AQ.blk])|refine⟨by omega,?_⟩| (with_reducible refine hKB _ _ _ ?_)|fail)
   ·refine aZ hQ _ rfl rfl (j7 (hne fun he=>absurd (congrArg Job.who he) (by assumption)))
   ·refine aZ hQ _ rfl rfl (j7 (hne fun he=>absurd (congrArg Job.n he) (by assumption)))
   ·refine aZ hQ _ rfl rfl (j7 (hne fun he=>absurd (congrArg Job.rsp he) (by assumption)))
   · (refine hKL _ _ _ ⟨k+1,by omega,iS hinv (heq (by omega) (by omega) (Classical.not_not.1 (by assumption)))⟩ (by omega) (by(try dsimp only);omega) (bU (Nat.le_refl _) (by repeat' (first| (with_reducible first|exact C1|refine C2 ?_ ?_)| ((with_reducible refine D0 ?_);exact CA rfl)|fail))))
  ·repeat' (first| (with_reducible first| (refine hK _ _ _ ?_;clear hK K)| (refine hB ?_;clear hA hB A B)|refine Z1 ?_|refine Z5 (by omega) ?_|refine hKX _ _ _ ?_)| (with_reducible first|refine Y2 fun K hK=> ?_|refine Y3 fun A B hA hB=> ?_)<;>(simp only[go_sem])| ((with_reducible first|refine Y8 ?_|refine Y9 ?_);try simp only[AQ.then,AQ.blk,reduceIte,Nat.reduceEqDiff])|fail)
   refine aZ hQ _ rfl rfl (q9 (yO hl fun i hi=>hinv i (by omega)))
 ·repeat' (first| (with_reducible first| (refine hK _ _ _ ?_;clear hK K)| (refine hA ?_;clear hA hB A B)|refine Z1 ?_|refine Z4 (by omega) ?_)| (with_reducible first|refine Y2 fun K hK=> ?_|refine Y3 fun A B hA hB=> ?_)<;>(simp only[go_sem])| ((with_reducible refine Y8 ?_);try simp only[AQ.then,AQ.blk,reduceIte,Nat.reduceEqDiff])|fail)
  refine aZ hQ _ rfl rfl (j7 fun he=>hl (by rw[he]))
theorem AL {a:List Job} {b:List Job} (ha:a.length<2^40) (hb:b.length<2^40) (hda: ∀j∈a,j.rsp.data.length<2^40) (hdb: ∀j∈b,j.rsp.data.length<2^40) (h:K (dB (decide (a=b))) H nx):aB Tryz.prog jN [dS (a.map aS),dS (b.map aS)] H nx K:=
 (TJ a b ha hb hda hdb).pure rfl (aI ⟨aE rfl,aE rfl,trivial⟩) (fun r hr=>hr▸h)
theorem XD (a b u v:List Int) (ha:a.length<2^40) (hb:b.length<2^40) (hu:u.length<2^40) (hv:v.length<2^40):aB Tryz.prog wK [.one (.agg [.isl (a.map aJ),.isl (b.map aJ)]),.one (.agg [.isl (u.map aJ),.isl (v.map aJ)])] .nil 0 fun rr _ _=>rr.plain=true∧rr=dB (decide (a=u∧b=v)):=by
 refine UZ rfl fun Q hQ=> ?_
 unfold zY
 repeat' (first| (with_reducible first| (refine hK _ _ _ ?_;clear hK K)|refine Z1 ?_)| (first| (with_reducible first|refine Y2 fun K hK=> ?_|refine Y6 (fun h=> ?_) fun h=> ?_)| (with_reducible refine tP ha hu ?_)| (with_reducible refine tP hb hv ?_))<;>(simp only[go_sem])| ((with_reducible refine Y8 ?_);try simp only[AQ.then,AQ.blk,reduceIte,Nat.reduceEqDiff])|fail)
 all_goals first|with_reducible refine aZ hQ _ rfl rfl ?_|skip
 all_goals first|exact q9 (by simp_all)|exact j7 (by simp_all)|exact pD (by simp_all)
theorem YN {a:List Int} {b:List Int} {u:List Int} {v:List Int} (ha:a.length<2^40) (hb:b.length<2^40) (hu:u.length<2^40) (hv:v.length<2^40) (h:K (dB (decide (a=u∧b=v))) H nx):aB Tryz.prog wK [.one (.agg [.isl (a.map aJ),.isl (b.map aJ)]),.one (.agg [.isl (u.map aJ),.isl (v.map aJ)])] H nx K:=
 (XD a b u v ha hb hu hv).pure rfl (aI ⟨aE rfl,aE rfl,trivial⟩) (fun r hr=>hr▸h)
end
end Go.Proofs.YtegiblhkjfiooaaGreat
end
section
namespace Go.Proofs.YtegiblhkjfiooaaGreat
open Go Go.AM
set_option maxRecDepth 100000
set_option maxHeartbeats 8000000
section
variable {H : aA} {nx : Nat} {K : D → aA → Nat → Prop}
theorem ayX (s:TSt) (hw:s.words.length<2^40) (hh:s.holds.length<2^40) (ha:s.asked.length<2^40) (h1:s.wait.length<2^40) (h2:s.done.length<2^40) (h3:s.told.length<2^40) (hd: ∀j∈s.wait++s.done++s.told,j.rsp.data.length<2^40):aB Tryz.prog au9 [dA (eSt s),dA (eSt s)] .nil 0 fun rr _ _=>rr.plain=true∧rr=dB true:=by
 refine ayR rfl fun Q hQ=> ?_
 unfold av4
 have hd1:=fun j (hj:j∈s.wait)=>hd j (by simp[hj])
 have hd2:=fun j (hj:j∈s.done)=>hd j (by simp[hj])
 have hd3:=fun j (hj:j∈s.told)=>hd j (by simp[hj])
 repeat' (first| (with_reducible first| (refine hK _ _ _ ?_;clear hK K)|refine Z1 ?_)| (first| (with_reducible refine Y2 fun K hK=> ?_)| (refine YN (a:=s.words) (b:=s.holds) (u:=s.words) (v:=s.holds) hw hh hw hh ?_)| (refine tP ha ha ?_)| (refine AL h1 h1 hd1 hd1 ?_)| (refine AL h2 h2 hd2 hd2 ?_)| (refine AL h3 h3 hd3 hd3 ?_))<;>(simp only[go_sem])| ((with_reducible refine Y8 ?_);try simp only[AQ.then,AQ.blk,reduceIte,Nat.reduceEqDiff])|fail)
 all_goals exact aZ hQ _ rfl rfl rfl
theorem ayZ {s:TSt} (hw:s.words.length<2^40) (hh:s.holds.length<2^40) (ha:s.asked.length<2^40) (h1:s.wait.length<2^40) (h2:s.done.length<2^40) (h3:s.told.length<2^40) (hd: ∀j∈s.wait++s.done++s.told,j.rsp.data.length<2^40) (h:K (dB true) H nx):aB Tryz.prog au9 [dA (eSt s),dA (eSt s)] H nx K:=
 (ayX s hw hh ha h1 h2 h3 hd).pure rfl (aI ⟨aE rfl,aE rfl,trivial⟩) (fun r hr=>hr▸h)
end
end Go.Proofs.YtegiblhkjfiooaaGreat
end
section
namespace Go.Proofs.YtegiblhkjfiooaaGreat
open Go Go.AM
set_option maxRecDepth 100000
set_option maxHeartbeats 8000000
section
variable {H : aA} {nx : Nat} {K : D → aA → Nat → Prop}
theorem aa9:aB Tryz.prog E2 [] .nil 0 fun rr _ _=>rr.plain=true∧rr=dB true:=by
 refine XX rfl fun Q hQ=> ?_
 unfold CP
 repeat' (first| (with_reducible first| (refine hK _ _ _ ?_;clear hK K)|refine Z1 ?_)| (first| (with_reducible refine Y2 fun K hK=> ?_)| (with_reducible refine wS ?_))<;>(simp only[go_sem])| ((with_reducible refine Y8 ?_);try simp only[AQ.then,AQ.blk,reduceIte,Nat.reduceEqDiff])|fail)
 all_goals first|with_reducible refine aZ hQ _ rfl rfl ?_|skip
 all_goals exact(q9 (by decide)).symm
theorem apY (h:K (dB true) H nx):aB Tryz.prog E2 [] H nx K:=
 (aa9).pure rfl (aI trivial) (fun r hr=>hr▸h)
theorem aX8 {s:TSt} (hf:aTQ s) (h:K (dB true) H nx):aB Tryz.prog au9 [dA (eSt s),dA (eSt s)] H nx K:=by
 obtain⟨h1,h2,h3,h4,h5,h6,h7⟩:=hf
 exact ayZ (by omega) (by omega) (by omega) (by omega) (by omega) (by omega) (fun j hj=>by have:=h7 j hj;omega) h
end
theorem aYH:aTQ stN:=⟨by decide,by decide,by decide,by decide,by decide,by decide,fun j hj=>by simp[stN] at hj⟩
theorem aYJ {c:Cfg} {s:TSt} {e:Ev} (hf:aTQ s):aTQ (stT c s e):=by
 unfold stT
 split
 ·rename_i h
  obtain⟨hb,hs⟩:=aYC.1 h
  split
  ·rename_i hw;exact(G9 hb hs hw).aUG hb
  ·exact hf
 ·exact aYH
theorem aX0:cJ Tryz.prog aXV Tryz.f11 aXS aXU:=cJ.mk Tryz.func11 (by kernel_rfl) aXY
theorem aYD (l:List Int) (hby: ∀x∈l,0≤x∧x<256):aB Tryz.prog aXV [dS (l.map eU8)] .nil 0 fun rr _ _=>rr.plain=true∧rr=dB true:=by
 refine aX0 rfl fun Q hQ=> ?_
 unfold aXS
 by_cases hbig:l.length≤1048576
 case neg=>
  repeat' (first| (with_reducible first| (refine hK _ _ _ ?_;clear hK K)| (refine hA ?_;clear hA hB A B)|refine Z1 ?_|refine Z4 (by omega) ?_)| (with_reducible first|refine Y2 fun K hK=> ?_|refine Y3 fun A B hA hB=> ?_)<;>(simp only[go_sem])| ((with_reducible refine Y8 ?_);try simp only[AQ.then,AQ.blk,reduceIte,Nat.reduceEqDiff])|fail)
  exact hQ _ _ _ _ _ (.inr rfl) rfl ⟨rfl,rfl⟩
 have hl:kZ l:=⟨by omega,hby⟩
 repeat' (first| (with_reducible first| (refine hK _ _ _ ?_;clear hK K)| (refine hB ?_;clear hA hB A B)|refine Z1 ?_|refine Z2 ?_|refine Z5 (by omega) ?_)| (first| (with_reducible first|refine Y2 fun K hK=> ?_|refine Y3 fun A B hA hB=> ?_)| (refine aV9 hl (fun H1 nx1 c s e hx1 hcf hsm _=> ?_)))<;>(simp only[go_sem])|fail)
 have hf:=hsm.fit
 have hf2:=aYJ (c:=c) (e:=e) hf
 refine aWM hcf hf ?_
 generalize hG:aA.set _ 12 _=G
 have g10:G 10=some ⟨3,1,[cU c]⟩:=by rw[←hG];exact(by simp only[aA.set,aA.del,Nat.add_assoc,Nat.reduceAdd,Nat.add_left_cancel_iff,Nat.reduceEqDiff,Nat.left_eq_add,Nat.add_eq_left,if_true,if_false];done)
 have g11:G 11=some ⟨6,1,[eSt s]⟩:=by rw[←hG];exact(by simp only[aA.set,aA.del,Nat.add_assoc,Nat.reduceAdd,Nat.add_left_cancel_iff,Nat.reduceEqDiff,Nat.left_eq_add,Nat.add_eq_left,if_true,if_false];done)
 have g12:G 12=some ⟨3,1,[eEv e]⟩:=by rw[←hG];exact(by simp only[aA.set,aA.del,Nat.add_assoc,Nat.reduceAdd,Nat.add_left_cancel_iff,Nat.reduceEqDiff,Nat.left_eq_add,Nat.add_eq_left,if_true,if_false];done)
 clear hG
 have hA1:bQ nx1 [10,11,12]:=AM.apart (by simp) (by simp;omega)
 simp only[bQ,eZ] at hA1
 obtain⟨S2,hS2⟩: ∃S2,S2=stT c s e:=⟨_,rfl⟩
 obtain⟨w,hw⟩: ∃w,w=aTD c s e:=⟨_,rfl⟩
 rw[←hS2] at hf2
 rw[←hS2,←hw]
 (try simp only[go_sem,Nat.add_assoc,Nat.left_eq_add,Nat.add_eq_left,g10,g11,g12,hA1]);repeat' (first| (with_reducible first| (refine hK _ _ _ ?_;clear hK K)|refine Z1 ?_)| (with_reducible refine Y2 fun K hK=> ?_)<;>(simp only[go_sem,Nat.add_assoc,Nat.left_eq_add,Nat.add_eq_left,g10,g11,g12,hA1])|fail)
 refine aX3 hcf hf fun H2 nx2 hx2 fr2=> ?_
 rw[←hS2,←hw]
 have q10:H2 10=some ⟨3,1,[cU c]⟩:=by rw[fr2 _ (by omega),aA.aC (by omega)];exact g10
 have q11:H2 11=some ⟨6,1,[eSt s]⟩:=by rw[fr2 _ (by omega),aA.aC (by omega)];exact g11
 have q12:H2 12=some ⟨3,1,[eEv e]⟩:=by rw[fr2 _ (by omega),aA.aC (by omega)];exact g12
 have q7:H2 (nx1+7)=some ⟨6,1,[eSt S2]⟩:=by rw[fr2 _ (by omega)];exact aA.bH
 clear fr2 g10 g11 g12 hA1
 have hA:bQ nx2 [10,11,12,nx1+7]:=AM.apart (by simp;omega) (by simp;omega)
 simp only[bQ,eZ] at hA
 obtain⟨tb,htb⟩: ∃tb,tb=tlB c s:=⟨_,rfl⟩
 have hi: ∀{H:aA} {nx:Nat} {K:D→aA→Nat→Prop},K (dB tb) H nx→aB Tryz.prog au7 [dA (cU c),dA (eSt s)] H nx K:=fun h=>by rw[htb] at h;exact aV5 hcf hf h
 have hsp: ∀{H:aA} {nx:Nat} {K:D→aA→Nat→Prop},K (dB tb) H nx→aB Tryz.prog aI6 [dA (cU c),dA (eSt s)] H nx K:=fun h=>by rw[htb] at h;exact aMQ hcf hf h
 cases tb with
 |false=>
  have hno: ¬(aQ c∧BA c s):=fun h=>by rw[aTX h.1 h.2] at htb;cases htb
  obtain rfl:w=1:=by rw[hw];unfold aTD;rw[←htb];rfl
  obtain rfl:S2=stN:=by rw[hS2];unfold stT;rw[←htb];rfl
  have hN:eSt stN=[.isl [],.isl [],.isl [],.isl [],.isl [],.isl []]:=rfl
  (try simp only[go_sem,Nat.add_assoc,Nat.left_eq_add,Nat.add_eq_left,q10,q11,q12,q7,hA]);repeat' (first| (with_reducible first| (refine hK _ _ _ ?_;clear hK K)| (refine hA ?_;clear hA hB A B)| (refine hB ?_;clear hA hB A B)|refine Z1 ?_|refine Z2 ?_)| (first| (with_reducible first|refine Y2 fun K hK=> ?_|refine Y3 fun A B hA hB=> ?_|refine Y6 (fun h=> ?_) fun h=> ?_| (refine Y7 (fun h=> ?_) (fun h=> ?_)<;>try subst h))| (refine aX8 hf2 ?_)| (refine hi ?_)| (refine hsp ?_)| (with_reducible refine apY ?_))<;>(simp only[go_sem,Nat.add_assoc,Nat.left_eq_add,Nat.add_eq_left,q10,q11,q12,q7,hA])| ((with_reducible refine Y8 ?_);try simp only[AQ.then,AQ.blk,reduceIte,Nat.reduceEqDiff])| ((with_reducible refine Z8 (fun h=> ?_) (fun h=> ?_))<;>try subst h)|fail)
  all_goals first
   |exact hQ _ _ _ _ _ (.inr rfl) rfl ⟨rfl,rfl⟩
   |exact absurd h (by decide)
   | (exfalso;simp at h;done)
 |true=>
  obtain⟨hb,hs⟩:=aYC.1 htb.symm
  have hwm:w=X6 c s e:=by rw[hw];exact aT5 hb hs
  by_cases hw0:w=0
  ·have hS3:S2=lS c s e:=by rw[hS2];unfold stT;rw[←htb,if_pos rfl,if_pos (hwm▸hw0)]
   have hs2:BA c S2:=by rw[hS3];exact G9 hb hs (hwm▸hw0)
   have hag: ¬X6 c S2 e=0:=by rw[hS3];exact aYF hs (hwm▸hw0)
   (try simp only[go_sem,Nat.add_assoc,Nat.left_eq_add,Nat.add_eq_left,q10,q11,q12,q7,hA,eq_true hw0,eq_false hag]);repeat' (first| (with_reducible first| (refine hK _ _ _ ?_;clear hK K)| (refine hA ?_;clear hA hB A B)| (refine hB ?_;clear hA hB A B)|refine Z1 ?_|refine Z2 ?_)| (first| (with_reducible first|refine Y2 fun K hK=> ?_|refine Y3 fun A B hA hB=> ?_| (refine Y7 (fun h=> ?_) (fun h=> ?_)<;>try subst h))| (refine aX8 hf2 ?_)| (refine hi ?_)| (refine hsp ?_)| (refine aWU hb hcf hs2 ?_)| (refine aPH hb hcf hs2 ?_))<;>(simp only[go_sem,Nat.add_assoc,Nat.left_eq_add,Nat.add_eq_left,q10,q11,q12,q7,hA,eq_true hw0,eq_false hag])| ((with_reducible refine Y8 ?_);try simp only[AQ.then,AQ.blk,reduceIte,Nat.reduceEqDiff])| ((with_reducible refine Z8 (fun h=> ?_) (fun h=> ?_))<;>try subst h)|fail)
   all_goals first
    |exact hQ _ _ _ _ _ (.inr rfl) rfl ⟨rfl,rfl⟩
    |exact absurd h (by decide)
    | (exfalso;simp at h;done)
  ·have hS3:S2=s:=by rw[hS2];unfold stT;rw[←htb,if_pos rfl,if_neg (fun h=>hw0 (hwm.trans h))]
   subst hS3
   (try simp only[go_sem,Nat.add_assoc,Nat.left_eq_add,Nat.add_eq_left,q10,q11,q12,q7,hA,eq_false hw0]);repeat' (first| (with_reducible first| (refine hK _ _ _ ?_;clear hK K)| (refine hA ?_;clear hA hB A B)| (refine hB ?_;clear hA hB A B)|refine Z1 ?_|refine Z2 ?_)| (first| (with_reducible first|refine Y2 fun K hK=> ?_|refine Y3 fun A B hA hB=> ?_| (refine Y7 (fun h=> ?_) (fun h=> ?_)<;>try subst h))| (refine aX8 hf2 ?_)| (refine hi ?_)| (refine hsp ?_))<;>(simp only[go_sem,Nat.add_assoc,Nat.left_eq_add,Nat.add_eq_left,q10,q11,q12,q7,hA,eq_false hw0])| ((with_reducible refine Y8 ?_);try simp only[AQ.then,AQ.blk,reduceIte,Nat.reduceEqDiff])| ((with_reducible refine Z8 (fun h=> ?_) (fun h=> ?_))<;>try subst h)|fail)
   all_goals first
    |exact hQ _ _ _ _ _ (.inr rfl) rfl ⟨rfl,rfl⟩
    |exact absurd h (by decide)
    | (exfalso;simp at h;done)
end Go.Proofs.YtegiblhkjfiooaaGreat
end
section
namespace Go.AM
open Go.RowKit
def asV (k:IntKind) (w:World) (a:Option Addr) (len cap:Nat) (zs:List Int):Prop:=
 (a=none∧len=0∧cap=0∧zs=[])∨
 ∃x,a=some x∧len≤cap∧cap≤maxLen∧zs.length=cap∧(∀i,i<zs.length→w.cell? (x.add i)=some (.int k (zs.getD i 0)))∧ ∀n∈zs,(Lit.int k n).wf=true
theorem abA {P:Program} {f:FuncId} {l:List Int} {w:World} {v:Value} {I:Nat→Prop} (h:aB P f [dS (l.map eU8)] .nil 0 fun rr _ _=>rr.plain=true∧rr=dB true) (hI: ∀b,I b→b<w.heap.size) (hv:Imm I w (.isl (l.map eU8)) v):
 Calls P f #[v] w fun e w'=>e= .returned (.bool true)∧Below w.heap.size w w':=by
 have hno: ∀b,¬uG ⟨fun _=>(0,0),fun _=>False,I,w⟩ .nil b:=by rintro b ⟨id,o,h,_⟩;cases h
 have hst:St ⟨fun _=>(0,0),fun _=>False,I,w⟩ .nil:=⟨fun id o h=>(by cases h),fun id o h=>(by cases h),fun id o h=>(by cases h),fun id o i j r d h=>(by cases h),fun id id' o o' h=>(by cases h),fun id o h=>(by cases h),hI⟩
 refine(h.2 ⟨fun _=>(0,0),fun _=>False,I,w⟩ [v] hst (fun i hi=>hi.elim) rfl (fun i d u h1 h2=> ?_)).mono ?_
 ·match i with
  |0=>simp at h1 h2;subst h1;subst h2;exact hv
  |i+1=>simp at h1
 ·rintro x w' ⟨u,c',r,H',nx',rfl,rfl,p1,p2,p3,p4,p5,p6,rfl⟩
  have hu:u= .bool true:=by
   simp only[fD,jZ,Rel,bY] at p5
   cases p5;rfl
  subst hu
  exact⟨rfl,p2.os,p2.tape,p2.output,p2.size,fun k hk=>p2.frame k hk (hno k)⟩
theorem atQ {P:Program} {f:FuncId} (h: ∀l:List Int,(∀x∈l,0≤x∧x<256)→aB P f [dS (l.map eU8)] .nil 0 fun rr _ _=>rr.plain=true∧rr=dB true) (az5:Option Addr) (len0 cap0:Nat) (z0:List Int) (w:World) (w0:asV .u8 w az5 len0 cap0 z0):
 Calls P f #[.slice az5 len0 cap0] w fun e w'=>e= .returned (.bool true)∧Below w.heap.size w w':=by
 rcases w0 with⟨rfl,rfl,rfl,rfl⟩|⟨x,rfl,hl,hm,hz,hc,hw⟩
 ·refine abA (I:=fun _=>False) (h [] (fun x hx=>by cases hx)) (fun b hb=>hb.elim) ?_
  exact .isl [] none 0 1 0 0 (fun _ _=>.int .u8 0) (fun h=>absurd rfl h) (Nat.le_refl _) (fun i r h=>by simp at h) (fun i j r d h=>by simp at h) (fun i j r d h=>by simp at h)
 ·have hlt:(z0.take len0).length=len0:=by simp;omega
  have hby: ∀y∈z0.take len0,0≤y∧y<256:=fun y hy=>by
   have:=bounds_u8 (hw y (List.take_subset _ _ hy));omega
  refine abA (I:=fun b=>b=x.block∧0<len0) (h (z0.take len0) hby) (fun b hb=> ?_) ?_
  ·obtain⟨rfl,h0⟩:=hb
   have:=World.block_lt_of_cell? w _ (hc 0 (by omega))
   simpa [Addr.add] using this
  ·have key:=Imm.isl (I:=fun b=>b=x.block∧0<len0) (w:=w) ((z0.take len0).map eU8) (some x) cap0 1 x.block x.off (fun i _=>.int .u8 (z0.getD i 0)) (fun hne=> ?_) (by simp;omega) (fun i r hr=> ?_) (fun i j r d hr hd=> ?_) (fun i j r d hr hd=> ?_)
   ·rw[List.length_map,hlt] at key;exact key
   ·have h0:0<len0:=by
     rcases Nat.eq_zero_or_pos len0 with h0|h0
     ·subst h0;exact absurd (by simp) hne
     ·exact h0
    have hsp:=World.cell?_spot (hc 0 (by omega))
    refine⟨?_,rfl,h0⟩
    obtain⟨b,o,s⟩:=x
    simp only[Addr.add,if_true] at hsp
    subst hsp
    rfl
   ·obtain⟨y,_,rfl⟩:=List.mem_map.1 (List.mem_of_getElem? hr)
    rfl
   ·rw[List.getElem?_map] at hr
    obtain⟨y,hy,rfl⟩:=Option.map_eq_some_iff.1 hr
    match j with
    |0=>
     have hi:i<len0:=by have:=(List.getElem?_eq_some_iff.1 hy).1;omega
     have h1:=hc i (by omega)
     have hsp:=World.cell?_spot (hc 0 (by omega))
     obtain⟨b,o,s⟩:=x
     simp only[Addr.add,if_true] at hsp
     subst hsp
     have e:(Addr.mk b o none).add i=⟨b,o+(i*1+0),none⟩:=by
      unfold Addr.add
      split
      ·rename_i h;subst h;simp
      ·simp
     rw[e] at h1
     exact h1
    |j+1=>simp[eU8] at hd
   ·rw[List.getElem?_map] at hr
    obtain⟨y,hy,rfl⟩:=Option.map_eq_some_iff.1 hr
    match j with
    |0=>
     simp only[eU8,List.getElem?_cons_zero,Option.some.injEq] at hd
     subst hd
     have hyz:y=z0.getD i 0:=by
      rw[List.getElem?_take] at hy
      split at hy
      ·simp[List.getD,hy]
      ·cases hy
     subst hyz
     exact .v _ rfl
    |j+1=>simp[eU8] at hd
end Go.AM
end
