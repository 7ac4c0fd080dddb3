/- Texts laid together by a program: rules, contracts and the walk that leads to the law. -/
import Derived.Test.YtegiblhkjfiooaaGreatPk7
set_option linter.unusedVariables false
set_option linter.unusedSimpArgs false
set_option linter.unusedSectionVars false
section
namespace Go.Proofs.YtegiblhkjfiooaaGreat
open Go Go.AM
set_option maxRecDepth 100000
section
variable {H : aA} {nx : Nat} {K : D → aA → Nat → Prop}
theorem oB (l:List Rng) (f:FuncId) (caps:List D1) (p:Rng→Bool) (hl:l.length<2^40) (hc:caps.all D1.dT=true) (hf: ∀x∈l,∀(H:aA) (nx:Nat) (K:D→aA→Nat→Prop),K (dB (p x)) H nx→aB Tryz.prog f (dA (eY x)::caps.map fun d=>.one (.c d)) H nx K):
 aB Tryz.prog bR [dS (l.map eY),.one (.c (.clo f caps))] .nil 0 fun r _ _=>r.plain=true∧r=dI (aW p l):=by
 refine nR rfl fun Q hQ=> ?_
 unfold dY
 repeat' (first| (with_reducible first| (refine hK _ _ _ ?_;clear hK K)|refine Z1 ?_|refine Z3 fun KB hKB=> ?_)| (with_reducible refine Y2 fun K hK=> ?_)<;>(simp only[go_sem])|fail)
 (have hKX:=hKB;clear hKB);(refine aQ.loop (α:={k:Nat//k≤l.length∧(∀i,i<k→p (l.getD i default)=false)}) (fun u=>en [(8,dI u.1),(7,dI l.length),(1,.one (.c (.clo f caps))),(0,dS (l.map eY))]) (fun _=>.nil) _ (fun u=>l.length-u.1) ⟨0,by omega,(by intros;first|trivial|omega)⟩ (dL (Nat.le_refl _) (by repeat' (first| (with_reducible first|exact C1|refine C2 ?_ ?_)| ((with_reducible refine C0 ?_);exact CH (by assumption))| ((with_reducible refine D0 ?_);first|exact CA rfl|refine CJ ?_)|fail))) ?_);(rintro⟨k,hk,hinv⟩ KL hKL)
 by_cases hlt:k<l.length
 ·have hmem:l.getD k default∈l:=by simp[List.getD,hlt]
  repeat' (first| (with_reducible first| (refine hK _ _ _ ?_;clear hK K)| (refine hA ?_;clear hA hB A B)| (refine hB ?_;clear hA hB A B)|refine Z1 ?_|refine Z2 ?_|refine Z3 fun KB hKB=> ?_|refine Z4 (by omega) ?_)| (first| (with_reducible first|refine Y2 fun K hK=> ?_|refine Y3 fun A B hA hB=> ?_)| (with_reducible refine hf _ hmem _ _ _ ?_))<;>(simp only[go_sem];try simp (disch:=omega) only[Iw])| ((with_reducible refine Y8 ?_);try simp only[AQ.then,AQ.blk,reduceIte,Nat.reduceEqDiff])| ((with_reducible refine Y0 ?_);simp only[AQ.then,AQ.blk])| ((with_reducible refine Z8 (fun h=> ?_) (fun h=> ?_))<;>try subst h)|refine⟨by omega,?_⟩| (with_reducible refine hKB _ _ _ ?_)|fail)
  ·refine bJ hQ _ rfl rfl (nQ (Eq.symm (AH (by omega) (by assumption) hinv)))
  · (refine hKL _ _ _ ⟨k+1,by omega,nG hinv (by assumption)⟩ (by omega) (by(try dsimp only);omega) (dL (Nat.le_refl _) (by repeat' (first| (with_reducible first|exact C1|refine C2 ?_ ?_)| ((with_reducible refine C0 ?_);exact CH (by assumption))| ((with_reducible refine D0 ?_);first|exact CA rfl|refine CJ ?_)|fail))))
 ·repeat' (first| (with_reducible first| (refine hK _ _ _ ?_;clear hK K)| (refine hB ?_;clear hA hB A B)|refine Z1 ?_|refine Z5 (by omega) ?_|refine hKX _ _ _ ?_)| (with_reducible first|refine Y2 fun K hK=> ?_|refine Y3 fun A B hA hB=> ?_)<;>(simp only[go_sem])| ((with_reducible first|refine Y8 ?_|refine Y9 ?_);try simp only[AQ.then,AQ.blk,reduceIte,Nat.reduceEqDiff])|fail)
  ·refine bJ hQ _ rfl rfl (nQ (Eq.symm (rI fun i hi=>hinv i (by omega))))
theorem gX {l:List Rng} {f:FuncId} {caps caps0:List D1} {p:Rng→Bool} {d:D} (hl:l.length<2^40) (hc:caps.all D1.dT=true) (hd:CvD H (fun _=>True) id 0 (dS (l.map eY)) d) (hk:CvD H (fun _=>True) id 0 (.one (.c (.clo f caps))) (.one (.c (.clo f caps0)))) (hf: ∀x∈l,∀(H:aA) (nx:Nat) (K:D→aA→Nat→Prop),K (dB (p x)) H nx→aB Tryz.prog f (dA (eY x)::caps.map fun d=>.one (.c d)) H nx K)
 (h:K (dI (aW p l)) H nx):aB Tryz.prog bR [d,.one (.c (.clo f caps0))] H nx K:=
 (oB l f caps p hl hc hf).pure rfl (aI ⟨hd,hk,trivial⟩) fun r hr=>hr▸h
theorem mM (l:List Rng) (f:FuncId) (caps:List D1) (p:Rng→Bool) (hl:l.length<2^40) (hc:caps.all D1.dT=true) (hf: ∀x∈l,∀(H:aA) (nx:Nat) (K:D→aA→Nat→Prop),K (dB (p x)) H nx→aB Tryz.prog f (dA (eY x)::caps.map fun d=>.one (.c d)) H nx K):
 aB Tryz.prog bX [dS (l.map eY),.one (.c (.clo f caps))] .nil 0 fun r _ _=>r.plain=true∧r=dB (decide (0≤aW p l)):=by
 refine lZ rfl fun Q hQ=> ?_
 unfold cX
 repeat' (first| (with_reducible first| (refine hK _ _ _ ?_;clear hK K)|refine Z1 ?_)| (first| (with_reducible refine Y2 fun K hK=> ?_)| (refine gX hl hc (aF rfl) (iV hc) hf ?_))<;>(simp only[go_sem])| ((with_reducible refine Y8 ?_);try simp only[AQ.then,AQ.blk,reduceIte,Nat.reduceEqDiff])|fail)
 all_goals exact bJ hQ _ rfl rfl rfl
theorem mE {l:List Rng} {f:FuncId} {caps caps0:List D1} {p:Rng→Bool} {d:D} (hl:l.length<2^40) (hc:caps.all D1.dT=true) (hd:CvD H (fun _=>True) id 0 (dS (l.map eY)) d) (hk:CvD H (fun _=>True) id 0 (.one (.c (.clo f caps))) (.one (.c (.clo f caps0)))) (hf: ∀x∈l,∀(H:aA) (nx:Nat) (K:D→aA→Nat→Prop),K (dB (p x)) H nx→aB Tryz.prog f (dA (eY x)::caps.map fun d=>.one (.c d)) H nx K)
 (h:K (dB (decide (0≤aW p l))) H nx):aB Tryz.prog bX [d,.one (.c (.clo f caps0))] H nx K:=
 (mM l f caps p hl hc hf).pure rfl (aI ⟨hd,hk,trivial⟩) fun r hr=>hr▸h
theorem yA (l:List Int) (f:FuncId) (caps:List D1) (p:Int→Bool) (hl:l.length<2^40) (hc:caps.all D1.dT=true) (hf: ∀x∈l,∀(H:aA) (nx:Nat) (K:D→aA→Nat→Prop),K (dB (p x)) H nx→aB Tryz.prog f (dI x::caps.map fun d=>.one (.c d)) H nx K):
 aB Tryz.prog fK [dS (l.map aE),.one (.c (.clo f caps))] .nil 0 fun r _ _=>r.plain=true∧r=dI (aW p l):=by
 refine wV rfl fun Q hQ=> ?_
 unfold iC
 repeat' (first| (with_reducible first| (refine hK _ _ _ ?_;clear hK K)|refine Z1 ?_|refine Z3 fun KB hKB=> ?_)| (with_reducible refine Y2 fun K hK=> ?_)<;>(simp only[go_sem])|fail)
 (have hKX:=hKB;clear hKB);(refine aQ.loop (α:={k:Nat//k≤l.length∧(∀i,i<k→p (l.getD i default)=false)}) (fun u=>en [(8,dI u.1),(7,dI l.length),(1,.one (.c (.clo f caps))),(0,dS (l.map aE))]) (fun _=>.nil) _ (fun u=>l.length-u.1) ⟨0,by omega,(by intros;first|trivial|omega)⟩ (dL (Nat.le_refl _) (by repeat' (first| (with_reducible first|exact C1|refine C2 ?_ ?_)| ((with_reducible refine C0 ?_);exact CH (by assumption))| ((with_reducible refine D0 ?_);first|exact CA rfl|refine CJ ?_)|fail))) ?_);(rintro⟨k,hk,hinv⟩ KL hKL)
 by_cases hlt:k<l.length
 ·have hmem:l.getD k default∈l:=by simp[List.getD,hlt]
  repeat' (first| (with_reducible first| (refine hK _ _ _ ?_;clear hK K)| (refine hA ?_;clear hA hB A B)| (refine hB ?_;clear hA hB A B)|refine Z1 ?_|refine Z2 ?_|refine Z3 fun KB hKB=> ?_|refine Z4 (by omega) ?_)| (first| (with_reducible first|refine Y2 fun K hK=> ?_|refine Y3 fun A B hA hB=> ?_)| (with_reducible refine hf _ hmem _ _ _ ?_))<;>(simp only[go_sem];try simp (disch:=omega) only[Iw])| ((with_reducible refine Y8 ?_);try simp only[AQ.then,AQ.blk,reduceIte,Nat.reduceEqDiff])| ((with_reducible refine Y0 ?_);simp only[AQ.then,AQ.blk])| ((with_reducible refine Z8 (fun h=> ?_) (fun h=> ?_))<;>try subst h)|refine⟨by omega,?_⟩| (with_reducible refine hKB _ _ _ ?_)|fail)
  ·refine bJ hQ _ rfl rfl (nQ (Eq.symm (AH (by omega) (by assumption) hinv)))
  · (refine hKL _ _ _ ⟨k+1,by omega,nG hinv (by assumption)⟩ (by omega) (by(try dsimp only);omega) (dL (Nat.le_refl _) (by repeat' (first| (with_reducible first|exact C1|refine C2 ?_ ?_)| ((with_reducible refine C0 ?_);exact CH (by assumption))| ((with_reducible refine D0 ?_);first|exact CA rfl|refine CJ ?_)|fail))))
 ·repeat' (first| (with_reducible first| (refine hK _ _ _ ?_;clear hK K)| (refine hB ?_;clear hA hB A B)|refine Z1 ?_|refine Z5 (by omega) ?_|refine hKX _ _ _ ?_)| (with_reducible first|refine Y2 fun K hK=> ?_|refine Y3 fun A B hA hB=> ?_)<;>(simp only[go_sem])| ((with_reducible first|refine Y8 ?_|refine Y9 ?_);try simp only[AQ.then,AQ.blk,reduceIte,Nat.reduceEqDiff])|fail)
  ·refine bJ hQ _ rfl rfl (nQ (Eq.symm (rI fun i hi=>hinv i (by omega))))
theorem yM {l:List Int} {f:FuncId} {caps caps0:List D1} {p:Int→Bool} {d:D} (hl:l.length<2^40) (hc:caps.all D1.dT=true) (hd:CvD H (fun _=>True) id 0 (dS (l.map aE)) d) (hk:CvD H (fun _=>True) id 0 (.one (.c (.clo f caps))) (.one (.c (.clo f caps0)))) (hf: ∀x∈l,∀(H:aA) (nx:Nat) (K:D→aA→Nat→Prop),K (dB (p x)) H nx→aB Tryz.prog f (dI x::caps.map fun d=>.one (.c d)) H nx K)
 (h:K (dI (aW p l)) H nx):aB Tryz.prog fK [d,.one (.c (.clo f caps0))] H nx K:=
 (yA l f caps p hl hc hf).pure rfl (aI ⟨hd,hk,trivial⟩) fun r hr=>hr▸h
theorem uO (l:List Int) (f:FuncId) (caps:List D1) (p:Int→Bool) (hl:l.length<2^40) (hc:caps.all D1.dT=true) (hf: ∀x∈l,∀(H:aA) (nx:Nat) (K:D→aA→Nat→Prop),K (dB (p x)) H nx→aB Tryz.prog f (dI x::caps.map fun d=>.one (.c d)) H nx K):
 aB Tryz.prog bP [dS (l.map aE),.one (.c (.clo f caps))] .nil 0 fun r _ _=>r.plain=true∧r=dB (decide (0≤aW p l)):=by
 refine tU rfl fun Q hQ=> ?_
 unfold gB
 repeat' (first| (with_reducible first| (refine hK _ _ _ ?_;clear hK K)|refine Z1 ?_)| (first| (with_reducible refine Y2 fun K hK=> ?_)| (refine yM hl hc (aF rfl) (iV hc) hf ?_))<;>(simp only[go_sem])| ((with_reducible refine Y8 ?_);try simp only[AQ.then,AQ.blk,reduceIte,Nat.reduceEqDiff])|fail)
 all_goals exact bJ hQ _ rfl rfl rfl
theorem eJ {l:List Int} {f:FuncId} {caps caps0:List D1} {p:Int→Bool} {d:D} (hl:l.length<2^40) (hc:caps.all D1.dT=true) (hd:CvD H (fun _=>True) id 0 (dS (l.map aE)) d) (hk:CvD H (fun _=>True) id 0 (.one (.c (.clo f caps))) (.one (.c (.clo f caps0)))) (hf: ∀x∈l,∀(H:aA) (nx:Nat) (K:D→aA→Nat→Prop),K (dB (p x)) H nx→aB Tryz.prog f (dI x::caps.map fun d=>.one (.c d)) H nx K)
 (h:K (dB (decide (0≤aW p l))) H nx):aB Tryz.prog bP [d,.one (.c (.clo f caps0))] H nx K:=
 (uO l f caps p hl hc hf).pure rfl (aI ⟨hd,hk,trivial⟩) fun r hr=>hr▸h
theorem rP (l:List Job) (f:FuncId) (caps:List D1) (p:Job→Bool) (hl:l.length<2^40) (hc:caps.all D1.dT=true) (hf: ∀x∈l,∀(H:aA) (nx:Nat) (K:D→aA→Nat→Prop),K (dB (p x)) H nx→aB Tryz.prog f (dA (aK x)::caps.map fun d=>.one (.c d)) H nx K):
 aB Tryz.prog bZ [dS (l.map aK),.one (.c (.clo f caps))] .nil 0 fun r _ _=>r.plain=true∧r=dI (aW p l):=by
 refine q9 rfl fun Q hQ=> ?_
 unfold fA
 repeat' (first| (with_reducible first| (refine hK _ _ _ ?_;clear hK K)|refine Z1 ?_|refine Z3 fun KB hKB=> ?_)| (with_reducible refine Y2 fun K hK=> ?_)<;>(simp only[go_sem])|fail)
 (have hKX:=hKB;clear hKB);(refine aQ.loop (α:={k:Nat//k≤l.length∧(∀i,i<k→p (l.getD i default)=false)}) (fun u=>en [(8,dI u.1),(7,dI l.length),(1,.one (.c (.clo f caps))),(0,dS (l.map aK))]) (fun _=>.nil) _ (fun u=>l.length-u.1) ⟨0,by omega,(by intros;first|trivial|omega)⟩ (dL (Nat.le_refl _) (by repeat' (first| (with_reducible first|exact C1|refine C2 ?_ ?_)| ((with_reducible refine C0 ?_);exact CH (by assumption))| ((with_reducible refine D0 ?_);first|exact CA rfl|refine CJ ?_)|fail))) ?_);(rintro⟨k,hk,hinv⟩ KL hKL)
 by_cases hlt:k<l.length
 ·have hmem:l.getD k default∈l:=by simp[List.getD,hlt]
  repeat' (first| (with_reducible first| (refine hK _ _ _ ?_;clear hK K)| (refine hA ?_;clear hA hB A B)| (refine hB ?_;clear hA hB A B)|refine Z1 ?_|refine Z2 ?_|refine Z3 fun KB hKB=> ?_|refine Z4 (by omega) ?_)| (first| (with_reducible first|refine Y2 fun K hK=> ?_|refine Y3 fun A B hA hB=> ?_)| (with_reducible refine hf _ hmem _ _ _ ?_))<;>(simp only[go_sem];try simp (disch:=omega) only[Iw])| ((with_reducible refine Y8 ?_);try simp only[AQ.then,AQ.blk,reduceIte,Nat.reduceEqDiff])| ((with_reducible refine Y0 ?_);simp only[AQ.then,AQ.blk])| ((with_reducible refine Z8 (fun h=> ?_) (fun h=> ?_))<;>try subst h)|refine⟨by omega,?_⟩| (with_reducible refine hKB _ _ _ ?_)|fail)
  ·refine bJ hQ _ rfl rfl (nQ (Eq.symm (AH (by omega) (by assumption) hinv)))
  · (refine hKL _ _ _ ⟨k+1,by omega,nG hinv (by assumption)⟩ (by omega) (by(try dsimp only);omega) (dL (Nat.le_refl _) (by repeat' (first| (with_reducible first|exact C1|refine C2 ?_ ?_)| ((with_reducible refine C0 ?_);exact CH (by assumption))| ((with_reducible refine D0 ?_);first|exact CA rfl|refine CJ ?_)|fail))))
 ·repeat' (first| (with_reducible first| (refine hK _ _ _ ?_;clear hK K)| (refine hB ?_;clear hA hB A B)|refine Z1 ?_|refine Z5 (by omega) ?_|refine hKX _ _ _ ?_)| (with_reducible first|refine Y2 fun K hK=> ?_|refine Y3 fun A B hA hB=> ?_)<;>(simp only[go_sem])| ((with_reducible first|refine Y8 ?_|refine Y9 ?_);try simp only[AQ.then,AQ.blk,reduceIte,Nat.reduceEqDiff])|fail)
  ·refine bJ hQ _ rfl rfl (nQ (Eq.symm (rI fun i hi=>hinv i (by omega))))
theorem jF {l:List Job} {f:FuncId} {caps caps0:List D1} {p:Job→Bool} {d:D} (hl:l.length<2^40) (hc:caps.all D1.dT=true) (hd:CvD H (fun _=>True) id 0 (dS (l.map aK)) d) (hk:CvD H (fun _=>True) id 0 (.one (.c (.clo f caps))) (.one (.c (.clo f caps0)))) (hf: ∀x∈l,∀(H:aA) (nx:Nat) (K:D→aA→Nat→Prop),K (dB (p x)) H nx→aB Tryz.prog f (dA (aK x)::caps.map fun d=>.one (.c d)) H nx K)
 (h:K (dI (aW p l)) H nx):aB Tryz.prog bZ [d,.one (.c (.clo f caps0))] H nx K:=
 (rP l f caps p hl hc hf).pure rfl (aI ⟨hd,hk,trivial⟩) fun r hr=>hr▸h
theorem pB (l:List Job) (f:FuncId) (caps:List D1) (p:Job→Bool) (hl:l.length<2^40) (hc:caps.all D1.dT=true) (hf: ∀x∈l,∀(H:aA) (nx:Nat) (K:D→aA→Nat→Prop),K (dB (p x)) H nx→aB Tryz.prog f (dA (aK x)::caps.map fun d=>.one (.c d)) H nx K):
 aB Tryz.prog cM [dS (l.map aK),.one (.c (.clo f caps))] .nil 0 fun r _ _=>r.plain=true∧r=dB (decide (0≤aW p l)):=by
 refine n9 rfl fun Q hQ=> ?_
 unfold eH
 repeat' (first| (with_reducible first| (refine hK _ _ _ ?_;clear hK K)| (refine hA ?_;clear hA hB A B)| (refine hB ?_;clear hA hB A B)|refine Z1 ?_|refine Z2 ?_|refine Z3 fun KB hKB=> ?_|refine Z4 (by omega) ?_|refine Z5 (by omega) ?_|refine Z6 (fun h=> ?_) fun h=> ?_|refine Z7 (fun h=> ?_) fun h=> ?_|refine fun(cap:Nat) (hcap:_≤cap)=> ?_|refine fun(hcp:_≤cap)=> ?_|refine fun(b:Bool)=> ?_|refine hKX _ _ _ ?_|refine hKY _ _ _ ?_|refine hKZ _ _ _ ?_)| (first| (with_reducible first|refine Y1 fun K hK=> ?_|refine Y2 fun K hK=> ?_|refine Y3 fun A B hA hB=> ?_|refine Y4 (by omega) ?_|refine Y5 (by omega) ?_|refine Y6 (fun h=> ?_) fun h=> ?_| (refine Y7 (fun h=> ?_) (fun h=> ?_)<;>try subst h))| (refine jF hl hc (aF rfl) (iV hc) hf ?_))<;>(simp only[go_sem];try simp (disch:=omega) only[Iw])| ((with_reducible first|refine Y8 ?_|refine Y9 ?_);try simp only[AQ.then,AQ.blk,reduceIte,Nat.reduceEqDiff])| ((with_reducible refine Y0 ?_);simp only[AQ.then,AQ.blk])| ((with_reducible refine Z8 (fun h=> ?_) (fun h=> ?_))<;>try subst h)|refine⟨by omega,?_⟩| (refine⟨by(rw[List.length_take];omega),?_⟩)| (with_reducible first|refine hKB _ _ _ ?_| (clear hKB KB;refine hKB _ _ _ ?_)| (clear hKB KB;clear hKB KB;refine hKB _ _ _ ?_))|fail)
 all_goals exact bJ hQ _ rfl rfl rfl
theorem oV {l:List Job} {f:FuncId} {caps caps0:List D1} {p:Job→Bool} {d:D} (hl:l.length<2^40) (hc:caps.all D1.dT=true) (hd:CvD H (fun _=>True) id 0 (dS (l.map aK)) d) (hk:CvD H (fun _=>True) id 0 (.one (.c (.clo f caps))) (.one (.c (.clo f caps0)))) (hf: ∀x∈l,∀(H:aA) (nx:Nat) (K:D→aA→Nat→Prop),K (dB (p x)) H nx→aB Tryz.prog f (dA (aK x)::caps.map fun d=>.one (.c d)) H nx K)
 (h:K (dB (decide (0≤aW p l))) H nx):aB Tryz.prog cM [d,.one (.c (.clo f caps0))] H nx K:=
 (pB l f caps p hl hc hf).pure rfl (aI ⟨hd,hk,trivial⟩) fun r hr=>hr▸h
theorem rO (l:List Req) (f:FuncId) (caps:List D1) (p:Req→Bool) (hl:l.length<2^40) (hc:caps.all D1.dT=true) (hf: ∀x∈l,∀(H:aA) (nx:Nat) (K:D→aA→Nat→Prop),K (dB (p x)) H nx→aB Tryz.prog f (dA (d9 x)::caps.map fun d=>.one (.c d)) H nx K):
 aB Tryz.prog dC [dS (l.map d9),.one (.c (.clo f caps))] .nil 0 fun r _ _=>r.plain=true∧r=dI (aW p l):=by
 refine qH rfl fun Q hQ=> ?_
 unfold fE
 repeat' (first| (with_reducible first| (refine hK _ _ _ ?_;clear hK K)|refine Z1 ?_|refine Z3 fun KB hKB=> ?_)| (with_reducible refine Y2 fun K hK=> ?_)<;>(simp only[go_sem])|fail)
 (have hKX:=hKB;clear hKB);(refine aQ.loop (α:={k:Nat//k≤l.length∧(∀i,i<k→p (l.getD i default)=false)}) (fun u=>en [(8,dI u.1),(7,dI l.length),(1,.one (.c (.clo f caps))),(0,dS (l.map d9))]) (fun _=>.nil) _ (fun u=>l.length-u.1) ⟨0,by omega,(by intros;first|trivial|omega)⟩ (dL (Nat.le_refl _) (by repeat' (first| (with_reducible first|exact C1|refine C2 ?_ ?_)| ((with_reducible refine C0 ?_);exact CH (by assumption))| ((with_reducible refine D0 ?_);first|exact CA rfl|refine CJ ?_)|fail))) ?_);(rintro⟨k,hk,hinv⟩ KL hKL)
 by_cases hlt:k<l.length
 ·have hmem:l.getD k default∈l:=by simp[List.getD,hlt]
  repeat' (first| (with_reducible first| (refine hK _ _ _ ?_;clear hK K)| (refine hA ?_;clear hA hB A B)| (refine hB ?_;clear hA hB A B)|refine Z1 ?_|refine Z2 ?_|refine Z3 fun KB hKB=> ?_|refine Z4 (by omega) ?_)| (first| (with_reducible first|refine Y2 fun K hK=> ?_|refine Y3 fun A B hA hB=> ?_)| (with_reducible refine hf _ hmem _ _ _ ?_))<;>(simp only[go_sem];try simp (disch:=omega) only[Iw])| ((with_reducible refine Y8 ?_);try simp only[AQ.then,AQ.blk,reduceIte,Nat.reduceEqDiff])| ((with_reducible refine Y0 ?_);simp only[AQ.then,AQ.blk])| ((with_reducible refine Z8 (fun h=> ?_) (fun h=> ?_))<;>try subst h)|refine⟨by omega,?_⟩| (with_reducible refine hKB _ _ _ ?_)|fail)
  ·refine bJ hQ _ rfl rfl (nQ (Eq.symm (AH (by omega) (by assumption) hinv)))
  · (refine hKL _ _ _ ⟨k+1,by omega,nG hinv (by assumption)⟩ (by omega) (by(try dsimp only);omega) (dL (Nat.le_refl _) (by repeat' (first| (with_reducible first|exact C1|refine C2 ?_ ?_)| ((with_reducible refine C0 ?_);exact CH (by assumption))| ((with_reducible refine D0 ?_);first|exact CA rfl|refine CJ ?_)|fail))))
 ·repeat' (first| (with_reducible first| (refine hK _ _ _ ?_;clear hK K)| (refine hB ?_;clear hA hB A B)|refine Z1 ?_|refine Z5 (by omega) ?_|refine hKX _ _ _ ?_)| (with_reducible first|refine Y2 fun K hK=> ?_|refine Y3 fun A B hA hB=> ?_)<;>(simp only[go_sem])| ((with_reducible first|refine Y8 ?_|refine Y9 ?_);try simp only[AQ.then,AQ.blk,reduceIte,Nat.reduceEqDiff])|fail)
  ·refine bJ hQ _ rfl rfl (nQ (Eq.symm (rI fun i hi=>hinv i (by omega))))
theorem rM {l:List Req} {f:FuncId} {caps caps0:List D1} {p:Req→Bool} {d:D} (hl:l.length<2^40) (hc:caps.all D1.dT=true) (hd:CvD H (fun _=>True) id 0 (dS (l.map d9)) d) (hk:CvD H (fun _=>True) id 0 (.one (.c (.clo f caps))) (.one (.c (.clo f caps0)))) (hf: ∀x∈l,∀(H:aA) (nx:Nat) (K:D→aA→Nat→Prop),K (dB (p x)) H nx→aB Tryz.prog f (dA (d9 x)::caps.map fun d=>.one (.c d)) H nx K)
 (h:K (dI (aW p l)) H nx):aB Tryz.prog dC [d,.one (.c (.clo f caps0))] H nx K:=
 (rO l f caps p hl hc hf).pure rfl (aI ⟨hd,hk,trivial⟩) fun r hr=>hr▸h
theorem o8 (l:List Req) (f:FuncId) (caps:List D1) (p:Req→Bool) (hl:l.length<2^40) (hc:caps.all D1.dT=true) (hf: ∀x∈l,∀(H:aA) (nx:Nat) (K:D→aA→Nat→Prop),K (dB (p x)) H nx→aB Tryz.prog f (dA (d9 x)::caps.map fun d=>.one (.c d)) H nx K):
 aB Tryz.prog cP [dS (l.map d9),.one (.c (.clo f caps))] .nil 0 fun r _ _=>r.plain=true∧r=dB (decide (0≤aW p l)):=by
 refine nY rfl fun Q hQ=> ?_
 unfold eB
 repeat' (first| (with_reducible first| (refine hK _ _ _ ?_;clear hK K)| (refine hA ?_;clear hA hB A B)| (refine hB ?_;clear hA hB A B)|refine Z1 ?_|refine Z2 ?_|refine Z3 fun KB hKB=> ?_|refine Z4 (by omega) ?_|refine Z5 (by omega) ?_|refine Z6 (fun h=> ?_) fun h=> ?_|refine Z7 (fun h=> ?_) fun h=> ?_|refine fun(cap:Nat) (hcap:_≤cap)=> ?_|refine fun(hcp:_≤cap)=> ?_|refine fun(b:Bool)=> ?_|refine hKX _ _ _ ?_|refine hKY _ _ _ ?_|refine hKZ _ _ _ ?_)| (first| (with_reducible first|refine Y1 fun K hK=> ?_|refine Y2 fun K hK=> ?_|refine Y3 fun A B hA hB=> ?_|refine Y4 (by omega) ?_|refine Y5 (by omega) ?_|refine Y6 (fun h=> ?_) fun h=> ?_| (refine Y7 (fun h=> ?_) (fun h=> ?_)<;>try subst h))| (refine rM hl hc (aF rfl) (iV hc) hf ?_))<;>(simp only[go_sem];try simp (disch:=omega) only[Iw])| ((with_reducible first|refine Y8 ?_|refine Y9 ?_);try simp only[AQ.then,AQ.blk,reduceIte,Nat.reduceEqDiff])| ((with_reducible refine Y0 ?_);simp only[AQ.then,AQ.blk])| ((with_reducible refine Z8 (fun h=> ?_) (fun h=> ?_))<;>try subst h)|refine⟨by omega,?_⟩| (refine⟨by(rw[List.length_take];omega),?_⟩)| (with_reducible first|refine hKB _ _ _ ?_| (clear hKB KB;refine hKB _ _ _ ?_)| (clear hKB KB;clear hKB KB;refine hKB _ _ _ ?_))|fail)
 all_goals exact bJ hQ _ rfl rfl rfl
theorem pG {l:List Req} {f:FuncId} {caps caps0:List D1} {p:Req→Bool} {d:D} (hl:l.length<2^40) (hc:caps.all D1.dT=true) (hd:CvD H (fun _=>True) id 0 (dS (l.map d9)) d) (hk:CvD H (fun _=>True) id 0 (.one (.c (.clo f caps))) (.one (.c (.clo f caps0)))) (hf: ∀x∈l,∀(H:aA) (nx:Nat) (K:D→aA→Nat→Prop),K (dB (p x)) H nx→aB Tryz.prog f (dA (d9 x)::caps.map fun d=>.one (.c d)) H nx K)
 (h:K (dB (decide (0≤aW p l))) H nx):aB Tryz.prog cP [d,.one (.c (.clo f caps0))] H nx K:=
 (o8 l f caps p hl hc hf).pure rfl (aI ⟨hd,hk,trivial⟩) fun r hr=>hr▸h
theorem pY (l:List (List Req)) (f:FuncId) (caps:List D1) (p:(List Req)→Bool) (hl:l.length<2^40) (hc:caps.all D1.dT=true) (hf: ∀x∈l,∀(H:aA) (nx:Nat) (K:D→aA→Nat→Prop),K (dB (p x)) H nx→aB Tryz.prog f (dS (x.map d9)::caps.map fun d=>.one (.c d)) H nx K):
 aB Tryz.prog cT [dS (l.map oQ),.one (.c (.clo f caps))] .nil 0 fun r _ _=>r.plain=true∧r=dI (aW p l):=by
 refine pE rfl fun Q hQ=> ?_
 unfold eN
 repeat' (first| (with_reducible first| (refine hK _ _ _ ?_;clear hK K)|refine Z1 ?_|refine Z3 fun KB hKB=> ?_)| (with_reducible refine Y2 fun K hK=> ?_)<;>(simp only[go_sem])|fail)
 (have hKX:=hKB;clear hKB);(refine aQ.loop (α:={k:Nat//k≤l.length∧(∀i,i<k→p (l.getD i default)=false)}) (fun u=>en [(8,dI u.1),(7,dI l.length),(1,.one (.c (.clo f caps))),(0,dS (l.map oQ))]) (fun _=>.nil) _ (fun u=>l.length-u.1) ⟨0,by omega,(by intros;first|trivial|omega)⟩ (dL (Nat.le_refl _) (by repeat' (first| (with_reducible first|exact C1|refine C2 ?_ ?_)| ((with_reducible refine C0 ?_);exact CH (by assumption))| ((with_reducible refine D0 ?_);first|exact CA rfl|refine CJ ?_)|fail))) ?_);(rintro⟨k,hk,hinv⟩ KL hKL)
 by_cases hlt:k<l.length
 ·have hmem:l.getD k default∈l:=by simp[List.getD,hlt]
  repeat' (first| (with_reducible first| (refine hK _ _ _ ?_;clear hK K)| (refine hA ?_;clear hA hB A B)| (refine hB ?_;clear hA hB A B)|refine Z1 ?_|refine Z2 ?_|refine Z3 fun KB hKB=> ?_|refine Z4 (by omega) ?_)| (first| (with_reducible first|refine Y2 fun K hK=> ?_|refine Y3 fun A B hA hB=> ?_)| (with_reducible refine hf _ hmem _ _ _ ?_))<;>(simp only[go_sem];try simp (disch:=omega) only[Iw])| ((with_reducible refine Y8 ?_);try simp only[AQ.then,AQ.blk,reduceIte,Nat.reduceEqDiff])| ((with_reducible refine Y0 ?_);simp only[AQ.then,AQ.blk])| ((with_reducible refine Z8 (fun h=> ?_) (fun h=> ?_))<;>try subst h)|refine⟨by omega,?_⟩| (with_reducible refine hKB _ _ _ ?_)|fail)
  ·refine bJ hQ _ rfl rfl (nQ (Eq.symm (AH (by omega) (by assumption) hinv)))
  · (refine hKL _ _ _ ⟨k+1,by omega,nG hinv (by assumption)⟩ (by omega) (by(try dsimp only);omega) (dL (Nat.le_refl _) (by repeat' (first| (with_reducible first|exact C1|refine C2 ?_ ?_)| ((with_reducible refine C0 ?_);exact CH (by assumption))| ((with_reducible refine D0 ?_);first|exact CA rfl|refine CJ ?_)|fail))))
 ·repeat' (first| (with_reducible first| (refine hK _ _ _ ?_;clear hK K)| (refine hB ?_;clear hA hB A B)|refine Z1 ?_|refine Z5 (by omega) ?_|refine hKX _ _ _ ?_)| (with_reducible first|refine Y2 fun K hK=> ?_|refine Y3 fun A B hA hB=> ?_)<;>(simp only[go_sem])| ((with_reducible first|refine Y8 ?_|refine Y9 ?_);try simp only[AQ.then,AQ.blk,reduceIte,Nat.reduceEqDiff])|fail)
  ·refine bJ hQ _ rfl rfl (nQ (Eq.symm (rI fun i hi=>hinv i (by omega))))
theorem pT {l:List (List Req)} {f:FuncId} {caps caps0:List D1} {p:(List Req)→Bool} {d:D} (hl:l.length<2^40) (hc:caps.all D1.dT=true) (hd:CvD H (fun _=>True) id 0 (dS (l.map oQ)) d) (hk:CvD H (fun _=>True) id 0 (.one (.c (.clo f caps))) (.one (.c (.clo f caps0)))) (hf: ∀x∈l,∀(H:aA) (nx:Nat) (K:D→aA→Nat→Prop),K (dB (p x)) H nx→aB Tryz.prog f (dS (x.map d9)::caps.map fun d=>.one (.c d)) H nx K)
 (h:K (dI (aW p l)) H nx):aB Tryz.prog cT [d,.one (.c (.clo f caps0))] H nx K:=
 (pY l f caps p hl hc hf).pure rfl (aI ⟨hd,hk,trivial⟩) fun r hr=>hr▸h
theorem nX (l:List (List Req)) (f:FuncId) (caps:List D1) (p:(List Req)→Bool) (hl:l.length<2^40) (hc:caps.all D1.dT=true) (hf: ∀x∈l,∀(H:aA) (nx:Nat) (K:D→aA→Nat→Prop),K (dB (p x)) H nx→aB Tryz.prog f (dS (x.map d9)::caps.map fun d=>.one (.c d)) H nx K):
 aB Tryz.prog cF [dS (l.map oQ),.one (.c (.clo f caps))] .nil 0 fun r _ _=>r.plain=true∧r=dB (decide (0≤aW p l)):=by
 refine mZ rfl fun Q hQ=> ?_
 unfold dR
 repeat' (first| (with_reducible first| (refine hK _ _ _ ?_;clear hK K)| (refine hA ?_;clear hA hB A B)| (refine hB ?_;clear hA hB A B)|refine Z1 ?_|refine Z2 ?_|refine Z3 fun KB hKB=> ?_|refine Z4 (by omega) ?_|refine Z5 (by omega) ?_|refine Z6 (fun h=> ?_) fun h=> ?_|refine Z7 (fun h=> ?_) fun h=> ?_|refine fun(cap:Nat) (hcap:_≤cap)=> ?_|refine fun(hcp:_≤cap)=> ?_|refine fun(b:Bool)=> ?_|refine hKX _ _ _ ?_|refine hKY _ _ _ ?_|refine hKZ _ _ _ ?_)| (first| (with_reducible first|refine Y1 fun K hK=> ?_|refine Y2 fun K hK=> ?_|refine Y3 fun A B hA hB=> ?_|refine Y4 (by omega) ?_|refine Y5 (by omega) ?_|refine Y6 (fun h=> ?_) fun h=> ?_| (refine Y7 (fun h=> ?_) (fun h=> ?_)<;>try subst h))| (refine pT hl hc (aF rfl) (iV hc) hf ?_))<;>(simp only[go_sem];try simp (disch:=omega) only[Iw])| ((with_reducible first|refine Y8 ?_|refine Y9 ?_);try simp only[AQ.then,AQ.blk,reduceIte,Nat.reduceEqDiff])| ((with_reducible refine Y0 ?_);simp only[AQ.then,AQ.blk])| ((with_reducible refine Z8 (fun h=> ?_) (fun h=> ?_))<;>try subst h)|refine⟨by omega,?_⟩| (refine⟨by(rw[List.length_take];omega),?_⟩)| (with_reducible first|refine hKB _ _ _ ?_| (clear hKB KB;refine hKB _ _ _ ?_)| (clear hKB KB;clear hKB KB;refine hKB _ _ _ ?_))|fail)
 all_goals exact bJ hQ _ rfl rfl rfl
theorem nO {l:List (List Req)} {f:FuncId} {caps caps0:List D1} {p:(List Req)→Bool} {d:D} (hl:l.length<2^40) (hc:caps.all D1.dT=true) (hd:CvD H (fun _=>True) id 0 (dS (l.map oQ)) d) (hk:CvD H (fun _=>True) id 0 (.one (.c (.clo f caps))) (.one (.c (.clo f caps0)))) (hf: ∀x∈l,∀(H:aA) (nx:Nat) (K:D→aA→Nat→Prop),K (dB (p x)) H nx→aB Tryz.prog f (dS (x.map d9)::caps.map fun d=>.one (.c d)) H nx K)
 (h:K (dB (decide (0≤aW p l))) H nx):aB Tryz.prog cF [d,.one (.c (.clo f caps0))] H nx K:=
 (nX l f caps p hl hc hf).pure rfl (aI ⟨hd,hk,trivial⟩) fun r hr=>hr▸h
end
end Go.Proofs.YtegiblhkjfiooaaGreat
end
section
namespace Go.Proofs.YtegiblhkjfiooaaGreat
open Go Go.AM
set_option maxRecDepth 100000
section
variable {H : aA} {nx : Nat} {K : D → aA → Nat → Prop}
theorem NV (r:Rng) (addr:Int):aB Tryz.prog oO [dA (eY r),.one (.c (.dN [cI addr]))] .nil 0 fun rr _ _=>rr.plain=true∧rr=dB (inR r addr):=by
 refine K1 rfl fun Q hQ=> ?_
 unfold sW
 repeat' (first| (with_reducible first| (refine hK _ _ _ ?_;clear hK K)|refine Z1 ?_)| (first| (with_reducible refine Y2 fun K hK=> ?_)| (with_reducible refine eG ?_))<;>(simp only[go_sem])| ((with_reducible refine Y8 ?_);try simp only[AQ.then,AQ.blk,reduceIte,Nat.reduceEqDiff])|fail)
 all_goals first|with_reducible refine bJ hQ _ rfl rfl ?_|skip
 all_goals exact pF Iff.rfl
theorem OA {r:Rng} {addr:Int} (h:K (dB (inR r addr)) H nx):aB Tryz.prog oO [dA (eY r),.one (.c (.dN [cI addr]))] H nx K:=
 (NV r addr).pure rfl (aI ⟨aF rfl,aF rfl,trivial⟩) (fun r hr=>hr▸h)
theorem SB (l:List Rng) (addr:Int) (hl:l.length<2^40):aB Tryz.prog sG [dS (l.map eY),dI addr] .nil 0 fun rr _ _=>rr.plain=true∧rr=dI (aW (inR · addr) l):=by
 refine P5 rfl fun Q hQ=> ?_
 unfold wU
 repeat' (first| (with_reducible first| (refine hK _ _ _ ?_;clear hK K)|refine Z1 ?_)| (first| (with_reducible refine Y2 fun K hK=> ?_)| (refine gX (caps:=[.dN [cI addr]]) (p:=(inR · addr)) hl rfl (aF rfl) (HQ ⟨qB rfl trivial rfl rfl rfl,trivial⟩) (fun x _ H nx K h=>OA h) ?_))<;>(simp only[go_sem])| ((with_reducible refine Y8 ?_);try simp only[AQ.then,AQ.blk,reduceIte,Nat.reduceEqDiff])|fail)
 all_goals first|with_reducible refine bJ hQ _ rfl rfl ?_|skip
 all_goals first|rfl|exact nQ (by omega)
theorem TX {l:List Rng} {addr:Int} (hl:l.length<2^40) (h:K (dI (aW (inR · addr) l)) H nx):aB Tryz.prog sG [dS (l.map eY),dI addr] H nx K:=
 (SB l addr hl).pure rfl (aI ⟨aF rfl,aF rfl,trivial⟩) (fun r hr=>hr▸h)
theorem QS (q r:Rng):aB Tryz.prog sX [dA (eY q),.one (.c (.dN (eY r)))] .nil 0 fun rr _ _=>rr.plain=true∧rr=dB (abL q r):=by
 refine PS rfl fun Q hQ=> ?_
 unfold xD
 repeat' (first| (with_reducible first| (refine hK _ _ _ ?_;clear hK K)|refine Z1 ?_)| (with_reducible first|refine Y2 fun K hK=> ?_|refine Y6 (fun h=> ?_) fun h=> ?_)<;>(simp only[go_sem])| ((with_reducible refine Y8 ?_);try simp only[AQ.then,AQ.blk,reduceIte,Nat.reduceEqDiff])|fail)
 all_goals first|with_reducible refine bJ hQ _ rfl rfl ?_|skip
 all_goals unfold abL
 all_goals first|exact pF (by omega)|exact wT (by omega)|exact pO (by omega)
theorem SZ {q:Rng} {r:Rng} (h:K (dB (abL q r)) H nx):aB Tryz.prog sX [dA (eY q),.one (.c (.dN (eY r)))] H nx K:=
 (QS q r).pure rfl (aI ⟨aF rfl,aF rfl,trivial⟩) (fun r hr=>hr▸h)
theorem XF (l:List Rng) (hl:l.length<2^40):aB Tryz.prog xZ [dS (l.map eY)] .nil 0 fun rr _ _=>rr.plain=true∧rr=dB (decide (D3 l)):=by
 refine UU rfl fun Q hQ=> ?_
 unfold BO
 repeat' (first| (with_reducible first| (refine hK _ _ _ ?_;clear hK K)|refine Z1 ?_|refine Z3 fun KB hKB=> ?_)| (with_reducible refine Y2 fun K hK=> ?_)<;>(simp only[go_sem])|fail)
 (have hKX:=hKB;clear hKB);(refine aQ.loop (α:={k:Nat//k≤l.length∧(∀i,i<k→WU l i)}) (fun u=>en [(7,dI u.1),(6,dI l.length),(5,dS (l.map eY)),(0,dS (l.map eY))]) (fun _=>.nil) _ (fun u=>l.length-u.1) ⟨0,by omega,(by intros;first|trivial|omega)⟩ (dL (Nat.le_refl _) (by repeat' (first| (with_reducible first|exact C1|refine C2 ?_ ?_)| ((with_reducible refine D0 ?_);exact CA rfl)|fail))) ?_);(rintro⟨k,hk,hinv⟩ KL hKL)
 by_cases hlt:k<l.length
 ·repeat' (first| (with_reducible first| (refine hK _ _ _ ?_;clear hK K)| (refine hA ?_;clear hA hB A B)| (refine hB ?_;clear hA hB A B)|refine Z1 ?_|refine Z2 ?_|refine Z3 fun KB hKB=> ?_|refine Z4 (by omega) ?_|refine Z6 (fun h=> ?_) fun h=> ?_)| (first| (with_reducible first|refine Y2 fun K hK=> ?_|refine Y3 fun A B hA hB=> ?_|refine Y6 (fun h=> ?_) fun h=> ?_)| (with_reducible refine eG ?_)| (refine mE (l:=l.take k) (caps:=[.dN (eY (l.getD k default))]) (p:=fun q=>abL q (l.getD k default)) (by simp;omega) rfl (aF rfl) (HQ ⟨qB rfl trivial rfl rfl rfl,trivial⟩) (fun x _ H nx K h=>SZ h) ?_))<;>(simp only[go_sem];try simp (disch:=omega) only[Iw])| ((with_reducible refine Y8 ?_);try simp only[AQ.then,AQ.blk,reduceIte,Nat.reduceEqDiff])| ((with_reducible refine Y0 ?_);simp only[AQ.then,AQ.blk])|refine⟨by omega,?_⟩| (with_reducible refine hKB _ _ _ ?_)|fail)
  all_goals first
   | (refine bJ hQ _ rfl rfl (pO fun hm=> ?_);have:=(hm.2 k hlt);unfold WU QQ at this;omega)
   | (refine hKL _ _ _ ⟨k+1,by omega,nG hinv (by unfold WU QQ;omega)⟩ (by omega) (by(try dsimp only);omega) (dL (Nat.le_refl _) (by repeat' (first| (with_reducible first|exact C1|refine C2 ?_ ?_)| ((with_reducible refine D0 ?_);exact CA rfl)|fail))))
 ·repeat' (first| (with_reducible first| (refine hK _ _ _ ?_;clear hK K)| (refine hB ?_;clear hA hB A B)|refine Z1 ?_|refine Z5 (by omega) ?_|refine hKX _ _ _ ?_)| (with_reducible first|refine Y2 fun K hK=> ?_|refine Y3 fun A B hA hB=> ?_)<;>(simp only[go_sem])| ((with_reducible first|refine Y8 ?_|refine Y9 ?_);try simp only[AQ.then,AQ.blk,reduceIte,Nat.reduceEqDiff])|fail)
  have hk2:k=l.length:=by omega
  subst hk2
  exact bJ hQ _ rfl rfl (pF ⟨fun h=>⟨h,hinv⟩,fun h=>h.1⟩)
theorem XU {l:List Rng} (hl:l.length<2^40) (h:K (dB (decide (D3 l))) H nx):aB Tryz.prog xZ [dS (l.map eY)] H nx K:=
 (XF l hl).pure rfl (aI ⟨aF rfl,trivial⟩) (fun r hr=>hr▸h)
theorem G2 (q:Req):aB Tryz.prog fG [dA (d9 q)] .nil 0 fun rr _ _=>rr.plain=true∧rr=dB (wrM q):=by
 refine FC rfl fun Q hQ=> ?_
 unfold mJ
 repeat' (first| (with_reducible first| (refine hK _ _ _ ?_;clear hK K)|refine Z1 ?_)| (with_reducible first|refine Y2 fun K hK=> ?_|refine Y6 (fun h=> ?_) fun h=> ?_)<;>(simp only[go_sem])| ((with_reducible refine Y8 ?_);try simp only[AQ.then,AQ.blk,reduceIte,Nat.reduceEqDiff])|fail)
 all_goals first|with_reducible refine bJ hQ _ rfl rfl ?_|skip
 all_goals unfold wrM
 all_goals first|exact pF (by omega)|exact wT (by omega)|exact pO (by omega)|rfl
theorem cG {q:Req} (h:K (dB (wrM q)) H nx):aB Tryz.prog fG [dA (d9 q)] H nx K:=
 (G2 q).pure rfl (aI ⟨aF rfl,trivial⟩) (fun r hr=>hr▸h)
theorem MC (n:Int):aB Tryz.prog mU [dI n] .nil 0 fun rr _ _=>rr.plain=true∧rr=dB (decide (¬(0≤n∧n≤65535))):=by
 refine JZ rfl fun Q hQ=> ?_
 unfold rC
 repeat' (first| (with_reducible first| (refine hK _ _ _ ?_;clear hK K)|refine Z1 ?_)| (first| (with_reducible refine Y2 fun K hK=> ?_)| (with_reducible refine UK ?_))<;>(simp only[go_sem])| ((with_reducible refine Y8 ?_);try simp only[AQ.then,AQ.blk,reduceIte,Nat.reduceEqDiff])|fail)
 all_goals first|with_reducible refine bJ hQ _ rfl rfl ?_|skip
 all_goals first|exact pF (by omega)|exact wT (by omega)|exact pO (by omega)|rfl
theorem MJ {n:Int} (h:K (dB (decide (¬(0≤n∧n≤65535)))) H nx):aB Tryz.prog mU [dI n] H nx K:=
 (MC n).pure rfl (aI ⟨aF rfl,trivial⟩) (fun r hr=>hr▸h)
theorem TC (n:Int):aB Tryz.prog sJ [dI n] .nil 0 fun rr _ _=>rr.plain=true∧rr=dB (decide (¬(-1≤n∧n≤63))):=by
 refine PV rfl fun Q hQ=> ?_
 unfold xJ
 repeat' (first| (with_reducible first| (refine hK _ _ _ ?_;clear hK K)|refine Z1 ?_)| (first| (with_reducible refine Y2 fun K hK=> ?_)| (with_reducible refine eG ?_))<;>(simp only[go_sem])| ((with_reducible refine Y8 ?_);try simp only[AQ.then,AQ.blk,reduceIte,Nat.reduceEqDiff])|fail)
 all_goals first|with_reducible refine bJ hQ _ rfl rfl ?_|skip
 all_goals first|exact pF (by omega)|exact wT (by omega)|exact pO (by omega)|rfl
theorem TB {n:Int} (h:K (dB (decide (¬(-1≤n∧n≤63)))) H nx):aB Tryz.prog sJ [dI n] H nx K:=
 (TC n).pure rfl (aI ⟨aF rfl,trivial⟩) (fun r hr=>hr▸h)
theorem TJ (n:Int):aB Tryz.prog sT [dI n] .nil 0 fun rr _ _=>rr.plain=true∧rr=dB (decide (¬(0≤n∧n≤3))):=by
 refine PT rfl fun Q hQ=> ?_
 unfold wR
 repeat' (first| (with_reducible first| (refine hK _ _ _ ?_;clear hK K)|refine Z1 ?_)| (first| (with_reducible refine Y2 fun K hK=> ?_)| (with_reducible refine eG ?_))<;>(simp only[go_sem])| ((with_reducible refine Y8 ?_);try simp only[AQ.then,AQ.blk,reduceIte,Nat.reduceEqDiff])|fail)
 all_goals first|with_reducible refine bJ hQ _ rfl rfl ?_|skip
 all_goals first|exact pF (by omega)|exact wT (by omega)|exact pO (by omega)|rfl
theorem QT {n:Int} (h:K (dB (decide (¬(0≤n∧n≤3)))) H nx):aB Tryz.prog sT [dI n] H nx K:=
 (TJ n).pure rfl (aI ⟨aF rfl,trivial⟩) (fun r hr=>hr▸h)
theorem SO (n:Int):aB Tryz.prog sD [dI n] .nil 0 fun rr _ _=>rr.plain=true∧rr=dB (decide (¬(0≤n∧n≤3))):=by
 refine O5 rfl fun Q hQ=> ?_
 unfold wY
 repeat' (first| (with_reducible first| (refine hK _ _ _ ?_;clear hK K)|refine Z1 ?_)| (first| (with_reducible refine Y2 fun K hK=> ?_)| (with_reducible refine eG ?_))<;>(simp only[go_sem])| ((with_reducible refine Y8 ?_);try simp only[AQ.then,AQ.blk,reduceIte,Nat.reduceEqDiff])|fail)
 all_goals first|with_reducible refine bJ hQ _ rfl rfl ?_|skip
 all_goals first|exact pF (by omega)|exact wT (by omega)|exact pO (by omega)|rfl
theorem R6 {n:Int} (h:K (dB (decide (¬(0≤n∧n≤3)))) H nx):aB Tryz.prog sD [dI n] H nx K:=
 (SO n).pure rfl (aI ⟨aF rfl,trivial⟩) (fun r hr=>hr▸h)
theorem P3 (l:List Int) (hl:l.length<2^40):aB Tryz.prog jP [dS (l.map aE)] .nil 0 fun rr _ _=>rr.plain=true∧rr=dB (decide (All l 0 65535)):=by
 refine NA rfl fun Q hQ=> ?_
 unfold uJ
 repeat' (first| (with_reducible first| (refine hK _ _ _ ?_;clear hK K)|refine Z1 ?_)| (first| (with_reducible refine Y2 fun K hK=> ?_)| (refine eJ (caps:=[]) (p:=fun x=>decide (¬(0≤x∧x≤65535))) hl rfl (aF rfl) (iV rfl) (fun x _ H nx K h=>MJ h) ?_))<;>(simp only[go_sem])| ((with_reducible refine Y8 ?_);try simp only[AQ.then,AQ.blk,reduceIte,Nat.reduceEqDiff])|fail)
 all_goals first|with_reducible refine bJ hQ _ rfl rfl ?_|skip
 all_goals exact pF LO.symm
theorem wZ {l:List Int} (hl:l.length<2^40) {d0:D} (hd0:CvD H (fun _=>True) id 0 (dS (l.map aE)) d0) (h:K (dB (decide (All l 0 65535))) H nx):aB Tryz.prog jP [d0] H nx K:=
 (P3 l hl).pure rfl (aI ⟨hd0,trivial⟩) (fun r hr=>hr▸h)
end
end Go.Proofs.YtegiblhkjfiooaaGreat
end
section
namespace Go.Proofs.YtegiblhkjfiooaaGreat
open Go Go.AM
set_option maxRecDepth 100000
set_option maxHeartbeats 4000000
section
variable {H : aA} {nx : Nat} {K : D → aA → Nat → Prop}
theorem YL (l:List Int) (hl:l.length<2^40):aB Tryz.prog yC [dA [.isl (l.map aE)]] .nil 0 fun rr _ _=>rr.plain=true∧rr=dB (decide ((l.length:Int)=64∧All l 0 65535)):=by
 refine VY rfl fun Q hQ=> ?_
 unfold BM
 repeat' (first| (with_reducible first| (refine hK _ _ _ ?_;clear hK K)|refine Z1 ?_)| (first| (with_reducible first|refine Y2 fun K hK=> ?_|refine Y6 (fun h=> ?_) fun h=> ?_)| (refine wZ hl (aF rfl) ?_))<;>(simp only[go_sem])| ((with_reducible refine Y8 ?_);try simp only[AQ.then,AQ.blk,reduceIte,Nat.reduceEqDiff])|fail)
 all_goals first|with_reducible refine bJ hQ _ rfl rfl ?_|skip
 all_goals first|exact pO (by grind)|exact pF (by grind)
theorem XA {l:List Int} (hl:l.length<2^40) {d0:D} (hd0:CvD H (fun _=>True) id 0 (dA [.isl (l.map aE)]) d0) (h:K (dB (decide ((l.length:Int)=64∧All l 0 65535))) H nx):aB Tryz.prog yC [d0] H nx K:=
 (YL l hl).pure rfl (aI ⟨hd0,trivial⟩) (fun r hr=>hr▸h)
theorem YA (w u:List Int) (hw:w.length<2^40) (hu:u.length<2^40):aB Tryz.prog sE [dA [.isl (w.map aE),.isl (u.map aE)]] .nil 0 fun rr _ _=>rr.plain=true∧rr=dB (decide (KT w u)):=by
 refine VG rfl fun Q hQ=> ?_
 unfold BR
 repeat' (first| (with_reducible first| (refine hK _ _ _ ?_;clear hK K)|refine Z1 ?_)| (first| (with_reducible first|refine Y2 fun K hK=> ?_|refine Y6 (fun h=> ?_) fun h=> ?_)| (refine XA hw (aF rfl) ?_)| (refine eJ (l:=u) (caps:=[]) (p:=fun x=>decide (¬(-1≤x∧x≤63))) hu rfl (aF rfl) (iV rfl) (fun x _ H nx K h=>TB h) ?_))<;>(simp only[go_sem])| ((with_reducible refine Y8 ?_);try simp only[AQ.then,AQ.blk,reduceIte,Nat.reduceEqDiff])|fail)
 all_goals first|with_reducible refine bJ hQ _ rfl rfl ?_|skip
 all_goals first|exact pO (by unfold KT;rw[LO (lo:=-1)];grind)|exact pF (by unfold KT;rw[LO (lo:=-1)];grind)
theorem MF {w:List Int} {u:List Int} (hw:w.length<2^40) (hu:u.length<2^40) {d0:D} (hd0:CvD H (fun _=>True) id 0 (dA [.isl (w.map aE),.isl (u.map aE)]) d0) (h:K (dB (decide (KT w u))) H nx):aB Tryz.prog sE [d0] H nx K:=
 (YA w u hw hu).pure rfl (aI ⟨hd0,trivial⟩) (fun r hr=>hr▸h)
theorem YR (q:Req) (hd:q.data.length<2^40) (hl:q.lanes.length<2^40):aB Tryz.prog x6 [dA (d9 q)] .nil 0 fun rr _ _=>rr.plain=true∧rr=dB (decide (gH q)):=by
 refine VO rfl fun Q hQ=> ?_
 unfold A0
 repeat' (first| (with_reducible first| (refine hK _ _ _ ?_;clear hK K)| (refine hA ?_;clear hA hB A B)| (refine hB ?_;clear hA hB A B)|refine Z1 ?_|refine Z2 ?_)| (first| (with_reducible first|refine Y2 fun K hK=> ?_|refine Y3 fun A B hA hB=> ?_|refine Y6 (fun h=> ?_) fun h=> ?_)| (with_reducible refine eG ?_)| (with_reducible refine cG ?_)| (with_reducible refine x7 ?_)| (refine wZ hd (aF rfl) ?_)| (refine eJ (l:=q.lanes) (caps:=[]) (p:=fun x=>decide (¬(0≤x∧x≤3))) hl rfl (aF rfl) (iV rfl) (fun x _ H nx K h=>R6 h) ?_))<;>(simp only[go_sem])| ((with_reducible refine Y8 ?_);try simp only[AQ.then,AQ.blk,reduceIte,Nat.reduceEqDiff])| ((with_reducible refine Z8 (fun h=> ?_) (fun h=> ?_))<;>try subst h)|fail)
 all_goals first|with_reducible refine bJ hQ _ rfl rfl ?_|skip
 all_goals
  have e:=@LO q.lanes 0 3
  have e2:wrM q=true↔(q.kind=2∨q.kind=4):=by simp[wrM]
  clear hQ
  first|exact pO (by unfold gH rZ;grind)|exact wT (by unfold gH rZ;grind)|exact pF (by unfold gH rZ;grind)
theorem X6 {q:Req} (hd:q.data.length<2^40) (hl:q.lanes.length<2^40) (h:K (dB (decide (gH q))) H nx):aB Tryz.prog x6 [dA (d9 q)] H nx K:=
 (YR q hd hl).pure rfl (aI ⟨aF rfl,trivial⟩) (fun r hr=>hr▸h)
theorem MX (q:Req) (hd:q.data.length<2^40) (hl:q.lanes.length<2^40):aB Tryz.prog oP [dA (d9 q)] .nil 0 fun rr _ _=>rr.plain=true∧rr=dB (decide (¬gH q)):=by
 refine LM rfl fun Q hQ=> ?_
 unfold sI
 repeat' (first| (with_reducible first| (refine hK _ _ _ ?_;clear hK K)|refine Z1 ?_)| (first| (with_reducible refine Y2 fun K hK=> ?_)| (with_reducible refine X6 hd hl ?_))<;>(simp only[go_sem])| ((with_reducible refine Y8 ?_);try simp only[AQ.then,AQ.blk,reduceIte,Nat.reduceEqDiff])|fail)
 all_goals first|with_reducible refine bJ hQ _ rfl rfl ?_|skip
 all_goals first|exact pF (by omega)|exact wT (by omega)|exact pO (by omega)|rfl
theorem N4 {q:Req} (hd:q.data.length<2^40) (hl:q.lanes.length<2^40) (h:K (dB (decide (¬gH q))) H nx):aB Tryz.prog oP [dA (d9 q)] H nx K:=
 (MX q hd hl).pure rfl (aI ⟨aF rfl,trivial⟩) (fun r hr=>hr▸h)
theorem RU (p:Prog) (hp:p.length<2^40) (hq: ∀q∈p,q.data.length<2^40∧q.lanes.length<2^40):aB Tryz.prog sA [dS (p.map d9)] .nil 0 fun rr _ _=>rr.plain=true∧rr=dB (decide (¬qA p)):=by
 refine PY rfl fun Q hQ=> ?_
 unfold xL
 repeat' (first| (with_reducible first| (refine hK _ _ _ ?_;clear hK K)|refine Z1 ?_)| (first| (with_reducible first|refine Y2 fun K hK=> ?_|refine Y6 (fun h=> ?_) fun h=> ?_)| (refine pG (l:=p) (caps:=[]) (p:=fun q=>decide (¬gH q)) hp rfl (aF rfl) (iV rfl) (fun x hx H nx K h=>N4 (hq x hx).1 (hq x hx).2 h) ?_))<;>(simp only[go_sem])| ((with_reducible refine Y8 ?_);try simp only[AQ.then,AQ.blk,reduceIte,Nat.reduceEqDiff])|fail)
 all_goals first|with_reducible refine bJ hQ _ rfl rfl ?_|skip
 all_goals first|exact wT (by unfold qA;grind)|exact pO (by unfold qA;grind)|exact pF (by unfold qA;grind)
theorem SK {p:Prog} (hp:p.length<2^40) (hq: ∀q∈p,q.data.length<2^40∧q.lanes.length<2^40) (h:K (dB (decide (¬qA p))) H nx):aB Tryz.prog sA [dS (p.map d9)] H nx K:=
 (RU p hp hq).pure rfl (aI ⟨aF rfl,trivial⟩) (fun r hr=>hr▸h)
theorem X8 (c:Cfg) (hc:kC c):aB Tryz.prog sV [dA (cH c)] .nil 0 fun rr _ _=>rr.plain=true∧rr=dB (decide (aY c)):=by
 refine UH rfl fun Q hQ=> ?_
 unfold AU
 repeat' (first| (with_reducible first| (refine hK _ _ _ ?_;clear hK K)|refine Z1 ?_)| (first| (with_reducible first|refine Y2 fun K hK=> ?_|refine Y6 (fun h=> ?_) fun h=> ?_)| (with_reducible refine XU hc.map ?_)| (refine eJ (l:=c.lat) (caps:=[]) (p:=fun x=>decide (¬(0≤x∧x≤3))) hc.lat rfl (aF rfl) (iV rfl) (fun x _ H nx K h=>QT h) ?_)| (refine nO (l:=c.dG) (caps:=[]) (p:=fun q=>decide (¬qA q)) hc.dG rfl (aF rfl) (iV rfl) (fun x hx H nx K h=>SK (hc.prog x hx) (hc.req x hx) h) ?_))<;>(simp only[go_sem])| ((with_reducible refine Y8 ?_);try simp only[AQ.then,AQ.blk,reduceIte,Nat.reduceEqDiff])|fail)
 all_goals first|with_reducible refine bJ hQ _ rfl rfl ?_|skip
 all_goals
  have e:=@LO c.lat 0 3
  first|exact wT (by unfold aY;grind)|exact pO (by unfold aY;grind)|exact pF (by unfold aY;grind)
theorem EG {c:Cfg} (hc:kC c) (h:K (dB (decide (aY c))) H nx):aB Tryz.prog sV [dA (cH c)] H nx K:=
 (X8 c hc).pure rfl (aI ⟨aF rfl,trivial⟩) (fun r hr=>hr▸h)
end
end Go.Proofs.YtegiblhkjfiooaaGreat
end
section
namespace Go.Proofs.YtegiblhkjfiooaaGreat
open Go Go.AM
set_option maxRecDepth 100000
set_option maxHeartbeats 4000000
section
variable {H : aA} {nx : Nat} {K : D → aA → Nat → Prop}
theorem J0 (c:Cfg) (who n:Int) (hc:kC c) (hp:c.dG.length=3):aB Tryz.prog lT [dA (cH c),dI who,dI n] .nil 0 fun rr _ _=>rr.plain=true∧rr=dB (decide (hT c who n)):=by
 refine IT rfl fun Q hQ=> ?_
 unfold o7
 have hb:=hc.at who.toNat
 repeat' (first| (with_reducible first| (refine hK _ _ _ ?_;clear hK K)|refine Z1 ?_)| (first| (with_reducible first|refine Y2 fun K hK=> ?_|refine Y6 (fun h=> ?_) fun h=> ?_)| (with_reducible refine l4 ?_)| (with_reducible refine eG ?_))<;>(simp only[go_sem];try simp (disch:=omega) only[Iw])| ((with_reducible refine Y8 ?_);try simp only[AQ.then,AQ.blk,reduceIte,Nat.reduceEqDiff])|refine⟨by omega,?_⟩|fail)
 all_goals first|with_reducible refine bJ hQ _ rfl rfl ?_|skip
 all_goals first|exact pF (by unfold hT;omega)|exact pO (by unfold hT;omega)
theorem zM {c:Cfg} {who:Int} {n:Int} (hc:kC c) (hp:c.dG.length=3) (h:K (dB (decide (hT c who n))) H nx):aB Tryz.prog lT [dA (cH c),dI who,dI n] H nx K:=
 (J0 c who n hc hp).pure rfl (aI ⟨aF rfl,aF rfl,aF rfl,trivial⟩) (fun r hr=>hr▸h)
theorem OC (c:Cfg) (who n:Int) (hp:c.dG.length=3) (ha:hT c who n):aB Tryz.prog dE [dA (cH c),dI who,dI n] .nil 0 fun rr _ _=>rr.plain=true∧rr=dI (bF c who n).id:=by
 refine MH rfl fun Q hQ=> ?_
 unfold tB
 obtain⟨ha1,ha2,ha3⟩:=ha
 repeat' (first| (with_reducible first| (refine hK _ _ _ ?_;clear hK K)|refine Z1 ?_)| (with_reducible refine Y2 fun K hK=> ?_)<;>(simp only[go_sem])| ((with_reducible refine Y8 ?_);try simp only[AQ.then,AQ.blk,reduceIte,Nat.reduceEqDiff])|refine⟨by omega,?_⟩|fail)
 all_goals first|with_reducible refine bJ hQ _ rfl rfl ?_|skip
 all_goals first|rfl|exact nQ (by omega)
theorem fI {c:Cfg} {who:Int} {n:Int} (hp:c.dG.length=3) (ha:hT c who n) (h:K (dI (bF c who n).id) H nx):aB Tryz.prog dE [dA (cH c),dI who,dI n] H nx K:=
 (OC c who n hp ha).pure rfl (aI ⟨aF rfl,aF rfl,aF rfl,trivial⟩) (fun r hr=>hr▸h)
theorem TG (j:Job) (who n:Int):aB Tryz.prog sM [dA (aK j),.one (.c (.dN [cI who])),.one (.c (.dN [cI n]))] .nil 0 fun rr _ _=>rr.plain=true∧rr=dB (bV who n j):=by
 refine P2 rfl fun Q hQ=> ?_
 unfold wX
 repeat' (first| (with_reducible first| (refine hK _ _ _ ?_;clear hK K)|refine Z1 ?_)| (with_reducible first|refine Y2 fun K hK=> ?_|refine Y6 (fun h=> ?_) fun h=> ?_)<;>(simp only[go_sem])| ((with_reducible refine Y8 ?_);try simp only[AQ.then,AQ.blk,reduceIte,Nat.reduceEqDiff])|fail)
 all_goals first|with_reducible refine bJ hQ _ rfl rfl ?_|skip
 all_goals first|exact wT (by grind)|exact pO (by grind)|exact pF (by grind)
theorem RH {j:Job} {who:Int} {n:Int} (h:K (dB (bV who n j)) H nx):aB Tryz.prog sM [dA (aK j),.one (.c (.dN [cI who])),.one (.c (.dN [cI n]))] H nx K:=
 (TG j who n).pure rfl (aI ⟨aF rfl,aF rfl,aF rfl,trivial⟩) (fun r hr=>hr▸h)
theorem W9 (l:List Job) (who n:Int) (hl:l.length<2^40):aB Tryz.prog lU [dS (l.map aK),dI who,dI n] .nil 0 fun rr _ _=>rr.plain=true∧rr=dI (aW (bV who n) l):=by
 refine UF rfl fun Q hQ=> ?_
 unfold A2
 repeat' (first| (with_reducible first| (refine hK _ _ _ ?_;clear hK K)|refine Z1 ?_)| (first| (with_reducible refine Y2 fun K hK=> ?_)| (refine jF (l:=l) (caps:=[.dN [cI who],.dN [cI n]]) (p:=bV who n) hl rfl (aF rfl) (HQ ⟨qB rfl trivial rfl rfl rfl,qB rfl trivial rfl rfl rfl,trivial⟩) (fun x _ H nx K h=>RH h) ?_))<;>(simp only[go_sem])| ((with_reducible refine Y8 ?_);try simp only[AQ.then,AQ.blk,reduceIte,Nat.reduceEqDiff])|fail)
 all_goals first|with_reducible refine bJ hQ _ rfl rfl ?_|skip
 all_goals first|rfl|exact nQ (by omega)
theorem yG {l:List Job} {who:Int} {n:Int} (hl:l.length<2^40) {d0:D} (hd0:CvD H (fun _=>True) id 0 (dS (l.map aK)) d0) (h:K (dI (aW (bV who n) l)) H nx):aB Tryz.prog lU [d0,dI who,dI n] H nx K:=
 (W9 l who n hl).pure rfl (aI ⟨hd0,aF rfl,aF rfl,trivial⟩) (fun r hr=>hr▸h)
theorem E6 (c:Cfg) (e:Ev) (j:Job) (hp:c.dG.length=3) (ha:hT c e.who e.n) (hj:j.who=e.who→j.n<e.n→hT c j.who j.n):aB Tryz.prog jE [dA (aK j),.one (.c (.dN (eEv e))),.one (.c (.dN (cH c)))] .nil 0 fun rr _ _=>rr.plain=true∧rr=dB (xC c e j):=by
 refine DN rfl fun Q hQ=> ?_
 unfold lM
 repeat' (first| (with_reducible first| (refine hK _ _ _ ?_;clear hK K)|refine Z1 ?_)| (first| (with_reducible first|refine Y2 fun K hK=> ?_|refine Y6 (fun h=> ?_) fun h=> ?_)| (with_reducible refine fI hp ha ?_)| (with_reducible refine fI hp (hj (by omega) (by omega)) ?_))<;>(simp only[go_sem])| ((with_reducible refine Y8 ?_);try simp only[AQ.then,AQ.blk,reduceIte,Nat.reduceEqDiff])|fail)
 all_goals first|with_reducible refine bJ hQ _ rfl rfl ?_|skip
 all_goals first|exact pO (by grind)|exact pF (by grind)
theorem FK {c:Cfg} {e:Ev} {j:Job} (hp:c.dG.length=3) (ha:hT c e.who e.n) (hj:j.who=e.who→j.n<e.n→hT c j.who j.n) (h:K (dB (xC c e j)) H nx):aB Tryz.prog jE [dA (aK j),.one (.c (.dN (eEv e))),.one (.c (.dN (cH c)))] H nx K:=
 (E6 c e j hp ha hj).pure rfl (aI ⟨aF rfl,aF rfl,aF rfl,trivial⟩) (fun r hr=>hr▸h)
theorem IX (c:Cfg) (e:Ev) (l:List Job) (hl:l.length<2^40) (hp:c.dG.length=3) (ha:hT c e.who e.n) (hj: ∀j∈l,j.who=e.who→j.n<e.n→hT c j.who j.n):aB Tryz.prog fU [dA (cH c),dS (l.map aK),dA (eEv e)] .nil 0 fun rr _ _=>rr.plain=true∧rr=dB (decide (0≤aW (xC c e) l)):=by
 refine GP rfl fun Q hQ=> ?_
 unfold nU
 repeat' (first| (with_reducible first| (refine hK _ _ _ ?_;clear hK K)|refine Z1 ?_)| (first| (with_reducible refine Y2 fun K hK=> ?_)| (refine oV (l:=l) (caps:=[.dN (eEv e),.dN (cH c)]) (p:=xC c e) hl rfl (aF rfl) (HQ ⟨qB rfl trivial rfl rfl rfl,qB rfl trivial rfl rfl rfl,trivial⟩) (fun x hx H nx K h=>FK hp ha (hj x hx) h) ?_))<;>(simp only[go_sem])| ((with_reducible refine Y8 ?_);try simp only[AQ.then,AQ.blk,reduceIte,Nat.reduceEqDiff])|fail)
 all_goals first|with_reducible refine bJ hQ _ rfl rfl ?_|skip
 all_goals first|exact pF (by omega)|exact wT (by omega)|exact pO (by omega)|rfl
theorem xR {c:Cfg} {e:Ev} {l:List Job} (hl:l.length<2^40) (hp:c.dG.length=3) (ha:hT c e.who e.n) (hj: ∀j∈l,j.who=e.who→j.n<e.n→hT c j.who j.n) {d1:D} (hd1:CvD H (fun _=>True) id 0 (dS (l.map aK)) d1) (h:K (dB (decide (0≤aW (xC c e) l))) H nx):aB Tryz.prog fU [dA (cH c),d1,dA (eEv e)] H nx K:=
 (IX c e l hl hp ha hj).pure rfl (aI ⟨aF rfl,hd1,aF rfl,trivial⟩) (fun r hr=>hr▸h)
end
end Go.Proofs.YtegiblhkjfiooaaGreat
end
