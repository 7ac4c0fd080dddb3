/- Rules and contracts. -/
import Derived.Test.YtlncecohbakleaaGreatPR5
import Derived.Test.YtlncecohbakleaaGreatPR6
import Derived.Test.YtlncecohbakleaaGreatPR4
set_option linter.unusedVariables false
set_option linter.unusedSimpArgs false
set_option maxRecDepth 100000
set_option maxHeartbeats 8000000
namespace Go.Proofs.YtlncecohbakleaaGreat
open Go Go.AM
attribute [local irreducible] aJ wv aC vd wvH
section
variable{H:aA}{nx:Nat}{K:afC}
theorem La(n lo up:Int):afB dZ [dI n,dI lo,dI up] .nil 0 fun a _ _=>a.plain=true/\a=dB (decide (lo<=n/\n<=up)):=by
 refine aR.mk Tryz.func112 (by kernel_rfl) Bn rfl fun Q b=> ?_;unfold I9;repeat' first| (first|apply vI|refine Y6 (fun h=> ?_) fun h=> ?_)<;>(simp only[go_sem])|fail
 all_goals first|with_reducible refine aP b _ rfl rfl ?_|skip
 all_goals first|exact nU (by omega)|exact l8 (by omega)|exact fX (by omega)|rfl
variable{n:Int}
theorem cV{lo:Int}{up:Int}(h:K (dB (decide (lo<=n/\n<=up))) H nx):afB dZ [dI n,dI lo,dI up] H nx K:=(La n lo up).pure rfl (aK ⟨aF rfl,aF rfl,aF rfl,trivial⟩) (fun r hr=>hr▸h)
theorem bB{lo:Int}{up:Int}(h:K (dB (decide (lo<=n/\n<=up))) H nx):afB bY [dI n,dI lo,dI up] H nx K:=by
 refine aC.pure (args0:=[dI n,dI lo,dI up]) (R:=fun a=>a=dB (decide (lo<=n/\n<=up))) ?_ rfl (aK ⟨aF rfl,aF rfl,aF rfl,trivial⟩) (fun r hr=>hr▸h);clear h;refine aR.mk Tryz.func203 (by kernel_rfl) tj rfl fun Q b=> ?_;unfold DS;repeat' first| (first|apply vI|refine Y6 (fun h=> ?_) fun h=> ?_)<;>(simp only[go_sem])|fail
 all_goals first|with_reducible refine aP b _ rfl rfl ?_|skip
 all_goals first|exact nU (by omega)|exact l8 (by omega)|exact fX (by omega)|rfl
theorem WC(n:Int):afB lC [dI n] .nil 0 fun a _ _=>a.plain=true/\a=dB (decide (0<=n/\n<=2)):=by
 refine aR.mk Tryz.func281 (by kernel_rfl) UM rfl fun Q b=> ?_;unfold p9;repeat' first| (first|apply vI|apply cV)<;>(simp only[go_sem])|fail
 all_goals first|with_reducible refine aP b _ rfl rfl ?_|skip
 all_goals first|exact nU (by omega)|exact l8 (by omega)|exact fX (by omega)|rfl
theorem dE(h:K (dB (decide (0<=n/\n<=2))) H nx):afB lC [dI n] H nx K:=(WC n).pure rfl (aK ⟨aF rfl,trivial⟩) (fun r hr=>hr▸h)
theorem nu(h:K (dB (decide (0<=n/\n<=65535))) H nx):afB GY [dI n] H nx K:=by
 refine aC.pure (args0:=[dI n]) (R:=fun a=>a=dB (decide (0<=n/\n<=65535))) ?_ rfl (aK ⟨aF rfl,trivial⟩) (fun r hr=>hr▸h);clear h;refine aR.mk Tryz.func340 (by kernel_rfl) YG rfl fun Q b=> ?_;unfold uP;repeat' first| (first|apply vI|apply cV)<;>(simp only[go_sem])|fail
 all_goals first|with_reducible refine aP b _ rfl rfl ?_|skip
 all_goals first|exact nU (by omega)|exact l8 (by omega)|exact fX (by omega)|rfl
variable{addr:Int}
theorem CP{many:Int}{wrap:Bool}(h:K (dB (decide (pF addr many wrap))) H nx):afB vA [dI addr,dI many,dB wrap] H nx K:=by
 refine aC.pure (args0:=[dI addr,dI many,dB wrap]) (R:=fun a=>a=dB (decide (pF addr many wrap))) ?_ rfl (aK ⟨aF rfl,aF rfl,aF rfl,trivial⟩) (fun r hr=>hr▸h);clear h;refine aR.mk Tryz.func104 (by kernel_rfl) kp rfl fun Q b=> ?_;unfold zI;repeat' first| (first|apply vI|refine Y6 (fun h=> ?_) fun h=> ?_| (refine Y7 (fun h=> ?_) (fun h=> ?_)<;>try subst h)|apply cV)<;>(simp only[go_sem];try simp (disch:=omega) only[Iw])|fail
 all_goals first|with_reducible refine aP b _ rfl rfl ?_|skip
 all_goals unfold pF
 all_goals first|exact nU (by simp;omega)|exact l8 (by simp;omega)|exact fX (by simp;omega)
theorem SS{many:Int}{wrap:Bool}(h:K (dB (decide (pF addr many wrap))) H nx):afB CN [dI addr,dI many,dB wrap] H nx K:=by
 refine aC.pure (args0:=[dI addr,dI many,dB wrap]) (R:=fun a=>a=dB (decide (pF addr many wrap))) ?_ rfl (aK ⟨aF rfl,aF rfl,aF rfl,trivial⟩) (fun r hr=>hr▸h);clear h;refine aR.mk Tryz.func314 (by kernel_rfl) js rfl fun Q b=> ?_;unfold AK;repeat' first| (first|apply vI|refine Y6 (fun h=> ?_) fun h=> ?_| (refine Y7 (fun h=> ?_) (fun h=> ?_)<;>try subst h)|apply bB)<;>(simp only[go_sem];try simp (disch:=omega) only[Iw])|refine iE (fun h=> ?_) fun h=> ?_|fail
 all_goals first|with_reducible refine aP b _ rfl rfl ?_|skip
 all_goals unfold pF
 all_goals first|exact nU (by simp;omega)|exact l8 (by simp;omega)|exact fX (by simp;omega)
variable{l:List Rng}
theorem P2(hl:l.length<2^40)(h:K (dI (bP (inR · addr) l)) H nx):afB AI [dS (l.map cX),dI addr] H nx K:=by
 refine aC.pure (args0:=[dS (l.map cX),dI addr]) (R:=fun c=>c=dI (bP (inR · addr) l)) ?_ rfl (aK ⟨aF rfl,aF rfl,trivial⟩) (fun r hr=>hr▸h);clear h;refine aR.mk Tryz.func315 (by kernel_rfl) YK rfl fun Q b=> ?_;unfold uM;repeat' first|apply vI<;>(simp only[go_sem])|fail
 (refine aJ.loop (α:={k:Nat//k<=l.length/\(∀i,i<k->inR (l.getD i default) addr=false)}) (fun u=>en [(5,dI u.1),(1,dI addr),(0,dS (l.map cX))]) (fun _=>.nil) _ (fun u=>l.length-u.1) ⟨0,by omega,(by intros;first|trivial|omega)⟩ (bF (abG _) (by repeat' first|exact C1|refine xqI rfl rfl ?_|fail)) ?_);(rintro⟨k,d,hinv⟩ e a);repeat' first| (first|apply vI|apply bB)<;>(simp only[go_sem];try simp (disch:=omega) only[Iw])|refine iE (fun h=> ?_) fun h=> ?_|refine⟨by omega,?_⟩|fail
 ·refine aP b _ rfl rfl (nP (acD (CU (by omega) (decide_eq_true (by omega)) hinv)))
 · (refine a _ _ _ ⟨k+1,by omega,bL hinv (decide_eq_false (by omega))⟩ (by omega) (by(try dsimp only);omega) (bF (abG _) (by repeat' first|exact C1|refine xqI rfl rfl ?_|fail)))
 ·refine aP b _ rfl rfl (nP (acD (qC fun i hi=>hinv i (by omega))))
theorem M8{all:List Int}(hl:l.length<2^40)(d:all.length<2^40)(h:K (dI (eL l all)) H nx):afB w9 [dS (l.map cX),dS (all.map aH)] H nx K:=by
 refine aC.pure (args0:=[dS (l.map cX),dS (all.map aH)]) (R:=fun c=>c=dI (eL l all)) ?_ rfl (aK ⟨aF rfl,aF rfl,trivial⟩) (fun r hr=>hr▸h);clear h;refine aR.mk Tryz.func249 (by kernel_rfl) V8 rfl fun Q a=> ?_;unfold sS;repeat' first| (first|apply vI|apply P2 hl)<;>(simp only[go_sem])|refine iE (fun h=> ?_) fun h=> ?_|refine⟨by omega,?_⟩|fail
 ·exact aP a _ rfl rfl (nP (X5 (by omega)).symm)
 (refine aJ.loop (α:={k:Nat//k<=all.length/\(∀i,i<k->1<=i->bP (inR · (all.getD i default)) l=bP (inR · (all.getD 0 default)) l)}) (fun u=>en [(6,dI u.1),(5,dI (bP (inR · (all.getD 0 default)) l)),(1,dS (all.map aH)),(0,dS (l.map cX))]) (fun _=>.nil) _ (fun u=>all.length-u.1) ⟨1,by omega,(by intros;first|trivial|omega)⟩ (bF (abG _) (by repeat' first|exact C1|refine xqI rfl rfl ?_|fail)) ?_);(rintro⟨k,e,hinv⟩ f b);repeat' first| (first|apply vI|apply P2 hl)<;>(simp only[go_sem];try simp (disch:=omega) only[Iw])|refine iE (fun h=> ?_) fun h=> ?_|refine⟨by omega,?_⟩|fail
 ·exact aP a _ rfl rfl (nP (N7 (i:=k) (by omega) (by omega)).symm)
 · (refine b _ _ _ ⟨k+1,by omega,bL hinv (fun _=>by omega)⟩ (by omega) (by(try dsimp only);omega) (bF (abG _) (by repeat' first|exact C1|refine xqI rfl rfl ?_|fail)))
 ·exact aP a _ rfl rfl (nP (QZ (by omega) (fun i hi=>hinv i (by omega))).symm)
theorem J6{q:Req}(h:K (dB (wrM q)) H nx):afB sK [dA (dM q)] H nx K:=by
 refine aC.pure (args0:=[dA (dM q)]) (R:=fun a=>a=dB (wrM q)) ?_ rfl (aK ⟨aF rfl,trivial⟩) (fun r hr=>hr▸h);clear h;refine aR.mk Tryz.func288 (by kernel_rfl) U5 rfl fun Q b=> ?_;unfold qN;repeat' first| (first|apply vI|refine Y6 (fun h=> ?_) fun h=> ?_)<;>(simp only[go_sem])|fail
 all_goals first|with_reducible refine aP b _ rfl rfl ?_|skip
 all_goals unfold wrM
 all_goals first|exact nU (by omega)|exact l8 (by omega)|exact fX (by omega)|rfl
theorem KZ{many:Int}{wrap:Bool}(h:K (dS ((bO addr many wrap).map aH)) H nx):afB sT [dI addr,dI many,dB wrap] H nx K:=by
 refine aC.fresh (R:=fun g=>g=dS ((bO addr many wrap).map aH)) ?_ rfl (fun r hr=>hr▸h);clear h;refine aR.mk Tryz.func250 (by kernel_rfl) TY rfl fun Q e=> ?_;unfold qL;repeat' first| (first|apply vI|apply SS)<;>(simp only[go_sem])|refine iE (fun h=> ?_) fun h=> ?_|fail
 ·exact KX e (dS []) _ rfl vZ rfl (by simp[bO,h])
 have a:=Classical.not_not.1 h;obtain⟨i,o,q,f4,s,j,t,v⟩:=VR a;clear h;rw[j];refine⟨i,?_⟩;rw[IntWalk.i64_in (addr-_) (by omega)];repeat' first|apply vI<;>(simp only[go_sem])|fail
 refine aJ.Ph 1 (α:={p:Nat×Nat//p.1<=many.toNat/\p.1<=p.2}) (fun b u=>en [(9,dI u.1.1),(8,dI (addr-addr%many)),(7,dO 1 b u.1.1 u.1.2),(2,dB wrap),(1,dI many),(0,dI addr)])
  (fun b u=>hp [(b,⟨1,u.1.2,((List.range u.1.1).map (bAt addr many wrap)).map aH⟩)]) (fun u=>many.toNat-u.1.1) ⟨(0,0),by omega,by omega⟩ (by(refine eM [1] (by omega) (by repeat' first|exact C1|refine xqI rfl rfl ?_|refine xqO (by omega) rfl rfl (by rfl) ?_|fail) ⟨⟨by simp,by simp[sgL],_,rfl,cD (aN aV _) rfl rfl⟩,trivial⟩ (by simp[sgL]))) ?_
 rintro⟨⟨k,cap⟩,l,hc⟩ w c;dsimp only at l hc;by_cases d:k<many.toNat
 ·obtain⟨x,y,m⟩:=qq a k d;repeat' first|apply vI<;>(simp only[go_sem];try simp (disch:=omega) only[Iw])|apply vT (by omega)| (with_reducible first|refine fun(cap:Nat) (f:_<=cap)=> ?_|refine fun(n:_<=cap)=> ?_)| ((refine y5 (fun h=> ?_) (fun h=> ?_))<;>try subst h)|refine⟨by omega,?_⟩|fail
  ·refine c _ _ _ ⟨(k+1,cap),by omega,by omega⟩ (by omega) (by dsimp only;omega) (by(refine eM [31] (by omega) (by repeat' first|exact C1|refine xqI rfl rfl ?_|refine xqO (by omega) rfl rfl (by rfl) ?_|fail) ⟨⟨by simp,by simp[sgL],_,rfl,cD (aN aV _) (congrArg _ (ef (by simp only[bAt,if_true];exact m))) rfl⟩,trivial⟩ (by simp[sgL])))
  ·refine c _ _ _ ⟨(k+1,cap),by omega,by omega⟩ (by omega) (by dsimp only;omega) (by(refine eM [25] (by omega) (by repeat' first|exact C1|refine xqI rfl rfl ?_|refine xqO (by omega) rfl rfl (by rfl) ?_|fail) ⟨⟨by simp,by simp[sgL],_,rfl,cD (aN aV _) (congrArg _ (ef rfl)) rfl⟩,trivial⟩ (by simp[sgL])))
 ·repeat' first|apply vI<;>(simp only[go_sem])|apply vF (by omega)|fail
  ·refine KX e (dS _) _ rfl (pL aV rfl (by simp) (by simpa using hc) trivial) rfl ?_;have:k=many.toNat:=(by omega);subst this;simp[bO,a]
theorem pQ(l:List Rng)(f:FuncId)(caps:List D1)(p:Rng->Bool)(hl:l.length<2^40)(hc:caps.all D1.eS=true)(j: ∀x∈l,∀(H:aA) (nx:Nat) (K:afC),K (dB (p x)) H nx->afB f (dA (cX x)::caps.map fun d=>.one (.c d)) H nx K):
 afB cL [dS (l.map cX),.one (.c (.clo f caps))] .nil 0 fun r _ _=>r.plain=true/\r=dI (bP p l):=by
 refine aR.mk Tryz.func337 (by kernel_rfl) oW rfl fun Q g=> ?_
 unfold dJ
 repeat' first|apply vI<;>(simp only[go_sem])|fail
 (refine aJ.loop (α:={k:Nat//k<=l.length/\(∀i,i<k->p (l.getD i default)=false)}) (fun u=>en [(8,dI u.1),(7,dI l.length),(1,.one (.c (.clo f caps))),(0,dS (l.map cX))]) (fun _=>.nil) _ (fun u=>l.length-u.1) ⟨0,by omega,(by intros;first|trivial|omega)⟩ (bF (abG _) (by repeat' first|exact C1|refine xqI rfl rfl ?_| (with_reducible apply C2)| ((with_reducible apply C0);exact CH (by assumption))| ((with_reducible apply D0);apply CJ)|fail)) ?_);(rintro⟨k,m,hinv⟩ n b)
 by_cases e:k<l.length
 ·have a:l.getD k default∈l:=by simp[List.getD,e]
  repeat' first| (first|apply vI|apply j _ a _ _ _)<;>(simp only[go_sem];try simp (disch:=omega) only[Iw])|apply vT (by omega)| ((refine y5 (fun h=> ?_) (fun h=> ?_))<;>try subst h)|refine⟨by omega,?_⟩|fail
  ·refine aP g _ rfl rfl (nP (acD (CU (by omega) (by assumption) hinv)))
  · (refine b _ _ _ ⟨k+1,by omega,bL hinv (by assumption)⟩ (by omega) (by(try dsimp only);omega) (bF (abG _) (by repeat' first|exact C1|refine xqI rfl rfl ?_| (with_reducible apply C2)| ((with_reducible apply C0);exact CH (by assumption))| ((with_reducible apply D0);apply CJ)|fail)))
 ·repeat' first|apply vI<;>(simp only[go_sem])|apply vF (by omega)|fail
  ·refine aP g _ rfl rfl (nP (acD (qC fun i hi=>hinv i (by omega))))
variable{f:FuncId}{caps caps0:List D1}{d:D}
theorem jH{p:Rng->Bool}(hl:l.length<2^40)(hc:caps.all D1.eS=true)(a:CvD H (fun _=>True) id 0 (dS (l.map cX)) d)(b:CvD H (fun _=>True) id 0 (.one (.c (.clo f caps))) (.one (.c (.clo f caps0))))(e: ∀x∈l,∀(H:aA) (nx:Nat) (K:afC),K (dB (p x)) H nx->afB f (dA (cX x)::caps.map fun d=>.one (.c d)) H nx K)
 (h:K (dI (bP p l)) H nx):afB cL [d,.one (.c (.clo f caps0))] H nx K:=
 (pQ l f caps p hl hc e).pure rfl (aK ⟨a,b,trivial⟩) fun r hr=>hr▸h
theorem n7(l:List Rng)(f:FuncId)(caps:List D1)(p:Rng->Bool)(hl:l.length<2^40)(hc:caps.all D1.eS=true)(a: ∀x∈l,∀(H:aA) (nx:Nat) (K:afC),K (dB (p x)) H nx->afB f (dA (cX x)::caps.map fun d=>.one (.c d)) H nx K):
 afB cS [dS (l.map cX),.one (.c (.clo f caps))] .nil 0 fun r _ _=>r.plain=true/\r=dB (decide (0<=bP p l)):=by
 refine aR.mk Tryz.func323 (by kernel_rfl) nV rfl fun Q b=> ?_
 unfold cQ
 repeat' first| (first|apply vI|refine jH hl hc (aF rfl) (lI hc) a ?_)<;>(simp only[go_sem])|fail
 all_goals exact aP b _ rfl rfl rfl
theorem oB{p:Rng->Bool}(hl:l.length<2^40)(hc:caps.all D1.eS=true)(a:CvD H (fun _=>True) id 0 (dS (l.map cX)) d)(b:CvD H (fun _=>True) id 0 (.one (.c (.clo f caps))) (.one (.c (.clo f caps0))))(e: ∀x∈l,∀(H:aA) (nx:Nat) (K:afC),K (dB (p x)) H nx->afB f (dA (cX x)::caps.map fun d=>.one (.c d)) H nx K)
 (h:K (dB (decide (0<=bP p l))) H nx):afB cS [d,.one (.c (.clo f caps0))] H nx K:=
 (n7 l f caps p hl hc e).pure rfl (aK ⟨a,b,trivial⟩) fun r hr=>hr▸h
theorem DI(l:List Int)(f:FuncId)(caps:List D1)(p:Int->Bool)(hl:l.length<2^40)(hc:caps.all D1.eS=true)(j: ∀x∈l,∀(H:aA) (nx:Nat) (K:afC),K (dB (p x)) H nx->afB f (dI x::caps.map fun d=>.one (.c d)) H nx K):
 afB gZ [dS (l.map aH),.one (.c (.clo f caps))] .nil 0 fun r _ _=>r.plain=true/\r=dI (bP p l):=by
 refine aR.mk Tryz.func286 (by kernel_rfl) BW rfl fun Q g=> ?_
 unfold gI
 repeat' first|apply vI<;>(simp only[go_sem])|fail
 (refine aJ.loop (α:={k:Nat//k<=l.length/\(∀i,i<k->p (l.getD i default)=false)}) (fun u=>en [(8,dI u.1),(7,dI l.length),(1,.one (.c (.clo f caps))),(0,dS (l.map aH))]) (fun _=>.nil) _ (fun u=>l.length-u.1) ⟨0,by omega,(by intros;first|trivial|omega)⟩ (bF (abG _) (by repeat' first|exact C1|refine xqI rfl rfl ?_| (with_reducible apply C2)| ((with_reducible apply C0);exact CH (by assumption))| ((with_reducible apply D0);apply CJ)|fail)) ?_);(rintro⟨k,m,hinv⟩ n b)
 by_cases e:k<l.length
 ·have a:l.getD k default∈l:=by simp[List.getD,e]
  repeat' first| (first|apply vI|apply j _ a _ _ _)<;>(simp only[go_sem];try simp (disch:=omega) only[Iw])|apply vT (by omega)| ((refine y5 (fun h=> ?_) (fun h=> ?_))<;>try subst h)|refine⟨by omega,?_⟩|fail
  ·refine aP g _ rfl rfl (nP (acD (CU (by omega) (by assumption) hinv)))
  · (refine b _ _ _ ⟨k+1,by omega,bL hinv (by assumption)⟩ (by omega) (by(try dsimp only);omega) (bF (abG _) (by repeat' first|exact C1|refine xqI rfl rfl ?_| (with_reducible apply C2)| ((with_reducible apply C0);exact CH (by assumption))| ((with_reducible apply D0);apply CJ)|fail)))
 ·repeat' first|apply vI<;>(simp only[go_sem])|apply vF (by omega)|fail
  ·refine aP g _ rfl rfl (nP (acD (qC fun i hi=>hinv i (by omega))))
theorem CY{l:List Int}{p:Int->Bool}(hl:l.length<2^40)(hc:caps.all D1.eS=true)(a:CvD H (fun _=>True) id 0 (dS (l.map aH)) d)(b:CvD H (fun _=>True) id 0 (.one (.c (.clo f caps))) (.one (.c (.clo f caps0))))(e: ∀x∈l,∀(H:aA) (nx:Nat) (K:afC),K (dB (p x)) H nx->afB f (dI x::caps.map fun d=>.one (.c d)) H nx K)
 (h:K (dI (bP p l)) H nx):afB gZ [d,.one (.c (.clo f caps0))] H nx K:=
 (DI l f caps p hl hc e).pure rfl (aK ⟨a,b,trivial⟩) fun r hr=>hr▸h
theorem yY(l:List Int)(f:FuncId)(caps:List D1)(p:Int->Bool)(hl:l.length<2^40)(hc:caps.all D1.eS=true)(a: ∀x∈l,∀(H:aA) (nx:Nat) (K:afC),K (dB (p x)) H nx->afB f (dI x::caps.map fun d=>.one (.c d)) H nx K):
 afB cF [dS (l.map aH),.one (.c (.clo f caps))] .nil 0 fun r _ _=>r.plain=true/\r=dB (decide (0<=bP p l)):=by
 refine aR.mk Tryz.func201 (by kernel_rfl) xU rfl fun Q b=> ?_
 unfold fI
 repeat' first| (first|apply vI|refine CY hl hc (aF rfl) (lI hc) a ?_)<;>(simp only[go_sem])|fail
 all_goals exact aP b _ rfl rfl rfl
theorem fO{l:List Int}{p:Int->Bool}(hl:l.length<2^40)(hc:caps.all D1.eS=true)(a:CvD H (fun _=>True) id 0 (dS (l.map aH)) d)(b:CvD H (fun _=>True) id 0 (.one (.c (.clo f caps))) (.one (.c (.clo f caps0))))(e: ∀x∈l,∀(H:aA) (nx:Nat) (K:afC),K (dB (p x)) H nx->afB f (dI x::caps.map fun d=>.one (.c d)) H nx K)
 (h:K (dB (decide (0<=bP p l))) H nx):afB cF [d,.one (.c (.clo f caps0))] H nx K:=
 (yY l f caps p hl hc e).pure rfl (aK ⟨a,b,trivial⟩) fun r hr=>hr▸h
theorem uJ(l:List Req)(f:FuncId)(caps:List D1)(p:Req->Bool)(hl:l.length<2^40)(hc:caps.all D1.eS=true)(j: ∀x∈l,∀(H:aA) (nx:Nat) (K:afC),K (dB (p x)) H nx->afB f (dA (dM x)::caps.map fun d=>.one (.c d)) H nx K):
 afB eQ [dS (l.map dM),.one (.c (.clo f caps))] .nil 0 fun r _ _=>r.plain=true/\r=dI (bP p l):=by
 refine aR.mk Tryz.func326 (by kernel_rfl) tE rfl fun Q g=> ?_
 unfold eH
 repeat' first|apply vI<;>(simp only[go_sem])|fail
 (refine aJ.loop (α:={k:Nat//k<=l.length/\(∀i,i<k->p (l.getD i default)=false)}) (fun u=>en [(8,dI u.1),(7,dI l.length),(1,.one (.c (.clo f caps))),(0,dS (l.map dM))]) (fun _=>.nil) _ (fun u=>l.length-u.1) ⟨0,by omega,(by intros;first|trivial|omega)⟩ (bF (abG _) (by repeat' first|exact C1|refine xqI rfl rfl ?_| (with_reducible apply C2)| ((with_reducible apply C0);exact CH (by assumption))| ((with_reducible apply D0);apply CJ)|fail)) ?_);(rintro⟨k,m,hinv⟩ n b)
 by_cases e:k<l.length
 ·have a:l.getD k default∈l:=by simp[List.getD,e]
  repeat' first| (first|apply vI|apply j _ a _ _ _)<;>(simp only[go_sem];try simp (disch:=omega) only[Iw])|apply vT (by omega)| ((refine y5 (fun h=> ?_) (fun h=> ?_))<;>try subst h)|refine⟨by omega,?_⟩|fail
  ·refine aP g _ rfl rfl (nP (acD (CU (by omega) (by assumption) hinv)))
  · (refine b _ _ _ ⟨k+1,by omega,bL hinv (by assumption)⟩ (by omega) (by(try dsimp only);omega) (bF (abG _) (by repeat' first|exact C1|refine xqI rfl rfl ?_| (with_reducible apply C2)| ((with_reducible apply C0);exact CH (by assumption))| ((with_reducible apply D0);apply CJ)|fail)))
 ·repeat' first|apply vI<;>(simp only[go_sem])|apply vF (by omega)|fail
  ·refine aP g _ rfl rfl (nP (acD (qC fun i hi=>hinv i (by omega))))
theorem uE{l:List Req}{p:Req->Bool}(hl:l.length<2^40)(hc:caps.all D1.eS=true)(a:CvD H (fun _=>True) id 0 (dS (l.map dM)) d)(b:CvD H (fun _=>True) id 0 (.one (.c (.clo f caps))) (.one (.c (.clo f caps0))))(e: ∀x∈l,∀(H:aA) (nx:Nat) (K:afC),K (dB (p x)) H nx->afB f (dA (dM x)::caps.map fun d=>.one (.c d)) H nx K)
 (h:K (dI (bP p l)) H nx):afB eQ [d,.one (.c (.clo f caps0))] H nx K:=
 (uJ l f caps p hl hc e).pure rfl (aK ⟨a,b,trivial⟩) fun r hr=>hr▸h
theorem rB(l:List Req)(f:FuncId)(caps:List D1)(p:Req->Bool)(hl:l.length<2^40)(hc:caps.all D1.eS=true)(a: ∀x∈l,∀(H:aA) (nx:Nat) (K:afC),K (dB (p x)) H nx->afB f (dA (dM x)::caps.map fun d=>.one (.c d)) H nx K):
 afB dW [dS (l.map dM),.one (.c (.clo f caps))] .nil 0 fun r _ _=>r.plain=true/\r=dB (decide (0<=bP p l)):=by
 refine aR.mk Tryz.func275 (by kernel_rfl) qA rfl fun Q b=> ?_
 unfold dU
 repeat' first| (first|apply vI|refine uE hl hc (aF rfl) (lI hc) a ?_)<;>(simp only[go_sem])|fail
 all_goals exact aP b _ rfl rfl rfl
theorem rE{l:List Req}{p:Req->Bool}(hl:l.length<2^40)(hc:caps.all D1.eS=true)(a:CvD H (fun _=>True) id 0 (dS (l.map dM)) d)(b:CvD H (fun _=>True) id 0 (.one (.c (.clo f caps))) (.one (.c (.clo f caps0))))(e: ∀x∈l,∀(H:aA) (nx:Nat) (K:afC),K (dB (p x)) H nx->afB f (dA (dM x)::caps.map fun d=>.one (.c d)) H nx K)
 (h:K (dB (decide (0<=bP p l))) H nx):afB dW [d,.one (.c (.clo f caps0))] H nx K:=
 (rB l f caps p hl hc e).pure rfl (aK ⟨a,b,trivial⟩) fun r hr=>hr▸h
theorem rH(l:List (List Req))(f:FuncId)(caps:List D1)(p:(List Req)->Bool)(hl:l.length<2^40)(hc:caps.all D1.eS=true)(j: ∀x∈l,∀(H:aA) (nx:Nat) (K:afC),K (dB (p x)) H nx->afB f (dS (x.map dM)::caps.map fun d=>.one (.c d)) H nx K):
 afB eC [dS (l.map kN),.one (.c (.clo f caps))] .nil 0 fun r _ _=>r.plain=true/\r=dI (bP p l):=by
 refine aR.mk Tryz.func325 (by kernel_rfl) rA rfl fun Q g=> ?_
 unfold dX
 repeat' first|apply vI<;>(simp only[go_sem])|fail
 (refine aJ.loop (α:={k:Nat//k<=l.length/\(∀i,i<k->p (l.getD i default)=false)}) (fun u=>en [(8,dI u.1),(7,dI l.length),(1,.one (.c (.clo f caps))),(0,dS (l.map kN))]) (fun _=>.nil) _ (fun u=>l.length-u.1) ⟨0,by omega,(by intros;first|trivial|omega)⟩ (bF (abG _) (by repeat' first|exact C1|refine xqI rfl rfl ?_| (with_reducible apply C2)| ((with_reducible apply C0);exact CH (by assumption))| ((with_reducible apply D0);apply CJ)|fail)) ?_);(rintro⟨k,m,hinv⟩ n b)
 by_cases e:k<l.length
 ·have a:l.getD k default∈l:=by simp[List.getD,e]
  repeat' first| (first|apply vI|apply j _ a _ _ _)<;>(simp only[go_sem];try simp (disch:=omega) only[Iw])|apply vT (by omega)| ((refine y5 (fun h=> ?_) (fun h=> ?_))<;>try subst h)|refine⟨by omega,?_⟩|fail
  ·refine aP g _ rfl rfl (nP (acD (CU (by omega) (by assumption) hinv)))
  · (refine b _ _ _ ⟨k+1,by omega,bL hinv (by assumption)⟩ (by omega) (by(try dsimp only);omega) (bF (abG _) (by repeat' first|exact C1|refine xqI rfl rfl ?_| (with_reducible apply C2)| ((with_reducible apply C0);exact CH (by assumption))| ((with_reducible apply D0);apply CJ)|fail)))
 ·repeat' first|apply vI<;>(simp only[go_sem])|apply vF (by omega)|fail
  ·refine aP g _ rfl rfl (nP (acD (qC fun i hi=>hinv i (by omega))))
theorem rX{l:List (List Req)}{p:(List Req)->Bool}(hl:l.length<2^40)(hc:caps.all D1.eS=true)(a:CvD H (fun _=>True) id 0 (dS (l.map kN)) d)(b:CvD H (fun _=>True) id 0 (.one (.c (.clo f caps))) (.one (.c (.clo f caps0))))(e: ∀x∈l,∀(H:aA) (nx:Nat) (K:afC),K (dB (p x)) H nx->afB f (dS (x.map dM)::caps.map fun d=>.one (.c d)) H nx K)
 (h:K (dI (bP p l)) H nx):afB eC [d,.one (.c (.clo f caps0))] H nx K:=
 (rH l f caps p hl hc e).pure rfl (aK ⟨a,b,trivial⟩) fun r hr=>hr▸h
theorem pH(l:List (List Req))(f:FuncId)(caps:List D1)(p:(List Req)->Bool)(hl:l.length<2^40)(hc:caps.all D1.eS=true)(a: ∀x∈l,∀(H:aA) (nx:Nat) (K:afC),K (dB (p x)) H nx->afB f (dS (x.map dM)::caps.map fun d=>.one (.c d)) H nx K):
 afB dK [dS (l.map kN),.one (.c (.clo f caps))] .nil 0 fun r _ _=>r.plain=true/\r=dB (decide (0<=bP p l)):=by
 refine aR.mk Tryz.func273 (by kernel_rfl) oQ rfl fun Q b=> ?_
 unfold c8
 repeat' first| (first|apply vI|refine rX hl hc (aF rfl) (lI hc) a ?_)<;>(simp only[go_sem])|fail
 all_goals exact aP b _ rfl rfl rfl
theorem pI{l:List (List Req)}{p:(List Req)->Bool}(hl:l.length<2^40)(hc:caps.all D1.eS=true)(a:CvD H (fun _=>True) id 0 (dS (l.map kN)) d)(b:CvD H (fun _=>True) id 0 (.one (.c (.clo f caps))) (.one (.c (.clo f caps0))))(e: ∀x∈l,∀(H:aA) (nx:Nat) (K:afC),K (dB (p x)) H nx->afB f (dS (x.map dM)::caps.map fun d=>.one (.c d)) H nx K)
 (h:K (dB (decide (0<=bP p l))) H nx):afB dK [d,.one (.c (.clo f caps0))] H nx K:=
 (pH l f caps p hl hc e).pure rfl (aK ⟨a,b,trivial⟩) fun r hr=>hr▸h
theorem UL{r:Rng}(h:K (dB (inR r addr)) H nx):afB yM [dA (cX r),.one (.c (.fF [cI addr]))] H nx K:=by
 refine aC.pure (args0:=[dA (cX r),.one (.c (.fF [cI addr]))]) (R:=fun a=>a=dB (inR r addr)) ?_ rfl (aK ⟨aF rfl,aF rfl,trivial⟩) (fun r hr=>hr▸h);clear h;refine aR.mk Tryz.func338 (by kernel_rfl) TD rfl fun Q b=> ?_;unfold oG;repeat' first| (first|apply vI|apply cV)<;>(simp only[go_sem])|fail
 all_goals first|with_reducible refine aP b _ rfl rfl ?_|skip
 all_goals exact nU ac6
theorem Z5(hl:l.length<2^40)(h:K (dI (bP (inR · addr) l)) H nx):afB EW [dS (l.map cX),dI addr] H nx K:=by
 refine aC.pure (args0:=[dS (l.map cX),dI addr]) (R:=fun a=>a=dI (bP (inR · addr) l)) ?_ rfl (aK ⟨aF rfl,aF rfl,trivial⟩) (fun r hr=>hr▸h);clear h;refine aR.mk Tryz.func316 (by kernel_rfl) W6 rfl fun Q b=> ?_;unfold sQ;repeat' first| (first|apply vI|refine jH (caps:=[.fF [cI addr]]) (p:=(inR · addr)) hl rfl (aF rfl) (XX ⟨FP rfl trivial rfl rfl rfl,trivial⟩) (fun x _ H nx K h=>UL h) ?_)<;>(simp only[go_sem])|fail
 all_goals first|with_reducible refine aP b _ rfl rfl ?_|skip
 all_goals first|rfl|exact nP (by omega)
theorem ZQ{q:Rng}{r:Rng}(h:K (dB (pt q r)) H nx):afB E5 [dA (cX q),.one (.c (.fF (cX r)))] H nx K:=by
 refine aC.pure (args0:=[dA (cX q),.one (.c (.fF (cX r)))]) (R:=fun a=>a=dB (pt q r)) ?_ rfl (aK ⟨aF rfl,aF rfl,trivial⟩) (fun r hr=>hr▸h);clear h;refine aR.mk Tryz.func324 (by kernel_rfl) XJ rfl fun Q b=> ?_;unfold s6;repeat' first| (first|apply vI|refine Y6 (fun h=> ?_) fun h=> ?_)<;>(simp only[go_sem])|fail
 all_goals first|with_reducible refine aP b _ rfl rfl ?_|skip
 all_goals unfold pt
 all_goals first|exact nU (by omega)|exact l8 (by omega)|exact fX (by omega)
theorem ss(hl:l.length<2^40)(h:K (dB (decide (oC l))) H nx):afB JY [dS (l.map cX)] H nx K:=by
 refine aC.pure (args0:=[dS (l.map cX)]) (R:=fun e=>e=dB (decide (oC l))) ?_ rfl (aK ⟨aF rfl,trivial⟩) (fun r hr=>hr▸h);clear h;refine aR.mk Tryz.func271 (by kernel_rfl) ji rfl fun Q d=> ?_;unfold zC;repeat' first|apply vI<;>(simp only[go_sem])|fail
 (refine aJ.loop (α:={k:Nat//k<=l.length/\(∀i,i<k->ZK l i)}) (fun u=>en [(7,dI u.1),(6,dI l.length),(5,dS (l.map cX)),(0,dS (l.map cX))]) (fun _=>.nil) _ (fun u=>l.length-u.1) ⟨0,by omega,(by intros;first|trivial|omega)⟩ (bF (abG _) (by repeat' first|exact C1|refine xqI rfl rfl ?_|fail)) ?_);(rintro⟨k,f,hinv⟩ g a);by_cases b:k<l.length
 ·repeat' first| (first|apply vI|refine Y6 (fun h=> ?_) fun h=> ?_|apply cV| (refine oB (l:=l.take k) (caps:=[.fF (cX (l.getD k default))]) (p:=fun q=>pt q (l.getD k default)) (by simp;omega) rfl (aF rfl) (XX ⟨FP rfl trivial rfl rfl rfl,trivial⟩) (fun x _ H nx K h=>ZQ h) ?_))<;>(simp only[go_sem];try simp (disch:=omega) only[Iw])|apply vT (by omega)|refine iE (fun h=> ?_) fun h=> ?_|refine⟨by omega,?_⟩|fail
  all_goals first
   | (refine aP d _ rfl rfl (fX fun hm=> ?_);have:=(hm.2 k b);unfold ZK D7 at this;omega)
   | (refine a _ _ _ ⟨k+1,by omega,bL hinv (by unfold ZK D7;omega)⟩ (by omega) (by(try dsimp only);omega) (bF (abG _) (by repeat' first|exact C1|refine xqI rfl rfl ?_|fail)))
 ·repeat' first|apply vI<;>(simp only[go_sem])|apply vF (by omega)|fail
  have c:k=l.length:=by omega
  subst c;exact aP d _ rfl rfl (nU ⟨fun h=>⟨h,hinv⟩,fun h=>h.1⟩)
theorem jD{q:Req}(h:K (dB (wrM q)) H nx):afB jF [dA (dM q)] H nx K:=by
 refine aC.pure (args0:=[dA (dM q)]) (R:=fun a=>a=dB (wrM q)) ?_ rfl (aK ⟨aF rfl,trivial⟩) (fun r hr=>hr▸h);clear h;refine aR.mk Tryz.func299 (by kernel_rfl) LB rfl fun Q b=> ?_;unfold kS;repeat' first| (first|apply vI|refine Y6 (fun h=> ?_) fun h=> ?_)<;>(simp only[go_sem])|fail
 all_goals first|with_reducible refine aP b _ rfl rfl ?_|skip
 all_goals unfold wrM
 all_goals first|exact nU (by omega)|exact l8 (by omega)|exact fX (by omega)|rfl
theorem SH(h:K (dB (decide (¬(0<=n/\n<=65535)))) H nx):afB wS [dI n] H nx K:=by
 refine aC.pure (args0:=[dI n]) (R:=fun a=>a=dB (decide (¬(0<=n/\n<=65535)))) ?_ rfl (aK ⟨aF rfl,trivial⟩) (fun r hr=>hr▸h);clear h;refine aR.mk Tryz.func339 (by kernel_rfl) QY rfl fun Q b=> ?_;unfold m7;repeat' first| (first|apply vI|apply nu)<;>(simp only[go_sem])|fail
 all_goals first|with_reducible refine aP b _ rfl rfl ?_|skip
 all_goals first|exact nU (by omega)|exact l8 (by omega)|exact fX (by omega)|rfl
theorem YN(h:K (dB (decide (¬(-1<=n/\n<=63)))) H nx):afB ES [dI n] H nx K:=by
 refine aC.pure (args0:=[dI n]) (R:=fun a=>a=dB (decide (¬(-1<=n/\n<=63)))) ?_ rfl (aK ⟨aF rfl,trivial⟩) (fun r hr=>hr▸h);clear h;refine aR.mk Tryz.func279 (by kernel_rfl) XA rfl fun Q b=> ?_;unfold sR;repeat' first| (first|apply vI|apply cV)<;>(simp only[go_sem])|fail
 all_goals first|with_reducible refine aP b _ rfl rfl ?_|skip
 all_goals first|exact nU (by omega)|exact l8 (by omega)|exact fX (by omega)|rfl
theorem YU(h:K (dB (decide (¬(0<=n/\n<=3)))) H nx):afB EU [dI n] H nx K:=by
 refine aC.pure (args0:=[dI n]) (R:=fun a=>a=dB (decide (¬(0<=n/\n<=3)))) ?_ rfl (aK ⟨aF rfl,trivial⟩) (fun r hr=>hr▸h);clear h;refine aR.mk Tryz.func272 (by kernel_rfl) WZ rfl fun Q b=> ?_;unfold sP;repeat' first| (first|apply vI|apply cV)<;>(simp only[go_sem])|fail
 all_goals first|with_reducible refine aP b _ rfl rfl ?_|skip
 all_goals first|exact nU (by omega)|exact l8 (by omega)|exact fX (by omega)|rfl
theorem ak(h:K (dB (decide (¬(0<=n/\n<=3)))) H nx):afB EK [dI n] H nx K:=by
 refine aC.pure (args0:=[dI n]) (R:=fun a=>a=dB (decide (¬(0<=n/\n<=3)))) ?_ rfl (aK ⟨aF rfl,trivial⟩) (fun r hr=>hr▸h);clear h;refine aR.mk Tryz.func328 (by kernel_rfl) W7 rfl fun Q b=> ?_;unfold sY;repeat' first| (first|apply vI|apply cV)<;>(simp only[go_sem])|fail
 all_goals first|with_reducible refine aP b _ rfl rfl ?_|skip
 all_goals first|exact nU (by omega)|exact l8 (by omega)|exact fX (by omega)|rfl
theorem BK{l:List Int}(hl:l.length<2^40){b:D}(a:CvD H (fun _=>True) id 0 (dS (l.map aH)) b)(h:K (dB (decide (All l 0 65535))) H nx):afB nI [b] H nx K:=by
 refine aC.pure (args0:=[dS (l.map aH)]) (R:=fun c=>c=dB (decide (All l 0 65535))) ?_ rfl (aK ⟨a,trivial⟩) (fun r hr=>hr▸h);clear h;refine aR.mk Tryz.func327 (by kernel_rfl) T6 rfl fun Q d=> ?_;unfold pW;repeat' first| (first|apply vI|refine fO (caps:=[]) (p:=fun x=>decide (¬(0<=x/\x<=65535))) hl rfl (aF rfl) (lI rfl) (fun x _ H nx K h=>SH h) ?_)<;>(simp only[go_sem])|fail
 all_goals first|with_reducible refine aP d _ rfl rfl ?_|skip
 all_goals exact nU R7.symm
theorem vk{l:List Int}(hl:l.length<2^40){b:D}(a:CvD H (fun _=>True) id 0 (dA [.isl (l.map aH)]) b)(h:K (dB (decide ((l.length:Int)=64/\All l 0 65535))) H nx):afB J3 [b] H nx K:=by
 refine aC.pure (args0:=[dA [.isl (l.map aH)]]) (R:=fun c=>c=dB (decide ((l.length:Int)=64/\All l 0 65535))) ?_ rfl (aK ⟨a,trivial⟩) (fun r hr=>hr▸h);clear h;refine aR.mk Tryz.func278 (by kernel_rfl) oa rfl fun Q d=> ?_;unfold AE;repeat' first| (first|apply vI|refine Y6 (fun h=> ?_) fun h=> ?_|refine BK hl (aF rfl) ?_)<;>(simp only[go_sem])|fail
 all_goals first|with_reducible refine aP d _ rfl rfl ?_|skip
 all_goals first|exact fX (by grind)|exact nU (by grind)
theorem CT{w:List Int}{u:List Int}(hw:w.length<2^40)(hu:u.length<2^40){b:D}(a:CvD H (fun _=>True) id 0 (dA [.isl (w.map aH),.isl (u.map aH)]) b)(h:K (dB (decide (o7 w u))) H nx):afB CK [b] H nx K:=by
 refine aC.pure (args0:=[dA [.isl (w.map aH),.isl (u.map aH)]]) (R:=fun c=>c=dB (decide (o7 w u))) ?_ rfl (aK ⟨a,trivial⟩) (fun r hr=>hr▸h);clear h;refine aR.mk Tryz.func195 (by kernel_rfl) mj rfl fun Q d=> ?_;unfold zL;repeat' first| (first|apply vI|refine Y6 (fun h=> ?_) fun h=> ?_|refine vk hw (aF rfl) ?_|refine fO (l:=u) (caps:=[]) (p:=fun x=>decide (¬(-1<=x/\x<=63))) hu rfl (aF rfl) (lI rfl) (fun x _ H nx K h=>YN h) ?_)<;>(simp only[go_sem])|fail
 all_goals first|with_reducible refine aP d _ rfl rfl ?_|skip
 all_goals first|exact fX (by unfold o7;rw[R7 (lo:=-1)];grind)|exact nU (by unfold o7;rw[R7 (lo:=-1)];grind)
theorem uj{q:Req}(b:q.data.length<2^40)(hl:q.lanes.length<2^40)(h:K (dB (decide (cR q))) H nx):afB JR [dA (dM q)] H nx K:=by
 refine aC.pure (args0:=[dA (dM q)]) (R:=fun c=>c=dB (decide (cR q))) ?_ rfl (aK ⟨aF rfl,trivial⟩) (fun r hr=>hr▸h);clear h;refine aR.mk Tryz.func277 (by kernel_rfl) kl rfl fun Q a=> ?_;unfold zR;repeat' first| (first|apply vI|refine Y6 (fun h=> ?_) fun h=> ?_|apply cV|apply jD|apply CP|refine BK b (aF rfl) ?_|refine fO (l:=q.lanes) (caps:=[]) (p:=fun x=>decide (¬(0<=x/\x<=3))) hl rfl (aF rfl) (lI rfl) (fun x _ H nx K h=>ak h) ?_)<;>(simp only[go_sem])| ((refine y5 (fun h=> ?_) (fun h=> ?_))<;>try subst h)|fail
 all_goals first|with_reducible refine aP a _ rfl rfl ?_|skip
 all_goals
  have e:=@R7 q.lanes 0 3
  have d:wrM q=true↔(q.kind=2\/q.kind=4):=by simp[wrM]
  clear a
  first|exact fX (by unfold cR nG;grind)|exact l8 (by unfold cR nG;grind)|exact nU (by unfold cR nG;grind)
theorem UN{q:Req}(a:q.data.length<2^40)(hl:q.lanes.length<2^40)(h:K (dB (decide (¬cR q))) H nx):afB y9 [dA (dM q)] H nx K:=by
 refine aC.pure (args0:=[dA (dM q)]) (R:=fun b=>b=dB (decide (¬cR q))) ?_ rfl (aK ⟨aF rfl,trivial⟩) (fun r hr=>hr▸h);clear h;refine aR.mk Tryz.func276 (by kernel_rfl) TE rfl fun Q c=> ?_;unfold oF;repeat' first| (first|apply vI|apply uj a hl)<;>(simp only[go_sem])|fail
 all_goals first|with_reducible refine aP c _ rfl rfl ?_|skip
 all_goals first|exact nU (by omega)|exact l8 (by omega)|exact fX (by omega)|rfl
theorem ZP{p:Prog}(hp:p.length<2^40)(a: ∀q∈p,q.data.length<2^40/\q.lanes.length<2^40)(h:K (dB (decide (¬pN p))) H nx):afB EM [dS (p.map dM)] H nx K:=by
 refine aC.pure (args0:=[dS (p.map dM)]) (R:=fun c=>c=dB (decide (¬pN p))) ?_ rfl (aK ⟨aF rfl,trivial⟩) (fun r hr=>hr▸h);clear h;refine aR.mk Tryz.func274 (by kernel_rfl) WD rfl fun Q d=> ?_;unfold sD;repeat' first| (first|apply vI|refine Y6 (fun h=> ?_) fun h=> ?_|refine rE (l:=p) (caps:=[]) (p:=fun q=>decide (¬cR q)) hp rfl (aF rfl) (lI rfl) (fun x b H nx K h=>UN (a x b).1 (a x b).2 h) ?_)<;>(simp only[go_sem])|fail
 all_goals first|with_reducible refine aP d _ rfl rfl ?_|skip
 all_goals first|exact l8 (by unfold pN;grind)|exact fX (by unfold pN;grind)|exact nU (by unfold pN;grind)
theorem J2{c:Cfg}(hc:iN c)(h:K (dB (decide (bH c))) H nx):afB JV [dA (bI c)] H nx K:=by
 refine aC.pure (args0:=[dA (bI c)]) (R:=fun b=>b=dB (decide (bH c))) ?_ rfl (aK ⟨aF rfl,trivial⟩) (fun r hr=>hr▸h);clear h;refine aR.mk Tryz.func194 (by kernel_rfl) ic rfl fun Q d=> ?_;unfold z9;repeat' first| (first|apply vI|refine Y6 (fun h=> ?_) fun h=> ?_|apply ss hc.map|refine fO (l:=c.lat) (caps:=[]) (p:=fun x=>decide (¬(0<=x/\x<=3))) hc.lat rfl (aF rfl) (lI rfl) (fun x _ H nx K h=>YU h) ?_|refine pI (l:=c.cN) (caps:=[]) (p:=fun q=>decide (¬pN q)) hc.cN rfl (aF rfl) (lI rfl) (fun x a H nx K h=>ZP (hc.prog x a) (hc.req x a) h) ?_)<;>(simp only[go_sem])|fail
 all_goals first|with_reducible refine aP d _ rfl rfl ?_|skip
 all_goals
  have e:=@R7 c.lat 0 3
  first|exact l8 (by unfold bH;grind)|exact fX (by unfold bH;grind)|exact nU (by unfold bH;grind)
theorem gU{c:Cfg}{who:Int}(hp:c.cN.length=3)(a:pA c who n)(h:K (dI (bQ c who n).id) H nx):afB iT [dA (bI c),dI who,dI n] H nx K:=by
 refine aC.pure (args0:=[dA (bI c),dI who,dI n]) (R:=fun b=>b=dI (bQ c who n).id) ?_ rfl (aK ⟨aF rfl,aF rfl,aF rfl,trivial⟩) (fun r hr=>hr▸h);clear h;refine aR.mk Tryz.func280 (by kernel_rfl) SM rfl fun Q d=> ?_;unfold oM;obtain⟨e,f,g⟩:=a;repeat' first|apply vI<;>(simp only[go_sem])|refine⟨by omega,?_⟩|fail
 all_goals first|with_reducible refine aP d _ rfl rfl ?_|skip
 all_goals first|rfl|exact nP (by omega)
end
attribute [go_sem] ab0
section
variable{H:aA}{nx:Nat}{K:afC}
theorem XB{a:Int}(h:K (dB false) H nx):afB sW [dI a] H nx K:=by
 refine aC.pure (args0:=[dI a]) (R:=fun b=>b=dB false) ?_ rfl (aK ⟨aF rfl,trivial⟩) (fun r hr=>hr▸h);clear h;refine aR.mk Tryz.func305 (by kernel_rfl) UQ rfl fun Q c=> ?_;unfold qJ;repeat' first|apply vI<;>(simp only[go_sem])|fail
 all_goals first|with_reducible refine aP c _ rfl rfl ?_|skip
 all_goals first|rfl|simp
def ib(a b:Int):Int:=if a<b then-1 else if a>b then 1 else 0
theorem TC{a:Int}{b:Int}(h:K (dI (ib a b)) H nx):afB oH [dI a,dI b] H nx K:=by
 refine aC.pure (args0:=[dI a,dI b]) (R:=fun c=>c=dI (ib a b)) ?_ rfl (aK ⟨aF rfl,aF rfl,trivial⟩) (fun r hr=>hr▸h);clear h;refine aR.mk Tryz.func227 (by kernel_rfl) QU rfl fun Q d=> ?_;unfold nD;repeat' first| (first|apply vI|apply XB)<;>(simp only[go_sem])|refine iE (fun h=> ?_) fun h=> ?_|fail
 all_goals first|with_reducible refine aP d _ rfl rfl ?_|skip
 all_goals exact nP (by unfold ib;grind)
def orI(a b:Int):Int:=if a≠0 then a else b
theorem ur{a:Int}{b:Int}{e:D}(c:CvD H (fun _=>True) id 0 (dS [aH a,aH b]) e)(h:K (dI (orI a b)) H nx):afB JK [e] H nx K:=by
 refine aC.pure (args0:=[dS [aH a,aH b]]) (R:=fun j=>j=dI (orI a b)) ?_ rfl (aK ⟨c,trivial⟩) (fun r hr=>hr▸h);clear h;refine aR.mk Tryz.func226 (by kernel_rfl) jz rfl fun Q f=> ?_;unfold AH;obtain⟨l,hl⟩: ∃l,l=[a,b]:=⟨_,rfl⟩
 have he:[aH a,aH b]=l.map aH:=by rw[hl];rfl
 have hlen:l.length=2:=by rw[hl];rfl
 rw[he];repeat' first|apply vI<;>(simp only[go_sem])|fail
 (refine aJ.loop (α:={k:Nat//k<=2/\(∀i,i<k->l.getD i default=0)}) (fun u=>en [(8,dI u.1),(7,dI 2),(6,dS (l.map aH)),(3,dI 0)]) (fun _=>.nil) _ (fun u=>2-u.1) ⟨0,by omega,(by intros;first|trivial|omega)⟩ (bF (abG _) (by repeat' first|exact C1|refine xqI rfl rfl ?_|refine xqV rfl (by omega) ?_|fail)) ?_);(rintro⟨k,g,hinv⟩ o d);by_cases m:k<2
 ·repeat' first|apply vI<;>(simp only[go_sem];try simp (disch:=omega) only[Iw])|apply vT (by omega)|refine iE (fun h=> ?_) fun h=> ?_|refine⟨by omega,?_⟩|fail
  ·refine aP f (dI _) rfl rfl (nP ?_);have g:k=0\/k=1:=(by omega);have n:=hinv 0;rcases g with rfl|rfl<;>simp[hl,List.getD] at* <;>simp_all [orI]
  · (refine d _ _ _ ⟨k+1,by omega,bL hinv (by omega)⟩ (by omega) (by(try dsimp only);omega) (bF (abG _) (by repeat' first|exact C1|refine xqI rfl rfl ?_|fail)))
 ·repeat' first|apply vI<;>(simp only[go_sem])|apply vF (by omega)|fail
  refine aP f (dI _) rfl rfl (nP ?_);have n:=hinv 0 (by omega);have p:=hinv 1 (by omega);simp[hl,List.getD] at* <;>simp_all [orI]
def Dk(a b:Job):Int:=orI (ib a.who b.who) (ib a.n b.n)
theorem NB{a b:Job}:Dk a b<0↔fY a b=true:=by rw[rO];unfold Dk orI ib;grind
theorem EL{a:Job}{b:Job}(h:K (dI (Dk a b)) H nx):afB cE [dA (aT a),dA (aT b)] H nx K:=by
 refine aC.pure (args0:=[dA (aT a),dA (aT b)]) (R:=fun c=>c=dI (Dk a b)) ?_ rfl (aK ⟨aF rfl,aF rfl,trivial⟩) (fun r hr=>hr▸h);clear h;refine aR.mk Tryz.func136 (by kernel_rfl) OW rfl fun Q d=> ?_;unfold mB;repeat' first| (first|apply vI|apply TC|refine ur (DO (rows:=[aH (ib a.who b.who),aH (ib a.n b.n)]) (aN aV [ib a.who b.who,ib a.n b.n]) rfl trivial rfl rfl rfl (abG 2)) ?_)<;>(simp only[go_sem])|fail
 all_goals first|with_reducible refine aP d _ rfl rfl ?_|skip
 all_goals first|rfl|exact nP (by omega)
theorem HW(l:List Int)(hl:l.length<2^21):afB jK [dS (l.map aH)] (hp []) 0
 fun r H' n'=>∃cap,l.length<=cap/\n'=1/\H'=hp [(0,⟨1,cap,l.map aH⟩)]/\r=dO 1 0 l.length cap:=by
 refine aR.mk Tryz.func262 (by kernel_rfl) F1 rfl fun Q c=> ?_
 unfold iZ
 refine aJ.seq (aJ.mM 1 ?_)
 repeat' first|apply vI<;>(simp only[go_sem])|refine Z7 (fun h=> ?_) fun h=> ?_| (with_reducible first|refine fun(cap:Nat) (d:_<=cap)=> ?_|refine fun(e:_<=cap)=> ?_|refine fun(b:Bool)=> ?_)| ((refine y5 (fun h=> ?_) (fun h=> ?_))<;>try subst h)|refine⟨by omega,?_⟩|fail
 all_goals first
  | (have a:=abG cap
     (refine c _ _ _ _ _ 1 (dO 1 0 l.length cap) (hp [(0,⟨1,cap,l.map aH⟩)]) _ _ (.inr rfl) rfl (jT [6] (by omega) (by repeat' first|exact C1| ((with_reducible apply C0);exact CQ (by omega) rfl rfl (by rfl) rfl)| ((with_reducible apply D0);apply CJ)|fail) ⟨⟨by simp,by simp[sgL],_,rfl,cD (aN aV _) rfl rfl⟩,trivial⟩ (by simp[sgL])) ?_)
     exact⟨cap,by omega,rfl,rfl,rfl⟩)
  | (have f:l=[]:=acJ (by omega)
     subst f
     (refine c _ _ _ _ _ 1 (dO 1 0 0 0) (hp [(0,⟨1,0,([]:List Int).map aH⟩)]) _ _ (.inr rfl) rfl (jT [0] (by omega) (by repeat' first|exact C1| ((with_reducible apply C0);exact CC)| ((with_reducible apply D0);apply CJ)|fail) ⟨⟨by simp,by simp[sgL],_,rfl,cD (aN aV _) rfl rfl⟩,trivial⟩ (by simp[sgL])) ?_)
     exact⟨0,abG _,rfl,rfl,rfl⟩)
variable{l:List Int}
theorem HY(hl:l.length<2^21)(h: ∀cap,l.length<=cap->K (dO 1 nx l.length cap) (H.set nx ⟨1,cap,l.map aH⟩) (nx+1)):afB jK [dS (l.map aH)] H nx K:=by
 refine(HW l hl).JG (l0:=[]) [] rfl ⟨aF rfl,trivial⟩ trivial (by simp) (by simp) (by simp) fun r H' n' _ ⟨cap,a,b,c,d⟩=> ?_;have h:=h cap a;subst b;subst c;subst d;have e:back (tau 0 nx (nth [])) (hp [(0,⟨1,cap,l.map aH⟩)]) 1 H=H.set nx ⟨1,cap,l.map aH⟩:=by simp only[back,hp,aA.set,tau,acC,if_true,if_false,Nat.sub_zero,Nat.add_zero,Option.map_some,EG,aA.iS]
 rw[<-e] at h;exact h
theorem JU(l:List Int)(cap m:Nat)(hl:l.length<2^21)(hc:l.length<=cap):afB jY [dO 1 0 l.length cap] (hp [(0,⟨1,m,l.map aH⟩)]) 1
 fun r H' n'=>n'=1/\ ∃o',H'=hp [(0,o')]/\l9 o'/\o'=⟨1,m,l.map aH⟩/\r=dO 1 0 l.length l.length:=by
 refine aR.mk Tryz.func261 (by kernel_rfl) HP rfl fun Q a=> ?_
 unfold jM
 repeat' first|apply vI<;>(simp only[go_sem])|refine⟨by omega,?_⟩|fail
 exact jS a (dO 1 0 l.length l.length) _ _ rfl (by repeat' first|exact C1| ((with_reducible apply C0);exact CQ (by omega) rfl rfl (by rfl) rfl)| ((with_reducible apply D0);apply CJ)|fail) rfl (fB aV _) ⟨rfl,rfl⟩
variable{i:Nat}
theorem JB{cap m:Nat}(hl:l.length<2^21)(hc:l.length<=cap)(hi:i<nx)(a:H i=some ⟨1,m,l.map aH⟩)(h:K (dO 1 i l.length l.length) (H.set i ⟨1,m,l.map aH⟩) nx):
 afB jY [dO 1 i l.length cap] H nx K:=
 (JU l cap m hl hc).LD i rfl (eF ⟨EZ (by omega) rfl rfl rfl rfl,trivial⟩) hi a (fB aV _) fun r o' ⟨b,c⟩=>by subst b;subst c;exact h
theorem U3(l:List Int)(hl:l.length<2^21):afB gW [dS (l.map aH)] (hp []) 0
 fun r H' n'=>∃cap,l.length<=cap/\n'=1/\H'=hp [(0,⟨1,cap,l.map aH⟩)]/\r=dO 1 0 l.length l.length:=by
 refine aR.mk Tryz.func185 (by kernel_rfl) TB rfl fun Q b=> ?_
 unfold oO
 repeat' first| (first|apply vI|refine HY hl (fun cap a=> ?_)|refine JB hl a (by omega) rfl ?_)<;>(simp only[go_sem])|fail
 (refine b _ _ _ _ _ 1 (dO 1 0 l.length l.length) (hp [(0,⟨1,cap,l.map aH⟩)]) _ _ (.inr rfl) rfl (jT [5] (by omega) (by repeat' first|exact C1| ((with_reducible apply C0);exact CQ (by omega) rfl rfl (by rfl) rfl)| ((with_reducible apply D0);apply CJ)|fail) ⟨⟨by simp,by simp[sgL],_,rfl,cD (aN aV _) rfl rfl⟩,trivial⟩ (by simp[sgL])) ?_)
 exact⟨cap,a,rfl,rfl,rfl⟩
theorem mH(hl:l.length<2^21)(h: ∀m,l.length<=m->K (dO 1 nx l.length l.length) (H.set nx ⟨1,m,l.map aH⟩) (nx+1)):afB gW [dS (l.map aH)] H nx K:=by
 refine(U3 l hl).JG (l0:=[]) [] rfl ⟨aF rfl,trivial⟩ trivial (by simp) (by simp) (by simp) fun r H' n' _ ⟨cap,a,b,c,d⟩=> ?_;have h:=h cap a;subst b;subst c;subst d;have e:back (tau 0 nx (nth [])) (hp [(0,⟨1,cap,l.map aH⟩)]) 1 H=H.set nx ⟨1,cap,l.map aH⟩:=by simp only[back,hp,aA.set,tau,acC,if_true,if_false,Nat.sub_zero,Nat.add_zero,Option.map_some,EG,aA.iS]
 rw[<-e] at h;exact h
theorem LP{τ:Nat->Nat}{n m:Nat}{l:List Job}:bM.rn τ ⟨n,m,l.map aT⟩=⟨n,m,l.map aT⟩:=by refine sZ fun r hr x a=> ?_;obtain⟨y,_,rfl⟩:=abP.1 hr;exact abX.1 (dQ y).2 x a
theorem BD(l:List Job)(hl:l.length<2^21):afB gA [dS (l.map aT)] (hp []) 0
 fun r H' n'=>∃cap,l.length<=cap/\n'=1/\H'=hp [(0,⟨5,cap,l.map aT⟩)]/\r=dO 5 0 l.length cap:=by
 refine aR.mk Tryz.func318 (by kernel_rfl) yP rfl fun Q c=> ?_
 unfold fN
 refine aJ.seq (aJ.mM 5 ?_)
 repeat' first|apply vI<;>(simp only[go_sem])|refine Z7 (fun h=> ?_) fun h=> ?_| (with_reducible first|refine fun(cap:Nat) (d:_<=cap)=> ?_|refine fun(e:_<=cap)=> ?_|refine fun(b:Bool)=> ?_)| ((refine y5 (fun h=> ?_) (fun h=> ?_))<;>try subst h)|refine⟨by omega,?_⟩|fail
 all_goals first
  | (have a:=abG cap
     (refine c _ _ _ _ _ 1 (dO 5 0 l.length cap) (hp [(0,⟨5,cap,l.map aT⟩)]) _ _ (.inr rfl) rfl (jT [6] (by omega) (by repeat' first|exact C1| ((with_reducible apply C0);exact CQ (by omega) rfl rfl (by rfl) rfl)| ((with_reducible apply D0);apply CJ)|fail) ⟨⟨by simp,by simp[sgL],_,rfl,cD (aN dQ _) rfl rfl⟩,trivial⟩ (by simp[sgL])) ?_)
     exact⟨cap,by omega,rfl,rfl,rfl⟩)
  | (have f:l=[]:=acJ (by omega)
     subst f
     (refine c _ _ _ _ _ 1 (dO 5 0 0 0) (hp [(0,⟨5,0,([]:List Job).map aT⟩)]) _ _ (.inr rfl) rfl (jT [0] (by omega) (by repeat' first|exact C1| ((with_reducible apply C0);exact CC)| ((with_reducible apply D0);apply CJ)|fail) ⟨⟨by simp,by simp[sgL],_,rfl,cD (aN dQ _) rfl rfl⟩,trivial⟩ (by simp[sgL])) ?_)
     exact⟨0,abG _,rfl,rfl,rfl⟩)
theorem A1{l:List Job}(hl:l.length<2^21)(h: ∀cap,l.length<=cap->K (dO 5 nx l.length cap) (H.set nx ⟨5,cap,l.map aT⟩) (nx+1)):afB gA [dS (l.map aT)] H nx K:=by
 refine(BD l hl).JG (l0:=[]) [] rfl ⟨aF rfl,trivial⟩ trivial (by simp) (by simp) (by simp) fun r H' n' _ ⟨cap,a,b,c,d⟩=> ?_;have h:=h cap a;subst b;subst c;subst d;have e:back (tau 0 nx (nth [])) (hp [(0,⟨5,cap,l.map aT⟩)]) 1 H=H.set nx ⟨5,cap,l.map aT⟩:=by simp only[back,hp,aA.set,tau,acC,if_true,if_false,Nat.sub_zero,Nat.add_zero,Option.map_some,LP,aA.iS]
 rw[<-e] at h;exact h
theorem BJ(l:List Job)(cap m:Nat)(hl:l.length<2^21)(hc:l.length<=cap):afB gK [dO 5 0 l.length cap] (hp [(0,⟨5,m,l.map aT⟩)]) 1
 fun r H' n'=>n'=1/\ ∃o',H'=hp [(0,o')]/\l9 o'/\o'=⟨5,m,l.map aT⟩/\r=dO 5 0 l.length l.length:=by
 refine aR.mk Tryz.func317 (by kernel_rfl) A5 rfl fun Q a=> ?_
 unfold gB
 repeat' first|apply vI<;>(simp only[go_sem])|refine⟨by omega,?_⟩|fail
 exact jS a (dO 5 0 l.length l.length) _ _ rfl (by repeat' first|exact C1| ((with_reducible apply C0);exact CQ (by omega) rfl rfl (by rfl) rfl)| ((with_reducible apply D0);apply CJ)|fail) rfl (fB dQ _) ⟨rfl,rfl⟩
theorem BX{l:List Job}{cap m:Nat}(hl:l.length<2^21)(hc:l.length<=cap)(hi:i<nx)(a:H i=some ⟨5,m,l.map aT⟩)(h:K (dO 5 i l.length l.length) (H.set i ⟨5,m,l.map aT⟩) nx):
 afB gK [dO 5 i l.length cap] H nx K:=
 (BJ l cap m hl hc).LD i rfl (eF ⟨EZ (by omega) rfl rfl rfl rfl,trivial⟩) hi a (fB dQ _) fun r o' ⟨b,c⟩=>by subst b;subst c;exact h
theorem GR(l:List Job)(hl:l.length<2^21):afB iY [dS (l.map aT)] (hp []) 0
 fun r H' n'=>∃cap,l.length<=cap/\n'=1/\H'=hp [(0,⟨5,cap,l.map aT⟩)]/\r=dO 5 0 l.length l.length:=by
 refine aR.mk Tryz.func260 (by kernel_rfl) FC rfl fun Q b=> ?_
 unfold iO
 repeat' first| (first|apply vI|refine A1 hl (fun cap a=> ?_)|refine BX hl a (by omega) rfl ?_)<;>(simp only[go_sem])|fail
 (refine b _ _ _ _ _ 1 (dO 5 0 l.length l.length) (hp [(0,⟨5,cap,l.map aT⟩)]) _ _ (.inr rfl) rfl (jT [5] (by omega) (by repeat' first|exact C1| ((with_reducible apply C0);exact CQ (by omega) rfl rfl (by rfl) rfl)| ((with_reducible apply D0);apply CJ)|fail) ⟨⟨by simp,by simp[sgL],_,rfl,cD (aN dQ _) rfl rfl⟩,trivial⟩ (by simp[sgL])) ?_)
 exact⟨cap,a,rfl,rfl,rfl⟩
theorem HD{l:List Job}(hl:l.length<2^21)(h: ∀m,l.length<=m->K (dO 5 nx l.length l.length) (H.set nx ⟨5,m,l.map aT⟩) (nx+1)):afB iY [dS (l.map aT)] H nx K:=by
 refine(GR l hl).JG (l0:=[]) [] rfl ⟨aF rfl,trivial⟩ trivial (by simp) (by simp) (by simp) fun r H' n' _ ⟨cap,a,b,c,d⟩=> ?_;have h:=h cap a;subst b;subst c;subst d;have e:back (tau 0 nx (nth [])) (hp [(0,⟨5,cap,l.map aT⟩)]) 1 H=H.set nx ⟨5,cap,l.map aT⟩:=by simp only[back,hp,aA.set,tau,acC,if_true,if_false,Nat.sub_zero,Nat.add_zero,Option.map_some,LP,aA.iS]
 rw[<-e] at h;exact h
theorem WK(l:List Job)(hl:l.length<2^21)(f: ∀j∈l,j.rsp.data.length<2^21):afB iI [dS (l.map aT)] (hp []) 0
 fun r H' n'=>∃cap,l.length<=cap/\n'=1/\H'=hp [(0,⟨5,cap,l.map aT⟩)]/\r=dO 5 0 l.length l.length:=by
 refine aR.mk Tryz.func184 (by kernel_rfl) UZ rfl fun Q g=> ?_
 unfold qF
 repeat' first| (first|apply vI|refine HD hl (fun m0 c=> ?_))<;>(simp only[go_sem])|fail
 refine aJ.B2 1 (β:=Nat) (fun b k=>en [(10,dI k),(9,dI l.length),(8,dO 5 b l.length l.length),(3,dO 5 b l.length l.length)])
  (fun b k=>hp [(b,⟨5,m0,l.map aT⟩)]) (fun k=>k<=l.length) (fun k=>l.length-k) 0 (by(refine eM [4] (by omega) (by repeat' first|exact C1|refine xqI rfl rfl ?_|refine xqO (by omega) rfl rfl (by rfl) ?_|fail) ⟨⟨by simp,by simp[sgL],_,rfl,cD (aN dQ _) rfl rfl⟩,trivial⟩ (by simp[sgL]))) (by omega) ?_
 rintro k h i d
 by_cases a:k<l.length
 ·have e:=f _ (bT a);repeat' first| (first|apply vI|refine mH e (fun m hm=> ?_))<;>(simp only[go_sem];try simp (disch:=omega) only[Iw])|apply vT (by omega)|refine⟨by omega,?_⟩|fail
  exact d _ _ _ (k+1) (by omega) (by(refine eM [8] (by omega) (by repeat' first|exact C1|refine xqI rfl rfl ?_|refine xqO (by omega) rfl rfl (by rfl) ?_|fail) ⟨⟨by simp,by simp[sgL],_,rfl,Oz (R:=l.map aT) (r':=aT (l.getD k default)) rfl rfl (aaP a) (fun r hr=>(aN dQ l r hr).2) rfl (aG (bE rfl) (aG (bE rfl) (aG (bE rfl) (aG (bE rfl) (aG (cP aV rfl rfl (abG _) (by simp)) cJ)))))⟩,trivial⟩ (by simp[sgL]))) (by omega) (by omega)
 ·repeat' first|apply vI<;>(simp only[go_sem])|apply vF (by omega)|fail
  (refine g _ _ _ _ _ 1 (dO 5 0 l.length l.length) (hp [(0,⟨5,m0,l.map aT⟩)]) _ _ (.inr rfl) rfl (jT [8] (by omega) (by repeat' first|exact C1| ((with_reducible apply C0);exact CQ (by omega) rfl rfl (by rfl) rfl)| ((with_reducible apply D0);apply CJ)|fail) ⟨⟨by simp,by simp[sgL],_,rfl,cD (aN dQ _) rfl rfl⟩,trivial⟩ (by simp[sgL])) ?_);exact⟨m0,c,rfl,rfl,rfl⟩
theorem nT{l:List Job}(hl:l.length<2^21)(a: ∀j∈l,j.rsp.data.length<2^21)(h: ∀m,l.length<=m->K (dO 5 nx l.length l.length) (H.set nx ⟨5,m,l.map aT⟩) (nx+1)):afB iI [dS (l.map aT)] H nx K:=by
 refine(WK l hl a).JG (l0:=[]) [] rfl ⟨aF rfl,trivial⟩ trivial (by simp) (by simp) (by simp) fun r H' n' _ ⟨cap,b,c,d,e⟩=> ?_;have h:=h cap b;subst c;subst d;subst e;have f:back (tau 0 nx (nth [])) (hp [(0,⟨5,cap,l.map aT⟩)]) 1 H=H.set nx ⟨5,cap,l.map aT⟩:=by simp only[back,hp,aA.set,tau,acC,if_true,if_false,Nat.sub_zero,Nat.add_zero,Option.map_some,LP,aA.iS]
 rw[<-f] at h;exact h
theorem JD(w u:List Int)(hw:w.length<2^21)(hu:u.length<2^21):afB iG [dA [.isl (w.map aH),.isl (u.map aH)]] (hp []) 0
 fun r H' n'=>∃m0 m1,w.length<=m0/\u.length<=m1/\n'=2/\H'=hp [(0,⟨1,m0,w.map aH⟩),(1,⟨1,m1,u.map aH⟩)]/\r=dA [.osl 1 0 0 w.length w.length,.osl 1 1 0 u.length u.length]:=by
 refine aR.mk Tryz.func181 (by kernel_rfl) I2 rfl fun Q c=> ?_
 unfold jP
 repeat' first| (first|apply vI|refine mH hw (fun m0 a=> ?_)|refine mH hu (fun m1 b=> ?_))<;>(simp only[go_sem])|fail
 (refine c _ _ _ _ _ 2 (dA [.osl 1 0 0 w.length w.length,.osl 1 1 0 u.length u.length]) (hp [(0,⟨1,m0,w.map aH⟩),(1,⟨1,m1,u.map aH⟩)]) _ _ (.inr rfl) rfl (jT [12,13] (by omega) (by repeat' first|exact C1| ((with_reducible apply C0);exact CQ (by omega) rfl rfl (by rfl) rfl)| ((with_reducible apply D0);apply C9)|exact C3|apply C4|fail) ⟨⟨by simp,by simp[sgL],_,rfl,cD (aN aV _) rfl rfl⟩,⟨by simp,by simp[sgL],_,rfl,cD (aN aV _) rfl rfl⟩,trivial⟩ (by simp[sgL])) ?_)
 exact⟨m0,m1,a,b,rfl,rfl,rfl⟩
theorem vK{w u:List Int}(hw:w.length<2^21)(hu:u.length<2^21)(h: ∀m0 m1,w.length<=m0->u.length<=m1->K (dA [.osl 1 nx 0 w.length w.length,.osl 1 (nx+1) 0 u.length u.length]) ((H.set nx ⟨1,m0,w.map aH⟩).set (nx+1) ⟨1,m1,u.map aH⟩) (nx+2)):afB iG [dA [.isl (w.map aH),.isl (u.map aH)]] H nx K:=by
 refine(JD w u hw hu).JG (l0:=[]) [] rfl ⟨aF rfl,trivial⟩ trivial (by simp) (by simp) (by simp) fun r H' n' _ ⟨m0,m1,b,a,c,d,e⟩=> ?_;have h:=h m0 m1 b a;subst c;subst d;subst e;have f:back (tau 0 nx (nth [])) (hp [(0,⟨1,m0,w.map aH⟩),(1,⟨1,m1,u.map aH⟩)]) 2 H=(H.set nx ⟨1,m0,w.map aH⟩).set (nx+1) ⟨1,m1,u.map aH⟩:=by simp[back,hp,aA.set,aA.nil,tau,nth,EG,LP,aA.iS,aA.S5]
 rw[<-f] at h;exact h
def oIm(i0 i1 a b c d c0 c1 c2 e f g:Nat)(s:TSt):List D1:=[.osl 1 i0 0 s.words.length c0,.osl 1 i1 0 s.holds.length c1,.osl 1 a 0 s.asked.length c2,.osl 5 b 0 s.wait.length e,.osl 5 c 0 s.done.length f,.osl 5 d 0 s.told.length g]
theorem H8{x:Int}(hl:l.length<2^40){c:D}(a:CvD H (fun _=>True) id 0 (dS (l.map aH)) c)(h:K (dI (bP (fun y=>decide (x=y)) l)) H nx):afB mR [c,dI x] H nx K:=by
 refine aC.pure (args0:=[dS (l.map aH),dI x]) (R:=fun e=>e=dI (bP (fun y=>decide (x=y)) l)) ?_ rfl (aK ⟨a,aF rfl,trivial⟩) (fun r hr=>hr▸h);clear h;refine aR.mk Tryz.func333 (by kernel_rfl) GG rfl fun Q d=> ?_;unfold i9;repeat' first|apply vI<;>(simp only[go_sem])|fail
 (refine aJ.loop (α:={k:Nat//k<=l.length/\(∀i,i<k->(fun y=>decide (x=y)) (l.getD i default)=false)}) (fun u=>en [(8,dI u.1),(7,dI l.length),(1,dI x),(0,dS (l.map aH))]) (fun _=>.nil) _ (fun u=>l.length-u.1) ⟨0,by omega,(by intros;first|trivial|omega)⟩ (bF (abG _) (by repeat' first|exact C1|refine xqI rfl rfl ?_|fail)) ?_);(rintro⟨k,g,hinv⟩ j b);by_cases f:k<l.length
 ·repeat' first|apply vI<;>(simp only[go_sem];try simp (disch:=omega) only[Iw])|apply vT (by omega)|refine iE (fun h=> ?_) fun h=> ?_|refine⟨by omega,?_⟩|fail
  ·refine aP d _ rfl rfl (nP (acD (CU (by omega) (decide_eq_true (by assumption)) hinv)))
  · (refine b _ _ _ ⟨k+1,by omega,bL hinv (decide_eq_false (by assumption))⟩ (by omega) (by(try dsimp only);omega) (bF (abG _) (by repeat' first|exact C1|refine xqI rfl rfl ?_|fail)))
 ·repeat' first|apply vI<;>(simp only[go_sem])|apply vF (by omega)|fail
  refine aP d (dI _) rfl rfl (nP (acD (qC fun i hi=>hinv i (by omega))))
theorem EC{x:Int}(hl:l.length<2^40){b:D}(a:CvD H (fun _=>True) id 0 (dS (l.map aH)) b)(h:K (dB (decide (x∈l))) H nx):afB kE [b,dI x] H nx K:=by
 refine aC.pure (args0:=[dS (l.map aH),dI x]) (R:=fun c=>c=dB (decide (x∈l))) ?_ rfl (aK ⟨a,aF rfl,trivial⟩) (fun r hr=>hr▸h);clear h;refine aR.mk Tryz.func302 (by kernel_rfl) DA rfl fun Q d=> ?_;unfold gX;repeat' first| (first|apply vI|refine H8 hl (aF rfl) ?_)<;>(simp only[go_sem])|fail
 all_goals first|with_reducible refine aP d _ rfl rfl ?_|skip
 all_goals refine nU (cU.trans ⟨fun⟨y,e,he⟩=> ?_,fun h=>⟨x,h,by simp⟩⟩)
 all_goals have:=of_decide_eq_true he;subst this;exact e
theorem ux{f:Nat->Int}{n k:Nat}{x:Int}(c:k<n)(a:x=f k):((List.range k).map f++List.replicate (n-k) (0:Int)).set k x=(List.range (k+1)).map f++List.replicate (n-(k+1)) 0:=by
 have e:n-k=(n-(k+1))+1:=by omega
 have b:((List.range k).map f).length=k:=by simp
 rw[aeQ,b,if_neg (adU k),adE,e,List.replicate_succ,List.set_cons_zero,adL,abU,abY,a];rfl
theorem WL{addr:Int}{many:Int}{wrap:Bool}(h:K (dS ((bO addr many wrap).map aH)) H nx):afB BZ [dI addr,dI many,dB wrap] H nx K:=by
 refine aC.fresh (R:=fun j=>j=dS ((bO addr many wrap).map aH)) ?_ rfl (fun r hr=>hr▸h);clear h;refine aR.mk Tryz.func332 (by kernel_rfl) VE rfl fun Q g=> ?_;unfold qG;by_cases a:pF addr many wrap
 ·obtain⟨m,n,q,f4,s,i,t,u⟩:=VR a;repeat' first| (first|apply vI|apply CP)<;>(simp only[go_sem,i,eq_true a])|refine⟨by omega,?_⟩|fail
  refine aJ.B2 1 (β:=Nat) (fun b k=>en [(18,dI k),(17,dI many),(7,dO 1 b many.toNat many.toNat),(2,dB wrap),(1,dI many),(0,dI addr)])
   (fun b k=>hp [(b,⟨1,many.toNat,((List.range k).map (bAt addr many wrap)++List.replicate (many.toNat-k) (0:Int)).map aH⟩)]) (fun k=>k<=many.toNat) (fun k=>many.toNat-k) 0 ?_ (by omega) ?_
  · (refine eM [7] (by omega) (by repeat' first|exact C1|refine xqI rfl rfl ?_|refine xqO (by omega) rfl rfl (by rfl) ?_|refine xqV rfl (by omega) ?_|fail) ⟨⟨by simp,by simp[sgL],_,rfl,cD (aN aV _) (by simp[aH]) rfl⟩,trivial⟩ (by simp[sgL]))
  intro k v w d;have hlen:((List.range k).map (bAt addr many wrap)++List.replicate (many.toNat-k) (0:Int)).length=many.toNat:=by simp;omega
  by_cases c:k<many.toNat
  ·obtain⟨x,y,z⟩:=qq a k c;have e:(addr+k).tmod many=(addr+k)%many:=ac0 (by omega);have o:=Int.emod_lt_of_pos (addr+k) n;have p:=Int.emod_nonneg (addr+k) m;repeat' first|apply vI<;>(simp only[go_sem,i,e,acE,hlen];try simp (disch:=omega) only[Iw])|apply vT (by omega)| ((refine y5 (fun h=> ?_) (fun h=> ?_))<;>try subst h)|refine⟨by omega,?_⟩|fail
   ·exact d _ _ _ (k+1) (by omega) (by(refine eM [12] (by omega) (by repeat' first|exact C1|refine xqI rfl rfl ?_|refine xqO (by omega) rfl rfl (by rfl) ?_|fail) ⟨⟨by simp,by simp[sgL],_,rfl,cD (aN aV _) (congrArg _ (ux c (by simp only[bAt,if_true])).symm) rfl⟩,trivial⟩ (by simp[sgL]))) (by omega) (by omega)
   ·exact d _ _ _ (k+1) (by omega) (by(refine eM [12] (by omega) (by repeat' first|exact C1|refine xqI rfl rfl ?_|refine xqO (by omega) rfl rfl (by rfl) ?_|fail) ⟨⟨by simp,by simp[sgL],_,rfl,cD (aN aV _) (congrArg _ (ux c (by simp[bAt])).symm) rfl⟩,trivial⟩ (by simp[sgL]))) (by omega) (by omega)
  ·repeat' first|apply vI<;>(simp only[go_sem])|apply vF (by omega)|fail
   have f:k=many.toNat:=(by omega);subst f;exact KX g (dS ((bO addr many wrap).map aH)) _ rfl (pL (l:=bO addr many wrap) aV (by simp[bO,a];rfl) (yI a).symm (by rw[yI a];omega) trivial) rfl rfl
 ·repeat' first| (first|apply vI|apply CP)<;>(simp only[go_sem,eq_false a])|fail
  exact KX g (dS []) _ rfl vZ rfl (by simp[bO,a])
theorem B9{q:Req}(h:K (dS ((bO q.addr q.many q.wrap).map aH)) H nx):afB jV [dA (dM q)] H nx K:=by
 refine aC.fresh (R:=fun a=>a=dS ((bO q.addr q.many q.wrap).map aH)) ?_ rfl (fun r hr=>hr▸h);clear h;refine aR.mk Tryz.func300 (by kernel_rfl) NH rfl fun Q b=> ?_;unfold lR;repeat' first| (first|apply vI|apply WL)<;>(simp only[go_sem])|fail
 all_goals exact KX b (dS _) _ rfl (aF rfl) rfl rfl
theorem S0{l:List Rng}{q:Req}(hl:l.length<2^40)(h:K (dI (eL l (bO q.addr q.many q.wrap))) H nx):afB wT [dS (l.map cX),dA (dM q)] H nx K:=by
 refine aC.pure (args0:=[dS (l.map cX),dA (dM q)]) (R:=fun g=>g=dI (eL l (bO q.addr q.many q.wrap))) ?_ rfl (aK ⟨aF rfl,aF rfl,trivial⟩) (fun r hr=>hr▸h);clear h;refine aR.mk Tryz.func253 (by kernel_rfl) jy rfl fun Q c=> ?_;unfold zM;have j:=DY (addr:=q.addr) (many:=q.many) (wrap:=q.wrap);repeat' first| (first|apply vI|apply B9)<;>(simp only[go_sem])|fail
 generalize bO q.addr q.many q.wrap=all at*;(refine aJ.loop (α:={k:Nat//k<=all.length/\(∀i,i<k->¬bP (inR · (all.getD i default)) l<0/\bP (inR · (all.getD i default)) l=bP (inR · (all.getD 0 default)) l)}) (fun u=>en [(12,dI u.1),(11,dI all.length),(10,dS (all.map aH)),(5,dI (if u.1=0 then-1 else bP (inR · (all.getD 0 default)) l)),(0,dS (l.map cX))]) (fun _=>.nil) _ (fun u=>all.length-u.1) ⟨0,by omega,(by intros;first|trivial|omega)⟩ (bF (abG _) (by repeat' first|exact C1|refine xqI rfl rfl ?_|fail)) ?_);(rintro⟨k,m,hinv⟩ n d);by_cases b:k<all.length
 ·repeat' first| (first|apply vI|refine Y6 (fun h=> ?_) fun h=> ?_|apply Z5 hl)<;>(simp only[go_sem];try simp (disch:=omega) only[Iw])|apply vT (by omega)|refine iE (fun h=> ?_) fun h=> ?_|refine⟨by omega,?_⟩|fail
  ·refine aP c (dI _) rfl rfl (nP ?_);rcases ac3 k with a|a
   ·subst a;have o:=Sw (p:=(inR · (all.getD 0 default))) (l:=l);by_cases f: ∀i,i<all.length->1<=i->bP (inR · (all.getD i default)) l=bP (inR · (all.getD 0 default)) l;·rw[QZ (by omega) f];omega
    ·have: ∃i,i<all.length/\ ¬bP (inR · (all.getD i default)) l=bP (inR · (all.getD 0 default)) l:=Classical.byContradiction fun hc=>f fun i hi _=>Classical.byContradiction fun e=>hc ⟨i,hi,e⟩;obtain⟨i,hi,e⟩:=this;rw[N7 hi e]
   ·have:=(hinv 0 a).1;exact(N7 b (by omega)).symm
  ·refine aP c (dI _) rfl rfl (nP (N7 b (fun he=> ?_)).symm);grind
  all_goals
   have heq:bP (inR · (all.getD k default)) l=bP (inR · (all.getD 0 default)) l:=by grind
   refine d _ _ _ ⟨k+1,by omega,bL hinv ⟨by omega,heq⟩⟩ (by omega) (by dsimp only;omega) (bF (abG _) ?_)
   dsimp only
   rw[if_neg (Nat.succ_ne_zero k),<-heq]
   repeat' first|exact C1|refine xqI rfl rfl ?_|fail
 ·repeat' first|apply vI<;>(simp only[go_sem])|apply vF (by omega)|fail
  refine aP c (dI _) rfl rfl (nP ?_);by_cases a:k=0;·rw[if_pos a,X5 (by omega)]
  ·rw[if_neg a,QZ (by omega) (fun i hi _=>(hinv i (by omega)).2)]
theorem Dm{old:Int}{new:Int}{lanes:Int}(a:0<=old/\old<=65535)(b:0<=new/\new<=65535)(e:0<=lanes/\lanes<=3)(h:K (dI (xE old new lanes)) H nx):afB Q5 [dI old,dI new,dI lanes] H nx K:=by
 refine aC.pure (args0:=[dI old,dI new,dI lanes]) (R:=fun d=>d=dI (xE old new lanes)) ?_ rfl (aK ⟨aF rfl,aF rfl,aF rfl,trivial⟩) (fun r hr=>hr▸h);clear h;refine aR.mk Tryz.func301 (by kernel_rfl) zx rfl fun Q c=> ?_;unfold FH;have hc:lanes=0\/lanes=1\/lanes=2\/lanes=3:=by omega
 rcases hc with rfl|rfl|rfl|rfl;all_goals repeat' first|apply vI<;>(simp only[go_sem])|fail
 ·exact aP c (dI (Bq old new (zh 0))) rfl rfl (nP (by rw[Wx];exact XW a b (by omega)))
 ·exact aP c (dI (Bq old new (zh 1))) rfl rfl (nP (by rw[Wm];exact XW a b (by omega)))
 ·exact aP c (dI (Bq old new (zh 2))) rfl rfl (nP (by rw[Xa];exact XW a b (by omega)))
 ·exact aP c (dI (Bq old new (zh 3))) rfl rfl (nP (by rw[Xk];exact XW a b (by omega)))
theorem Wq{w all:List Int}:(List.range all.length).map (fun k=>w.getD (all.getD k default).toNat default)=all.map fun a=>w.getD a.toNat default:=by
 apply aeB;·simp
 ·intro i c b;simp only[abT] at b;simp[List.getD,b]
theorem TW(l:List Int)(p:Nat)(n:Int)(hl:fW l)(f:p<2^50)(u: -2^31<n/\n<2^31):afB aD [dP 2 0,dI n] (hp [(0,rdO l p)]) 1
 fun r H' n'=>n'=1/\ ∃o',H'=hp [(0,o')]/\l9 o'/\o'=rdO l (p+1)/\ ∃x:Int,r=dI x/\0<=x/\(x<n\/x=0):=by
 have g:=hl.len
 refine aR.mk Tryz.func178 (by kernel_rfl) RE rfl fun Q d=> ?_
 unfold mY
 simp only[rdO]
 repeat' first| (first|apply vI|refine Y6 (fun h=> ?_) fun h=> ?_)<;>(simp only[go_sem];try simp (disch:=omega) only[Iw])|refine iE (fun h=> ?_) fun h=> ?_|refine⟨by omega,?_⟩|fail
 ·exact jS d (dI 0) _ _ rfl (aF rfl) rfl (bU l (p+1)) ⟨rfl,0,rfl,by omega,by omega⟩
 ·exact jS d (dI 0) _ _ rfl (aF rfl) rfl (bU l (p+1)) ⟨rfl,0,rfl,by omega,by omega⟩
 ·have i:=hl.at (p+1-1:Int).toNat;rw[IntWalk.i64_in (l.getD _ _) (by omega)];exact jS d (dI _) _ _ rfl (aF rfl) rfl (bU l (p+1)) ⟨rfl,_,rfl,ad9 _ (by omega),.inl (aeA _ (by omega))⟩
 ·have j:(p:Int)+1-1=p:=by omega
  rw[j] at*;have c:(0:Int)<l.length:=by omega
  have k:=ad9 (l.length:Int) (show (0:Int)<=p by omega);have m:=aeA (p:Int) c;have o:=ad9 (l.length:Int) (show (0:Int)<=p*7+3 by omega);have s:=aeA ((p:Int)*7+3) c;refine⟨⟨k,m⟩,by omega,⟨o,s⟩,by omega,kI ?_⟩;have i:=hl.at ((p:Int).tmod l.length).toNat;have v:=hl.at ((p*7+3:Int).tmod l.length).toNat;generalize l.getD ((p:Int).tmod l.length).toNat default=e at*;generalize l.getD ((p*7+3:Int).tmod l.length).toNat default=x2 at*;have d1:0<=(p:Int).tdiv l.length:=Int.tdiv_nonneg (by omega) (by omega);have d2:(p:Int).tdiv l.length<=p:=Int.tdiv_le_self _ (by omega);generalize (p:Int).tdiv l.length=q at*;simp (disch:=omega) only[IntWalk.i64_in];have w:0<=(e:Int)*131+x2*1117+p*29+q*53/\(e:Int)*131+x2*1117+p*29+q*53<2^60:=by omega
  generalize (e:Int)*131+x2*1117+p*29+q*53=X at*;have d3:0<=X.tdiv 64:=Int.tdiv_nonneg (by omega) (by omega);have y:X.tdiv 64<=X:=Int.tdiv_le_self _ (by omega);have t:=Xb (a:=X) (b:=X.tdiv 64) (by omega) (by omega);repeat' first|apply vI<;>(simp only[go_sem];try simp (disch:=omega) only[Iw])|refine⟨by omega,?_⟩|fail
  exact jS d (dI _) _ _ rfl (aF rfl) rfl (bU l (p+1)) ⟨rfl,_,rfl,ad9 _ t,.inl (aeA _ (by omega))⟩
variable{p:Nat}
theorem aM{n:Int}(hl:fW l)(a:p<2^50)(b: -2^31<n/\n<2^31)(hi:i<nx)(c:H i=some (rdO l p))(h: ∀x:Int,0<=x->(x<n\/x=0)->K (dI x) (H.set i (rdO l (p+1))) nx):
 afB aD [dP 2 i,dI n] H nx K:=
 (TW l p n hl a b).LD i rfl (eF ⟨AO (by omega) rfl,aF rfl,trivial⟩) hi c (bU l p) fun r o' ⟨d,x,e,f,g⟩=>by subst d;subst e;exact h x f g
theorem LW(l:List Int)(p:Nat):afB cM [dP 2 0,dI 99999] (hp [(0,rdO l p)]) 1
 fun r H' n'=>n'=1/\ ∃o',H'=hp [(0,o')]/\l9 o'/\o'=rdO l p/\r=dB false:=by
 refine FI rfl fun Q a=> ?_
 unfold lD
 repeat' first|apply vI<;>(simp only[go_sem])|fail
 exact jS a (dB false) _ _ rfl (aF rfl) rfl (bU l p) ⟨rfl,rfl⟩
theorem pM(hi:i<nx)(a:H i=some (rdO l p))(h:K (dB false) (H.set i (rdO l p)) nx):afB cM [dP 2 i,dI 99999] H nx K:=(LW l p).LD i rfl (eF ⟨AO (by omega) rfl,aF rfl,trivial⟩) hi a (bU l p) fun r o' ⟨b,c⟩=>by subst b;subst c;exact h
theorem fz(l:List Int)(p:Nat)(hl:fW l)(b:p+7<2^50):afB oY [dP 2 0] (hp [(0,rdO l p)]) 1
 fun c H' n'=>n'=1/\ ∃o',H'=hp [(0,o')]/\l9 o'/\ ∃(a:Nat) (x:Int),o'=rdO l a/\p<=a/\a<=p+7/\c=dI x/\(0<=x/\x<=63):=by
 refine aR.mk Tryz.func287 (by kernel_rfl) WG rfl fun Q d=> ?_
 unfold sU
 repeat' first| (first|apply vI|refine aM hl (by omega) (by omega) (by omega) rfl (fun x f g=> ?_))<;>(simp only[go_sem];try simp (disch:=omega) only[Iw])|refine⟨by omega,?_⟩|fail
 have e:x=0\/x=1\/x=2\/x=3\/x=4\/x=5\/x=6\/x=7:=by omega
 rcases e with rfl|rfl|rfl|rfl|rfl|rfl|rfl|rfl
 all_goals simp only[go_sem];try simp (disch:=omega) only[Iw]
 all_goals repeat' first|apply vI<;>(simp only[go_sem])|refine⟨by omega,?_⟩|fail
 all_goals exact jS d (dI _) _ _ rfl (aF rfl) rfl (bU _ _) ⟨_,_,rfl,by omega,by omega,rfl,by omega,by omega⟩
theorem MH(hl:fW l)(b:p+7<2^50)(hi:i<nx)(c:H i=some (rdO l p))(h: ∀(a:Nat) (x:Int),p<=a->a<=p+7->(0<=x/\x<=63)->K (dI x) (H.set i (rdO l a)) nx):
 afB oY [dP 2 i] H nx K:=
 (fz l p hl b).LD i rfl (eF ⟨AO (by omega) rfl,trivial⟩) hi c (bU l p) fun r o' ⟨a,x,e,f,g,j,k⟩=>by subst e;subst j;exact BG (A:=fun d=>K d (H.set i (rdO l a)) nx) rfl (h a x f g k)
theorem lz(l:List Int)(p:Nat)(hl:fW l)(c:p+8<2^50):afB lY [dP 2 0,dI 99999] (hp [(0,rdO l p)]) 1
 fun d H' n'=>n'=1/\ ∃o',H'=hp [(0,o')]/\l9 o'/\ ∃(b:Nat) (m:List Rng),o'=rdO l b/\p<=b/\b<=p+8/\d=dS (m.map cX)/\(oC m):=by
 refine NQ rfl fun Q a=> ?_
 unfold o8
 repeat' first| (first|apply vI|refine aM hl (by omega) (by omega) (by omega) rfl (fun x f g=> ?_)|refine pM (by omega) rfl ?_)<;>(simp only[go_sem];try simp (disch:=omega) only[Iw])|refine iE (fun h=> ?_) fun h=> ?_|refine⟨by omega,?_⟩|fail
 ·exact jS a (dS ((Pe _ _).map cX)) _ _ rfl (pL (l:=Pe _ _) N5 rfl rfl (by simp[Pe]) (by decide)) rfl (bU _ _) ⟨_,Pe _ _,rfl,by omega,by omega,rfl,Uu _ _ (by omega)⟩
 ·have e:x=0\/x=1\/x=2:=by omega
  rcases e with rfl|rfl|rfl;·exact jS a (dS (((N0 false).take 1).map cX)) _ _ rfl (DO (rows:=((N0 false).take 1).map cX) (aN N5 _) rfl (by decide) rfl rfl rfl (by simp[N0])) rfl (bU _ _) ⟨_,(N0 false).take 1,rfl,by omega,by omega,rfl,XU _ 1 (by decide)⟩
  ·exact jS a (dS (((N0 false).take 2).map cX)) _ _ rfl (DO (rows:=((N0 false).take 2).map cX) (aN N5 _) rfl (by decide) rfl rfl rfl (by simp[N0])) rfl (bU _ _) ⟨_,(N0 false).take 2,rfl,by omega,by omega,rfl,XU _ 2 (by decide)⟩
  ·exact jS a (dS (((N0 _).take 3).map cX)) _ _ rfl (DO (rows:=((N0 _).take 3).map cX) (aN N5 _) rfl (by decide) rfl rfl rfl (by simp[N0])) rfl (bU _ _) ⟨_,(N0 _).take 3,rfl,by omega,by omega,rfl,XU _ 3 (by decide)⟩
 ·exact jS a (dS (((N0 _).take 3).map cX)) _ _ rfl (DO (rows:=((N0 _).take 3).map cX) (aN N5 _) rfl (by decide) rfl rfl rfl (by simp[N0])) rfl (bU _ _) ⟨_,(N0 _).take 3,rfl,by omega,by omega,rfl,XU _ 3 (by decide)⟩
theorem lu(hl:fW l)(b:p+8<2^50)(hi:i<nx)(c:H i=some (rdO l p))(h: ∀(a:Nat) (m:List Rng),p<=a->a<=p+8->(oC m)->K (dS (m.map cX)) (H.set i (rdO l a)) nx):
 afB lY [dP 2 i,dI 99999] H nx K:=
 (lz l p hl b).LD i rfl (eF ⟨AO (by omega) rfl,aF rfl,trivial⟩) hi c (bU l p) fun r o' ⟨a,m,e,f,g,j,k⟩=>by subst e;subst j;exact BG (A:=fun d=>K d (H.set i (rdO l a)) nx) rfl (h a m f g k)
theorem Q3{Q:AQ}(k: ∀ex f H2 e d nh d2 h F σ,ex=AEx.normal\/ex=AEx.ret->mT H2 f vJ=some d->CvR 1 d H2 nh d2 h F σ->(nh=1/\ ∃o',h=hp [(0,o')]/\l9 o'/\ ∃(a:Nat) (m:List Rng),o'=rdO l a/\p<=a/\a<=p+20/\d2=dS (m.map cX)/\(m.length<=8))->Q ex f H2 e)
 {f:Env} {H2:aA} {e b n cap ext a:Nat} {rows:List (List D1)} {m:List Rng} (o:mT H2 f vJ=some (.one (.c (.osl 4 b 0 n cap)))) (q:H2 0=some (rdO l a)) (r:H2 b=some ⟨4,ext,rows⟩) (s:p<=a) (t:a<=p+20) (i:rows.take n=m.map cX) (g:m.length<=8/\n<=cap/\b≠0/\n<=rows.length):Q .ret f H2 e:=by
 obtain⟨g,w,u,v⟩:=g
 have j:n=(m.map cX).length:=by rw[<-i];simp;omega
 exact jS k (dS (m.map cX)) _ _ o (DO (rows:=m.map cX) (aN N5 _) j u r rfl (by rw[<-j];exact i) (by omega)) q (bU _ _) ⟨a,m,rfl,s,t,rfl,g⟩
theorem R3(l:List Int)(p:Nat)(n:Int)(f:0<n/\n<9000)(hl:fW l)(c:p+1<2^50):afB cM [dP 2 0,dI n] (hp [(0,rdO l p)]) 1
 fun d H' n'=>n'=1/\ ∃o',H'=hp [(0,o')]/\l9 o'/\ ∃(a:Nat) (b:Bool),o'=rdO l a/\p<=a/\a<=p+1/\d=dB b/\(True):=by
 refine FI rfl fun Q e=> ?_
 unfold lD
 repeat' first| (first|apply vI|apply Y4 (by omega)|refine aM hl (by omega) (by omega) (by omega) rfl (fun x g h=> ?_))<;>(simp only[go_sem];try simp (disch:=omega) only[Iw])|fail
 exact jS e (dB _) _ _ rfl (aF rfl) rfl (bU _ _) ⟨_,_,rfl,by omega,by omega,rfl,trivial⟩
theorem eX{n:Int}(e:0<n/\n<9000)(hl:fW l)(c:p+1<2^50)(hi:i<nx)(f:H i=some (rdO l p))(h: ∀(a:Nat) (b:Bool),p<=a->a<=p+1->(True)->K (dB b) (H.set i (rdO l a)) nx):
 afB cM [dP 2 i,dI n] H nx K:=
 (R3 l p n e hl c).LD i rfl (eF ⟨AO (by omega) rfl,aF rfl,trivial⟩) hi f (bU l p) fun r o' ⟨a,b,g,j,k,m,o⟩=>by subst g;subst m;exact BG (A:=fun d=>K d (H.set i (rdO l a)) nx) rfl (h a b j k o)
theorem Y9(l:List Int)(p:Nat)(hl:fW l)(e:p+20<2^50):afB lY [dP 2 0,dI 1] (hp [(0,rdO l p)]) 1
 fun g H' n'=>n'=1/\ ∃o',H'=hp [(0,o')]/\l9 o'/\ ∃(c:Nat) (m:List Rng),o'=rdO l c/\p<=c/\c<=p+20/\g=dS (m.map cX)/\(m.length<=8):=by
 refine NQ rfl fun Q a=> ?_
 unfold o8
 repeat' first| (first|apply vI|refine aM hl (by omega) (by omega) (by omega) rfl (fun x i j=> ?_))<;>(simp only[go_sem];try simp (disch:=omega) only[Iw])|refine iE (fun h=> ?_) fun h=> ?_|refine⟨by omega,?_⟩|fail
 case' refine_2.refine_1=>(have d:x=0\/x=1\/x=2:=by omega);rcases d with rfl|rfl|rfl
 all_goals (refine(fun(h: ∀b:Bool,_)=>eX (n:=1) (by omega) hl (by omega) (by omega) rfl (fun v b o q _=> ?_)) (fun _=>trivial);cases b)
 all_goals (simp only[go_sem];try apply kI)
 all_goals repeat' first|apply vI<;>(simp only[go_sem])|fail
 all_goals first
  | (refine aM hl (by omega) (by omega) (by omega) rfl (fun k r s=> ?_)
     have t:k=0\/k=1\/k=2\/k=3:=by omega
     rcases t with rfl|rfl|rfl|rfl
     all_goals first| (exfalso;omega)| (simp only[go_sem];try apply kI))
  |skip
 all_goals try repeat' first| (first|apply vI|refine aM hl (by omega) (by omega) (by omega) rfl (fun x i j=> ?_))<;>(simp only[go_sem];try simp (disch:=omega) only[Iw])|refine iE (fun h=> ?_) fun h=> ?_| (with_reducible first|refine fun(cap:Nat) (f:_<=cap)=> ?_|refine fun(u:_<=cap)=> ?_)|refine⟨by omega,?_⟩|fail
 all_goals first
  | (have d:x=0\/x=1\/x=2:=by omega
     rcases d with rfl|rfl|rfl
     all_goals first| (exfalso;omega)| (simp only[go_sem];try simp (disch:=omega) only[Iw];(refine⟨by omega,kI ?_⟩);repeat' first|apply vI<;>(simp only[go_sem])|fail)|skip)
  |skip
 all_goals try refine⟨by omega,?_⟩
 all_goals try (try apply kI;repeat' first|apply vI<;>(simp only[go_sem])|fail)
 all_goals first
  |exact Q3 a (m:=[⟨_,_,_,_⟩]) rfl rfl rfl (by omega) (by omega) rfl ⟨by simp,by omega,by decide,by simp⟩
  |exact Q3 a (m:=[⟨_,_,_,_⟩,⟨_,_,_,_⟩]) rfl rfl rfl (by omega) (by omega) rfl ⟨by simp,by omega,by decide,by simp⟩
  |exact Q3 a (m:=[⟨_,_,_,_⟩,⟨_,_,_,_⟩,⟨_,_,_,_⟩]) rfl rfl rfl (by omega) (by omega) rfl ⟨by simp,by omega,by decide,by simp⟩
  |exact Q3 a (m:=[⟨_,_,_,_⟩,⟨_,_,_,_⟩,⟨_,_,_,_⟩,⟨_,_,_,_⟩]) rfl rfl rfl (by omega) (by omega) rfl ⟨by simp,by omega,by decide,by simp⟩
  |exact Q3 a (m:=[⟨_,_,_,_⟩,⟨_,_,_,_⟩,⟨_,_,_,_⟩,⟨_,_,_,_⟩,⟨_,_,_,_⟩]) rfl rfl rfl (by omega) (by omega) rfl ⟨by simp,by omega,by decide,by simp⟩
  |exact Q3 a (m:=[⟨_,_,_,_⟩,⟨_,_,_,_⟩,⟨_,_,_,_⟩,⟨_,_,_,_⟩,⟨_,_,_,_⟩,⟨_,_,_,_⟩]) rfl rfl rfl (by omega) (by omega) rfl ⟨by simp,by omega,by decide,by simp⟩
  |exact Q3 a (m:=[⟨_,_,_,_⟩,⟨_,_,_,_⟩,⟨_,_,_,_⟩,⟨_,_,_,_⟩,⟨_,_,_,_⟩,⟨_,_,_,_⟩,⟨_,_,_,_⟩]) rfl rfl rfl (by omega) (by omega) rfl ⟨by simp,by omega,by decide,by simp⟩
theorem fa(hl:fW l)(b:p+20<2^50)(hi:i<nx)(c:H i=some (rdO l p))(h: ∀(a:Nat) (m:List Rng),p<=a->a<=p+20->(m.length<=8)->K (dS (m.map cX)) (H.set i (rdO l a)) nx):
 afB lY [dP 2 i,dI 1] H nx K:=
 (Y9 l p hl b).LD i rfl (eF ⟨AO (by omega) rfl,aF rfl,trivial⟩) hi c (bU l p) fun r o' ⟨a,m,e,f,g,j,k⟩=>by subst e;subst j;exact BG (A:=fun d=>K d (H.set i (rdO l a)) nx) rfl (h a m f g k)
theorem Tz{i0 i1 a b c d c0 c1 c2 e f g:Nat}{s:TSt}:(oIm i0 i1 a b c d c0 c1 c2 e f g s).length=6:=rfl
theorem Od{i0 i1 a b c d c0 c1 c2 e f g:Nat}{s:TSt}:(oIm i0 i1 a b c d c0 c1 c2 e f g s).take 6=oIm i0 i1 a b c d c0 c1 c2 e f g s:=rfl
theorem Oh{i0 i1 a b c d c0 c1 c2 e f g:Nat}{s:TSt}:(oIm i0 i1 a b c d c0 c1 c2 e f g s).drop 6=[]:=rfl
theorem Ql{i0 i1 a b c d c0 c1 c2 e f g k:Nat}{s:TSt}{cs:List D1}:j9 cs (k+1) (oIm i0 i1 a b c d c0 c1 c2 e f g s)=j9 cs (k+1) [.osl 1 i0 0 s.words.length c0,.osl 1 i1 0 s.holds.length c1,.osl 1 a 0 s.asked.length c2,.osl 5 b 0 s.wait.length e,.osl 5 c 0 s.done.length f,.osl 5 d 0 s.told.length g]:=rfl
attribute [go_sem] Tz Od Oh Ql
end
attribute [go_sem] Gx Ln
section
variable{H:aA}{nx:Nat}{K:afC}
theorem nQ{a:Job}{b:Job}(h:K (dB (fY a b)) H nx):afB sH [dA (aT a),dA (aT b)] H nx K:=by
 refine aC.pure (args0:=[dA (aT a),dA (aT b)]) (R:=fun c=>c=dB (fY a b)) ?_ rfl (aK ⟨aF rfl,aF rfl,trivial⟩) (fun r hr=>hr▸h);clear h;refine aR.mk Tryz.func292 (by kernel_rfl) T0 rfl fun Q d=> ?_;unfold pZ;repeat' first| (first|apply vI|refine Y6 (fun h=> ?_) fun h=> ?_)<;>(simp only[go_sem])|fail
 all_goals first|with_reducible refine aP d _ rfl rfl ?_|skip
 all_goals first|exact l8 (by grind)|exact fX (by grind)|exact nU (by grind)
theorem lG{l:List Job}{who:Int}{n:Int}(hl:l.length<2^40)(h:K (dI (bP (iJ who n) l)) H nx):afB tQ [dS (l.map aT),dI who,dI n] H nx K:=by
 refine aC.pure (args0:=[dS (l.map aT),dI who,dI n]) (R:=fun c=>c=dI (bP (iJ who n) l)) ?_ rfl (aK ⟨aF rfl,aF rfl,aF rfl,trivial⟩) (fun r hr=>hr▸h);clear h;refine aR.mk Tryz.func216 (by kernel_rfl) th rfl fun Q b=> ?_;unfold DP;repeat' first|apply vI<;>(simp only[go_sem])|fail
 (refine aJ.loop (α:={k:Nat//k<=l.length/\(∀i,i<k->iJ who n (l.getD i default)=false)}) (fun u=>en [(7,dI u.1),(2,dI n),(1,dI who),(0,dS (l.map aT))]) (fun _=>.nil) _ (fun u=>l.length-u.1) ⟨0,by omega,(by intros;first|trivial|omega)⟩ (bF (abG _) (by repeat' first|exact C1|refine xqI rfl rfl ?_|fail)) ?_);(rintro⟨k,d,hinv⟩ e a);repeat' first| (first|apply vI|refine Y6 (fun h=> ?_) fun h=> ?_)<;>(simp only[go_sem];try simp (disch:=omega) only[Iw])|refine iE (fun h=> ?_) fun h=> ?_|refine⟨by omega,?_⟩|fail
 ·refine aP b _ rfl rfl (nP (acD (CU (by omega) (decide_eq_true (by omega)) hinv)))
 · (refine a _ _ _ ⟨k+1,by omega,bL hinv (decide_eq_false (by omega))⟩ (by omega) (by(try dsimp only);omega) (bF (abG _) (by repeat' first|exact C1|refine xqI rfl rfl ?_|fail)))
 · (refine a _ _ _ ⟨k+1,by omega,bL hinv (decide_eq_false (by omega))⟩ (by omega) (by(try dsimp only);omega) (bF (abG _) (by repeat' first|exact C1|refine xqI rfl rfl ?_|fail)))
 ·refine aP b _ rfl rfl (nP (acD (qC fun i hi=>hinv i (by omega))))
theorem R5(l:List Job)(j:Job)(hl:l.length<2^21):afB nA [dS (l.map aT),dA (aT j)] .nil 0 fun r _ v=>v=0/\r.imm=true/\r=dS ((tL l j).map aT):=by
 refine aR.mk Tryz.func217 (by kernel_rfl) kq rfl fun Q s=> ?_;unfold AD;generalize n:l.findIdx (fY j)=f;repeat' first|apply vI<;>(simp only[go_sem])|fail
 refine aJ.Ph 1 (α:={p:Nat×Nat//p.1<=l.length/\(GH l j f p.1).length<=p.2}) (fun b u=>en [(7,dI u.1.1),(6,dB (decide (f<u.1.1))),(5,dO 5 b (GH l j f u.1.1).length u.1.2),(3,.one (.c (.fF (aT j)))),(0,dS (l.map aT))])
  (fun b u=>hp [(b,⟨5,u.1.2,(GH l j f u.1.1).map aT⟩)]) (fun u=>l.length-u.1.1) ⟨(0,0),by omega,by simp[GH]⟩ (by(refine eM [2] (by omega) (by repeat' first|exact C1|refine xqI rfl rfl ?_|refine xqO (by omega) rfl rfl (by rfl) ?_| (with_reducible apply C2)| ((with_reducible apply D0);exact CI rfl (by simp) rfl rfl rfl)|fail) ⟨⟨by simp,by simp[sgL],_,rfl,cD (aN dQ _) rfl rfl⟩,trivial⟩ (by simp[sgL]))) ?_
 rintro⟨⟨k,cap⟩,t,hc⟩ x d;dsimp only at t hc;have hlen:=Rr (j:=j) (f:=f) t;by_cases a:k<l.length
 ·have m:=fun e:k<=f=>Uq (j:=j) a (n▸e);rw[n] at m;repeat' first| (first|apply vI|refine Y6 (fun h=> ?_) fun h=> ?_|apply nQ)<;>(simp only[go_sem];try simp (disch:=omega) only[Iw])|apply vT (by omega)| (with_reducible first|refine fun(cap:Nat) (g:_<=cap)=> ?_|refine fun(o:_<=cap)=> ?_)| ((refine y5 (fun h=> ?_) (fun h=> ?_))<;>try subst h)|refine⟨by omega,?_⟩|fail
  ·have H:=Sh (j:=j) a (show k=f from (m (by omega)).1 (by assumption));have i:=congrArg List.length H;simp only[abL,List.length_cons,List.length_nil] at i;have e:=(m (by omega)).1 (by assumption);(refine d _ _ _ ⟨(k+1,cap),by omega,by dsimp only;omega⟩ (by omega) (by(try dsimp only);omega) (by(refine eM [33] (by omega) (by repeat' first|exact C1|refine xqI rfl rfl ?_|refine xqO (by omega) rfl rfl (by first|rfl|omega) ?_| (with_reducible apply C2)| ((with_reducible apply C0);(exact CG (by((try dsimp only);exact dbT (by omega))) rfl))| ((with_reducible apply D0);apply CJ)|fail) ⟨⟨by simp,by simp[sgL],_,rfl,cD (aN dQ _) (congrArg _ H) rfl⟩,trivial⟩ (by simp[sgL]))))
  ·have w: ¬k=f:=fun he=>by have:=(m (by omega)).2 he;simp_all
   have H:=Uf (j:=j) a (show k<f by omega);have i:=congrArg List.length H;simp only[abL,List.length_cons,List.length_nil] at i;(refine d _ _ _ ⟨(k+1,cap),by omega,by dsimp only;omega⟩ (by omega) (by(try dsimp only);omega) (by(refine eM [27] (by omega) (by repeat' first|exact C1|refine xqI rfl rfl ?_|refine xqO (by omega) rfl rfl (by first|rfl|omega) ?_| (with_reducible apply C2)| ((with_reducible apply C0);(exact CG (by((try dsimp only);exact dbE (by omega))) rfl))| ((with_reducible apply D0);apply CJ)|fail) ⟨⟨by simp,by simp[sgL],_,rfl,cD (aN dQ _) (congrArg _ H) rfl⟩,trivial⟩ (by simp[sgL]))))
  ·have H:=Tt (j:=j) a (show f<k by omega);have i:=congrArg List.length H;simp only[abL,List.length_cons,List.length_nil] at i;(refine d _ _ _ ⟨(k+1,cap),by omega,by dsimp only;omega⟩ (by omega) (by(try dsimp only);omega) (by(refine eM [27] (by omega) (by repeat' first|exact C1|refine xqI rfl rfl ?_|refine xqO (by omega) rfl rfl (by first|rfl|omega) ?_| (with_reducible apply C2)| ((with_reducible apply C0);(exact CG (by((try dsimp only);exact dbE (by omega))) rfl))| ((with_reducible apply D0);apply CJ)|fail) ⟨⟨by simp,by simp[sgL],_,rfl,cD (aN dQ _) (congrArg _ H) rfl⟩,trivial⟩ (by simp[sgL]))))
 ·have q:k=l.length:=by omega
  subst q;subst n;repeat' first|apply vI<;>(simp only[go_sem])|apply vF (by omega)|refine iE (fun h=> ?_) fun h=> ?_| (with_reducible first|refine fun(cap:Nat) (g:_<=cap)=> ?_|refine fun(o:_<=cap)=> ?_)|refine⟨by omega,?_⟩|fail
  ·exact KX s (dS _) _ rfl (pL (l:=GH l j _ l.length++[j]) dQ rfl (by simp) (by simp;omega) trivial) rfl (by rw[Hl (by omega)])
  ·exact KX s (dS _) _ rfl (pL (l:=GH l j _ l.length) dQ rfl (by simp) (by omega) trivial) rfl (by rw[Nj (by omega)])
theorem vq{l:List Job}{j:Job}(hl:l.length<2^21)(h:K (dS ((tL l j).map aT)) H nx):afB nA [dS (l.map aT),dA (aT j)] H nx K:=(R5 l j hl).fresh rfl (fun r hr=>hr▸h)
theorem T3(l:List Ev)(cap m:Nat)(hl:l.length<2^21)(hc:l.length<=cap):afB dL [dO 3 0 l.length cap] (hp [(0,⟨3,m,l.map eEv⟩)]) 1
 fun r H' n'=>n'=1/\ ∃o',H'=hp [(0,o')]/\l9 o'/\o'=⟨3,m,l.map eEv⟩/\r=dO 3 0 l.length l.length:=by
 refine aR.mk Tryz.func98 (by kernel_rfl) uF rfl fun Q a=> ?_
 unfold eR
 repeat' first|apply vI<;>(simp only[go_sem])|refine⟨by omega,?_⟩|fail
 exact jS a (dO 3 0 l.length l.length) _ _ rfl (by repeat' first|exact C1| ((with_reducible apply C0);exact CQ (by omega) rfl rfl (by rfl) rfl)| ((with_reducible apply D0);apply CJ)|fail) rfl (fB HF _) ⟨rfl,rfl⟩
theorem IV{l:List Ev}{cap m i:Nat}(hl:l.length<2^21)(hc:l.length<=cap)(hi:i<nx)(a:H i=some ⟨3,m,l.map eEv⟩)(h:K (dO 3 i l.length l.length) (H.set i ⟨3,m,l.map eEv⟩) nx):
 afB dL [dO 3 i l.length cap] H nx K:=
 (T3 l cap m hl hc).LD i rfl (eF ⟨EZ (by omega) rfl rfl rfl rfl,trivial⟩) hi a (fB HF _) fun r o' ⟨b,c⟩=>by subst b;subst c;exact h
end
end Go.Proofs.YtlncecohbakleaaGreat
