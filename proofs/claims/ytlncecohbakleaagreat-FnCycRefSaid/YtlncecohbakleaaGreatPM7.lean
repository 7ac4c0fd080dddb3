/- Rules and contracts. -/
import Derived.Test.YtlncecohbakleaaGreatPM5
import Derived.Test.YtlncecohbakleaaGreatPM6
import Derived.Test.YtlncecohbakleaaGreatPM4
set_option linter.unusedVariables false
set_option linter.unusedSimpArgs false
set_option maxRecDepth 100000
set_option maxHeartbeats 8000000
namespace Go.Proofs.YtlncecohbakleaaGreat
open Go Go.AM
attribute [local irreducible] aK wv aC vd wvH
section
variable{H:aA}{nx:Nat}{K:ag2}
theorem Ly(n lo up:Int):ag1 dL [dI n,dI lo,dI up] .nil 0 fun a _ _=>a.plain=true/\a=dB (decide (lo<=n/\n<=up)):=by
 refine aR.mk Tryz.func112 (by kernel_rfl) Cn rfl fun Q b=> ?_;unfold KY;repeat' first| (first|apply vI|refine Y6 (fun h=> ?_) fun h=> ?_)<;>(simp only[go_sem])|fail
 all_goals first|with_reducible refine aQ b _ rfl rfl ?_|skip
 all_goals first|exact nJ (by omega)|exact nB (by omega)|exact gV (by omega)|rfl
variable{n:Int}
theorem cQ{lo:Int}{up:Int}(h:K (dB (decide (lo<=n/\n<=up))) H nx):ag1 dL [dI n,dI lo,dI up] H nx K:=(Ly n lo up).pure rfl (aM ⟨aE rfl,aE rfl,aE rfl,trivial⟩) (fun r hr=>hr▸h)
theorem bH{lo:Int}{up:Int}(h:K (dB (decide (lo<=n/\n<=up))) H nx):ag1 bZ [dI n,dI lo,dI up] H nx K:=by
 refine aC.pure (args0:=[dI n,dI lo,dI up]) (R:=fun a=>a=dB (decide (lo<=n/\n<=up))) ?_ rfl (aM ⟨aE rfl,aE rfl,aE rfl,trivial⟩) (fun r hr=>hr▸h);clear h;refine aR.mk Tryz.func203 (by kernel_rfl) xw rfl fun Q b=> ?_;unfold EJ;repeat' first| (first|apply vI|refine Y6 (fun h=> ?_) fun h=> ?_)<;>(simp only[go_sem])|fail
 all_goals first|with_reducible refine aQ b _ rfl rfl ?_|skip
 all_goals first|exact nJ (by omega)|exact nB (by omega)|exact gV (by omega)|rfl
theorem YD(n:Int):ag1 j7 [dI n] .nil 0 fun a _ _=>a.plain=true/\a=dB (decide (0<=n/\n<=2)):=by
 refine aR.mk Tryz.func281 (by kernel_rfl) VE rfl fun Q b=> ?_;unfold qM;repeat' first| (first|apply vI|apply cQ)<;>(simp only[go_sem])|fail
 all_goals first|with_reducible refine aQ b _ rfl rfl ?_|skip
 all_goals first|exact nJ (by omega)|exact nB (by omega)|exact gV (by omega)|rfl
theorem cV(h:K (dB (decide (0<=n/\n<=2))) H nx):ag1 j7 [dI n] H nx K:=(YD n).pure rfl (aM ⟨aE rfl,trivial⟩) (fun r hr=>hr▸h)
theorem oy(h:K (dB (decide (0<=n/\n<=65535))) H nx):ag1 HP [dI n] H nx K:=by
 refine aC.pure (args0:=[dI n]) (R:=fun a=>a=dB (decide (0<=n/\n<=65535))) ?_ rfl (aM ⟨aE rfl,trivial⟩) (fun r hr=>hr▸h);clear h;refine aR.mk Tryz.func340 (by kernel_rfl) ZC rfl fun Q b=> ?_;unfold wH;repeat' first| (first|apply vI|apply cQ)<;>(simp only[go_sem])|fail
 all_goals first|with_reducible refine aQ b _ rfl rfl ?_|skip
 all_goals first|exact nJ (by omega)|exact nB (by omega)|exact gV (by omega)|rfl
variable{addr:Int}
theorem EM{many:Int}{wrap:Bool}(h:K (dB (decide (qG addr many wrap))) H nx):ag1 wU [dI addr,dI many,dB wrap] H nx K:=by
 refine aC.pure (args0:=[dI addr,dI many,dB wrap]) (R:=fun a=>a=dB (decide (qG addr many wrap))) ?_ rfl (aM ⟨aE rfl,aE rfl,aE rfl,trivial⟩) (fun r hr=>hr▸h);clear h;refine aR.mk Tryz.func104 (by kernel_rfl) ks rfl fun Q b=> ?_;unfold BT;repeat' first| (first|apply vI|refine Y6 (fun h=> ?_) fun h=> ?_| (refine Y7 (fun h=> ?_) (fun h=> ?_)<;>try subst h)|apply cQ)<;>(simp only[go_sem];try simp (disch:=omega) only[Iw])|fail
 all_goals first|with_reducible refine aQ b _ rfl rfl ?_|skip
 all_goals unfold qG
 all_goals first|exact nJ (by simp;omega)|exact nB (by simp;omega)|exact gV (by simp;omega)
theorem UT{many:Int}{wrap:Bool}(h:K (dB (decide (qG addr many wrap))) H nx):ag1 EL [dI addr,dI many,dB wrap] H nx K:=by
 refine aC.pure (args0:=[dI addr,dI many,dB wrap]) (R:=fun a=>a=dB (decide (qG addr many wrap))) ?_ rfl (aM ⟨aE rfl,aE rfl,aE rfl,trivial⟩) (fun r hr=>hr▸h);clear h;refine aR.mk Tryz.func314 (by kernel_rfl) pw rfl fun Q b=> ?_;unfold BB;repeat' first| (first|apply vI|refine Y6 (fun h=> ?_) fun h=> ?_| (refine Y7 (fun h=> ?_) (fun h=> ?_)<;>try subst h)|apply bH)<;>(simp only[go_sem];try simp (disch:=omega) only[Iw])|refine iR (fun h=> ?_) fun h=> ?_|fail
 all_goals first|with_reducible refine aQ b _ rfl rfl ?_|skip
 all_goals unfold qG
 all_goals first|exact nJ (by simp;omega)|exact nB (by simp;omega)|exact gV (by simp;omega)
variable{l:List Rng}
theorem QP(hl:l.length<2^40)(h:K (dI (bK (inR · addr) l)) H nx):ag1 AT [dS (l.map cY),dI addr] H nx K:=by
 refine aC.pure (args0:=[dS (l.map cY),dI addr]) (R:=fun c=>c=dI (bK (inR · addr) l)) ?_ rfl (aM ⟨aE rfl,aE rfl,trivial⟩) (fun r hr=>hr▸h);clear h;refine aR.mk Tryz.func315 (by kernel_rfl) ft rfl fun Q b=> ?_;unfold wV;repeat' first|apply vI<;>(simp only[go_sem])|fail
 (refine aK.loop (α:={k:Nat//k<=l.length/\(∀i,i<k->inR (l.getD i default) addr=false)}) (fun u=>en [(5,dI u.1),(1,dI addr),(0,dS (l.map cY))]) (fun _=>.nil) _ (fun u=>l.length-u.1) ⟨0,by omega,(by intros;first|trivial|omega)⟩ (bI (ac1 _) (by repeat' first|exact C1|refine xqI rfl rfl ?_|fail)) ?_);(rintro⟨k,d,hinv⟩ e a);repeat' first| (first|apply vI|apply bH)<;>(simp only[go_sem];try simp (disch:=omega) only[Iw])|refine iR (fun h=> ?_) fun h=> ?_|refine⟨by omega,?_⟩|fail
 ·refine aQ b _ rfl rfl (nK (adY (EE (by omega) (decide_eq_true (by omega)) hinv)))
 · (refine a _ _ _ ⟨k+1,by omega,bT hinv (decide_eq_false (by omega))⟩ (by omega) (by(try dsimp only);omega) (bI (ac1 _) (by repeat' first|exact C1|refine xqI rfl rfl ?_|fail)))
 ·refine aQ b _ rfl rfl (nK (adY (rU fun i hi=>hinv i (by omega))))
theorem M1{all:List Int}(hl:l.length<2^40)(d:all.length<2^40)(h:K (dI (eT l all)) H nx):ag1 wY [dS (l.map cY),dS (all.map aF)] H nx K:=by
 refine aC.pure (args0:=[dS (l.map cY),dS (all.map aF)]) (R:=fun c=>c=dI (eT l all)) ?_ rfl (aM ⟨aE rfl,aE rfl,trivial⟩) (fun r hr=>hr▸h);clear h;refine aR.mk Tryz.func249 (by kernel_rfl) X5 rfl fun Q a=> ?_;unfold tJ;repeat' first| (first|apply vI|apply QP hl)<;>(simp only[go_sem])|refine iR (fun h=> ?_) fun h=> ?_|refine⟨by omega,?_⟩|fail
 ·exact aQ a _ rfl rfl (nK (az (by omega)).symm)
 (refine aK.loop (α:={k:Nat//k<=all.length/\(∀i,i<k->1<=i->bK (inR · (all.getD i default)) l=bK (inR · (all.getD 0 default)) l)}) (fun u=>en [(6,dI u.1),(5,dI (bK (inR · (all.getD 0 default)) l)),(1,dS (all.map aF)),(0,dS (l.map cY))]) (fun _=>.nil) _ (fun u=>all.length-u.1) ⟨1,by omega,(by intros;first|trivial|omega)⟩ (bI (ac1 _) (by repeat' first|exact C1|refine xqI rfl rfl ?_|fail)) ?_);(rintro⟨k,e,hinv⟩ f b);repeat' first| (first|apply vI|apply QP hl)<;>(simp only[go_sem];try simp (disch:=omega) only[Iw])|refine iR (fun h=> ?_) fun h=> ?_|refine⟨by omega,?_⟩|fail
 ·exact aQ a _ rfl rfl (nK (O0 (i:=k) (by omega) (by omega)).symm)
 · (refine b _ _ _ ⟨k+1,by omega,bT hinv (fun _=>by omega)⟩ (by omega) (by(try dsimp only);omega) (bI (ac1 _) (by repeat' first|exact C1|refine xqI rfl rfl ?_|fail)))
 ·exact aQ a _ rfl rfl (nK (SN (by omega) (fun i hi=>hinv i (by omega))).symm)
theorem LC{q:Req}(h:K (dB (wrM q)) H nx):ag1 tG [dA (dT q)] H nx K:=by
 refine aC.pure (args0:=[dA (dT q)]) (R:=fun a=>a=dB (wrM q)) ?_ rfl (aM ⟨aE rfl,trivial⟩) (fun r hr=>hr▸h);clear h;refine aR.mk Tryz.func288 (by kernel_rfl) VD rfl fun Q b=> ?_;unfold qT;repeat' first| (first|apply vI|refine Y6 (fun h=> ?_) fun h=> ?_)<;>(simp only[go_sem])|fail
 all_goals first|with_reducible refine aQ b _ rfl rfl ?_|skip
 all_goals unfold wrM
 all_goals first|exact nJ (by omega)|exact nB (by omega)|exact gV (by omega)|rfl
theorem LK{many:Int}{wrap:Bool}(h:K (dS ((bQ addr many wrap).map aF)) H nx):ag1 tB [dI addr,dI many,dB wrap] H nx K:=by
 refine aC.fresh (R:=fun g=>g=dS ((bQ addr many wrap).map aF)) ?_ rfl (fun r hr=>hr▸h);clear h;refine aR.mk Tryz.func250 (by kernel_rfl) VI rfl fun Q e=> ?_;unfold qQ;repeat' first| (first|apply vI|apply UT)<;>(simp only[go_sem])|refine iR (fun h=> ?_) fun h=> ?_|fail
 ·exact HG e (dS []) _ rfl yA rfl (by simp[bQ,h])
 have a:=Classical.not_not.1 h;obtain⟨i,n,o,q,s,f6,t,v⟩:=W0 a;clear h;rw[f6];refine⟨i,?_⟩;rw[IntWalk.i64_in (addr-_) (by omega)];repeat' first|apply vI<;>(simp only[go_sem])|fail
 refine aK.Rf 1 (α:={p:Nat×Nat//p.1<=many.toNat/\p.1<=p.2}) (fun b u=>en [(9,dI u.1.1),(8,dI (addr-addr%many)),(7,dO 1 b u.1.1 u.1.2),(2,dB wrap),(1,dI many),(0,dI addr)])
  (fun b u=>hp [(b,⟨1,u.1.2,((List.range u.1.1).map (bAt addr many wrap)).map aF⟩)]) (fun u=>many.toNat-u.1.1) ⟨(0,0),by omega,by omega⟩ (by(refine eD [1] (by omega) (by repeat' first|exact C1|refine xqI rfl rfl ?_|refine xqO (by omega) rfl rfl (by rfl) ?_|fail) ⟨⟨by simp,by simp[sgL],_,rfl,aY (aG aP _) rfl rfl⟩,trivial⟩ (by simp[sgL]))) ?_
 rintro⟨⟨k,cap⟩,j,hc⟩ w c;dsimp only at j hc;by_cases d:k<many.toNat
 ·obtain⟨x,y,l⟩:=ur a k d;repeat' first|apply vI<;>(simp only[go_sem];try simp (disch:=omega) only[Iw])|apply vT (by omega)| (with_reducible first|refine fun(cap:Nat) (f:_<=cap)=> ?_|refine fun(m:_<=cap)=> ?_)| ((refine CK (fun h=> ?_) (fun h=> ?_))<;>try subst h)|refine⟨by omega,?_⟩|fail
  ·refine c _ _ _ ⟨(k+1,cap),by omega,by omega⟩ (by omega) (by dsimp only;omega) (by(refine eD [31] (by omega) (by repeat' first|exact C1|refine xqI rfl rfl ?_|refine xqO (by omega) rfl rfl (by rfl) ?_|fail) ⟨⟨by simp,by simp[sgL],_,rfl,aY (aG aP _) (congrArg _ (ZD (by simp only[bAt,if_true];exact l))) rfl⟩,trivial⟩ (by simp[sgL])))
  ·refine c _ _ _ ⟨(k+1,cap),by omega,by omega⟩ (by omega) (by dsimp only;omega) (by(refine eD [25] (by omega) (by repeat' first|exact C1|refine xqI rfl rfl ?_|refine xqO (by omega) rfl rfl (by rfl) ?_|fail) ⟨⟨by simp,by simp[sgL],_,rfl,aY (aG aP _) (congrArg _ (ZD rfl)) rfl⟩,trivial⟩ (by simp[sgL])))
 ·repeat' first|apply vI<;>(simp only[go_sem])|apply vF (by omega)|fail
  ·refine HG e (dS _) _ rfl (oI aP rfl (by simp) (by simpa using hc) trivial) rfl ?_;have:k=many.toNat:=(by omega);subst this;simp[bQ,a]
theorem rC(l:List Rng)(f:FuncId)(caps:List D1)(p:Rng->Bool)(hl:l.length<2^40)(hc:caps.all D1.eW=true)(j: ∀x∈l,∀(H:aA) (nx:Nat) (K:ag2),K (dB (p x)) H nx->ag1 f (dA (cY x)::caps.map fun d=>.one (.c d)) H nx K):
 ag1 cN [dS (l.map cY),.one (.c (.clo f caps))] .nil 0 fun r _ _=>r.plain=true/\r=dI (bK p l):=by
 refine aR.mk Tryz.func337 (by kernel_rfl) pU rfl fun Q g=> ?_
 unfold dW
 repeat' first|apply vI<;>(simp only[go_sem])|fail
 (refine aK.loop (α:={k:Nat//k<=l.length/\(∀i,i<k->p (l.getD i default)=false)}) (fun u=>en [(8,dI u.1),(7,dI l.length),(1,.one (.c (.clo f caps))),(0,dS (l.map cY))]) (fun _=>.nil) _ (fun u=>l.length-u.1) ⟨0,by omega,(by intros;first|trivial|omega)⟩ (bI (ac1 _) (by repeat' first|exact C1|refine xqI rfl rfl ?_| (with_reducible apply C2)| ((with_reducible apply C0);exact CH (by assumption))| ((with_reducible apply D0);apply CJ)|fail)) ?_);(rintro⟨k,m,hinv⟩ n b)
 by_cases e:k<l.length
 ·have a:l.getD k default∈l:=by simp[List.getD,e]
  repeat' first| (first|apply vI|apply j _ a _ _ _)<;>(simp only[go_sem];try simp (disch:=omega) only[Iw])|apply vT (by omega)| ((refine CK (fun h=> ?_) (fun h=> ?_))<;>try subst h)|refine⟨by omega,?_⟩|fail
  ·refine aQ g _ rfl rfl (nK (adY (EE (by omega) (by assumption) hinv)))
  · (refine b _ _ _ ⟨k+1,by omega,bT hinv (by assumption)⟩ (by omega) (by(try dsimp only);omega) (bI (ac1 _) (by repeat' first|exact C1|refine xqI rfl rfl ?_| (with_reducible apply C2)| ((with_reducible apply C0);exact CH (by assumption))| ((with_reducible apply D0);apply CJ)|fail)))
 ·repeat' first|apply vI<;>(simp only[go_sem])|apply vF (by omega)|fail
  ·refine aQ g _ rfl rfl (nK (adY (rU fun i hi=>hinv i (by omega))))
variable{f:FuncId}{caps caps0:List D1}{d:D}
theorem jW{p:Rng->Bool}(hl:l.length<2^40)(hc:caps.all D1.eW=true)(a:CvD H (fun _=>True) id 0 (dS (l.map cY)) d)(b:CvD H (fun _=>True) id 0 (.one (.c (.clo f caps))) (.one (.c (.clo f caps0))))(e: ∀x∈l,∀(H:aA) (nx:Nat) (K:ag2),K (dB (p x)) H nx->ag1 f (dA (cY x)::caps.map fun d=>.one (.c d)) H nx K)
 (h:K (dI (bK p l)) H nx):ag1 cN [d,.one (.c (.clo f caps0))] H nx K:=
 (rC l f caps p hl hc e).pure rfl (aM ⟨a,b,trivial⟩) fun r hr=>hr▸h
theorem o7(l:List Rng)(f:FuncId)(caps:List D1)(p:Rng->Bool)(hl:l.length<2^40)(hc:caps.all D1.eW=true)(a: ∀x∈l,∀(H:aA) (nx:Nat) (K:ag2),K (dB (p x)) H nx->ag1 f (dA (cY x)::caps.map fun d=>.one (.c d)) H nx K):
 ag1 cZ [dS (l.map cY),.one (.c (.clo f caps))] .nil 0 fun r _ _=>r.plain=true/\r=dB (decide (0<=bK p l)):=by
 refine aR.mk Tryz.func323 (by kernel_rfl) oN rfl fun Q b=> ?_
 unfold cU
 repeat' first| (first|apply vI|refine jW hl hc (aE rfl) (nM hc) a ?_)<;>(simp only[go_sem])|fail
 all_goals exact aQ b _ rfl rfl rfl
theorem oZ{p:Rng->Bool}(hl:l.length<2^40)(hc:caps.all D1.eW=true)(a:CvD H (fun _=>True) id 0 (dS (l.map cY)) d)(b:CvD H (fun _=>True) id 0 (.one (.c (.clo f caps))) (.one (.c (.clo f caps0))))(e: ∀x∈l,∀(H:aA) (nx:Nat) (K:ag2),K (dB (p x)) H nx->ag1 f (dA (cY x)::caps.map fun d=>.one (.c d)) H nx K)
 (h:K (dB (decide (0<=bK p l))) H nx):ag1 cZ [d,.one (.c (.clo f caps0))] H nx K:=
 (o7 l f caps p hl hc e).pure rfl (aM ⟨a,b,trivial⟩) fun r hr=>hr▸h
theorem D9(l:List Int)(f:FuncId)(caps:List D1)(p:Int->Bool)(hl:l.length<2^40)(hc:caps.all D1.eW=true)(j: ∀x∈l,∀(H:aA) (nx:Nat) (K:ag2),K (dB (p x)) H nx->ag1 f (dI x::caps.map fun d=>.one (.c d)) H nx K):
 ag1 iJ [dS (l.map aF),.one (.c (.clo f caps))] .nil 0 fun r _ _=>r.plain=true/\r=dI (bK p l):=by
 refine aR.mk Tryz.func286 (by kernel_rfl) C6 rfl fun Q g=> ?_
 unfold gU
 repeat' first|apply vI<;>(simp only[go_sem])|fail
 (refine aK.loop (α:={k:Nat//k<=l.length/\(∀i,i<k->p (l.getD i default)=false)}) (fun u=>en [(8,dI u.1),(7,dI l.length),(1,.one (.c (.clo f caps))),(0,dS (l.map aF))]) (fun _=>.nil) _ (fun u=>l.length-u.1) ⟨0,by omega,(by intros;first|trivial|omega)⟩ (bI (ac1 _) (by repeat' first|exact C1|refine xqI rfl rfl ?_| (with_reducible apply C2)| ((with_reducible apply C0);exact CH (by assumption))| ((with_reducible apply D0);apply CJ)|fail)) ?_);(rintro⟨k,m,hinv⟩ n b)
 by_cases e:k<l.length
 ·have a:l.getD k default∈l:=by simp[List.getD,e]
  repeat' first| (first|apply vI|apply j _ a _ _ _)<;>(simp only[go_sem];try simp (disch:=omega) only[Iw])|apply vT (by omega)| ((refine CK (fun h=> ?_) (fun h=> ?_))<;>try subst h)|refine⟨by omega,?_⟩|fail
  ·refine aQ g _ rfl rfl (nK (adY (EE (by omega) (by assumption) hinv)))
  · (refine b _ _ _ ⟨k+1,by omega,bT hinv (by assumption)⟩ (by omega) (by(try dsimp only);omega) (bI (ac1 _) (by repeat' first|exact C1|refine xqI rfl rfl ?_| (with_reducible apply C2)| ((with_reducible apply C0);exact CH (by assumption))| ((with_reducible apply D0);apply CJ)|fail)))
 ·repeat' first|apply vI<;>(simp only[go_sem])|apply vF (by omega)|fail
  ·refine aQ g _ rfl rfl (nK (adY (rU fun i hi=>hinv i (by omega))))
theorem D5{l:List Int}{p:Int->Bool}(hl:l.length<2^40)(hc:caps.all D1.eW=true)(a:CvD H (fun _=>True) id 0 (dS (l.map aF)) d)(b:CvD H (fun _=>True) id 0 (.one (.c (.clo f caps))) (.one (.c (.clo f caps0))))(e: ∀x∈l,∀(H:aA) (nx:Nat) (K:ag2),K (dB (p x)) H nx->ag1 f (dI x::caps.map fun d=>.one (.c d)) H nx K)
 (h:K (dI (bK p l)) H nx):ag1 iJ [d,.one (.c (.clo f caps0))] H nx K:=
 (D9 l f caps p hl hc e).pure rfl (aM ⟨a,b,trivial⟩) fun r hr=>hr▸h
theorem AB(l:List Int)(f:FuncId)(caps:List D1)(p:Int->Bool)(hl:l.length<2^40)(hc:caps.all D1.eW=true)(a: ∀x∈l,∀(H:aA) (nx:Nat) (K:ag2),K (dB (p x)) H nx->ag1 f (dI x::caps.map fun d=>.one (.c d)) H nx K):
 ag1 cF [dS (l.map aF),.one (.c (.clo f caps))] .nil 0 fun r _ _=>r.plain=true/\r=dB (decide (0<=bK p l)):=by
 refine aR.mk Tryz.func201 (by kernel_rfl) yT rfl fun Q b=> ?_
 unfold fO
 repeat' first| (first|apply vI|refine D5 hl hc (aE rfl) (nM hc) a ?_)<;>(simp only[go_sem])|fail
 all_goals exact aQ b _ rfl rfl rfl
theorem gA{l:List Int}{p:Int->Bool}(hl:l.length<2^40)(hc:caps.all D1.eW=true)(a:CvD H (fun _=>True) id 0 (dS (l.map aF)) d)(b:CvD H (fun _=>True) id 0 (.one (.c (.clo f caps))) (.one (.c (.clo f caps0))))(e: ∀x∈l,∀(H:aA) (nx:Nat) (K:ag2),K (dB (p x)) H nx->ag1 f (dI x::caps.map fun d=>.one (.c d)) H nx K)
 (h:K (dB (decide (0<=bK p l))) H nx):ag1 cF [d,.one (.c (.clo f caps0))] H nx K:=
 (AB l f caps p hl hc e).pure rfl (aM ⟨a,b,trivial⟩) fun r hr=>hr▸h
theorem vK(l:List Job)(f:FuncId)(caps:List D1)(p:Job->Bool)(hl:l.length<2^40)(hc:caps.all D1.eW=true)(j: ∀x∈l,∀(H:aA) (nx:Nat) (K:ag2),K (dB (p x)) H nx->ag1 f (dA (aL x)::caps.map fun d=>.one (.c d)) H nx K):
 ag1 dF [dS (l.map aL),.one (.c (.clo f caps))] .nil 0 fun r _ _=>r.plain=true/\r=dI (bK p l):=by
 refine aR.mk Tryz.func293 (by kernel_rfl) uH rfl fun Q g=> ?_
 unfold eP
 repeat' first|apply vI<;>(simp only[go_sem])|fail
 (refine aK.loop (α:={k:Nat//k<=l.length/\(∀i,i<k->p (l.getD i default)=false)}) (fun u=>en [(8,dI u.1),(7,dI l.length),(1,.one (.c (.clo f caps))),(0,dS (l.map aL))]) (fun _=>.nil) _ (fun u=>l.length-u.1) ⟨0,by omega,(by intros;first|trivial|omega)⟩ (bI (ac1 _) (by repeat' first|exact C1|refine xqI rfl rfl ?_| (with_reducible apply C2)| ((with_reducible apply C0);exact CH (by assumption))| ((with_reducible apply D0);apply CJ)|fail)) ?_);(rintro⟨k,m,hinv⟩ n b)
 by_cases e:k<l.length
 ·have a:l.getD k default∈l:=by simp[List.getD,e]
  repeat' first| (first|apply vI|apply j _ a _ _ _)<;>(simp only[go_sem];try simp (disch:=omega) only[Iw])|apply vT (by omega)| ((refine CK (fun h=> ?_) (fun h=> ?_))<;>try subst h)|refine⟨by omega,?_⟩|fail
  ·refine aQ g _ rfl rfl (nK (adY (EE (by omega) (by assumption) hinv)))
  · (refine b _ _ _ ⟨k+1,by omega,bT hinv (by assumption)⟩ (by omega) (by(try dsimp only);omega) (bI (ac1 _) (by repeat' first|exact C1|refine xqI rfl rfl ?_| (with_reducible apply C2)| ((with_reducible apply C0);exact CH (by assumption))| ((with_reducible apply D0);apply CJ)|fail)))
 ·repeat' first|apply vI<;>(simp only[go_sem])|apply vF (by omega)|fail
  ·refine aQ g _ rfl rfl (nK (adY (rU fun i hi=>hinv i (by omega))))
theorem lJ{l:List Job}{p:Job->Bool}(hl:l.length<2^40)(hc:caps.all D1.eW=true)(a:CvD H (fun _=>True) id 0 (dS (l.map aL)) d)(b:CvD H (fun _=>True) id 0 (.one (.c (.clo f caps))) (.one (.c (.clo f caps0))))(e: ∀x∈l,∀(H:aA) (nx:Nat) (K:ag2),K (dB (p x)) H nx->ag1 f (dA (aL x)::caps.map fun d=>.one (.c d)) H nx K)
 (h:K (dI (bK p l)) H nx):ag1 dF [d,.one (.c (.clo f caps0))] H nx K:=
 (vK l f caps p hl hc e).pure rfl (aM ⟨a,b,trivial⟩) fun r hr=>hr▸h
theorem sA(l:List Job)(f:FuncId)(caps:List D1)(p:Job->Bool)(hl:l.length<2^40)(hc:caps.all D1.eW=true)(a: ∀x∈l,∀(H:aA) (nx:Nat) (K:ag2),K (dB (p x)) H nx->ag1 f (dA (aL x)::caps.map fun d=>.one (.c d)) H nx K):
 ag1 eH [dS (l.map aL),.one (.c (.clo f caps))] .nil 0 fun r _ _=>r.plain=true/\r=dB (decide (0<=bK p l)):=by
 refine aR.mk Tryz.func295 (by kernel_rfl) q9 rfl fun Q b=> ?_
 unfold eB
 repeat' first| (first|apply vI|refine lJ hl hc (aE rfl) (nM hc) a ?_)<;>(simp only[go_sem])|fail
 all_goals exact aQ b _ rfl rfl rfl
theorem r6{l:List Job}{p:Job->Bool}(hl:l.length<2^40)(hc:caps.all D1.eW=true)(a:CvD H (fun _=>True) id 0 (dS (l.map aL)) d)(b:CvD H (fun _=>True) id 0 (.one (.c (.clo f caps))) (.one (.c (.clo f caps0))))(e: ∀x∈l,∀(H:aA) (nx:Nat) (K:ag2),K (dB (p x)) H nx->ag1 f (dA (aL x)::caps.map fun d=>.one (.c d)) H nx K)
 (h:K (dB (decide (0<=bK p l))) H nx):ag1 eH [d,.one (.c (.clo f caps0))] H nx K:=
 (sA l f caps p hl hc e).pure rfl (aM ⟨a,b,trivial⟩) fun r hr=>hr▸h
theorem vH(l:List Req)(f:FuncId)(caps:List D1)(p:Req->Bool)(hl:l.length<2^40)(hc:caps.all D1.eW=true)(j: ∀x∈l,∀(H:aA) (nx:Nat) (K:ag2),K (dB (p x)) H nx->ag1 f (dA (dT x)::caps.map fun d=>.one (.c d)) H nx K):
 ag1 fA [dS (l.map dT),.one (.c (.clo f caps))] .nil 0 fun r _ _=>r.plain=true/\r=dI (bK p l):=by
 refine aR.mk Tryz.func326 (by kernel_rfl) uQ rfl fun Q g=> ?_
 unfold eQ
 repeat' first|apply vI<;>(simp only[go_sem])|fail
 (refine aK.loop (α:={k:Nat//k<=l.length/\(∀i,i<k->p (l.getD i default)=false)}) (fun u=>en [(8,dI u.1),(7,dI l.length),(1,.one (.c (.clo f caps))),(0,dS (l.map dT))]) (fun _=>.nil) _ (fun u=>l.length-u.1) ⟨0,by omega,(by intros;first|trivial|omega)⟩ (bI (ac1 _) (by repeat' first|exact C1|refine xqI rfl rfl ?_| (with_reducible apply C2)| ((with_reducible apply C0);exact CH (by assumption))| ((with_reducible apply D0);apply CJ)|fail)) ?_);(rintro⟨k,m,hinv⟩ n b)
 by_cases e:k<l.length
 ·have a:l.getD k default∈l:=by simp[List.getD,e]
  repeat' first| (first|apply vI|apply j _ a _ _ _)<;>(simp only[go_sem];try simp (disch:=omega) only[Iw])|apply vT (by omega)| ((refine CK (fun h=> ?_) (fun h=> ?_))<;>try subst h)|refine⟨by omega,?_⟩|fail
  ·refine aQ g _ rfl rfl (nK (adY (EE (by omega) (by assumption) hinv)))
  · (refine b _ _ _ ⟨k+1,by omega,bT hinv (by assumption)⟩ (by omega) (by(try dsimp only);omega) (bI (ac1 _) (by repeat' first|exact C1|refine xqI rfl rfl ?_| (with_reducible apply C2)| ((with_reducible apply C0);exact CH (by assumption))| ((with_reducible apply D0);apply CJ)|fail)))
 ·repeat' first|apply vI<;>(simp only[go_sem])|apply vF (by omega)|fail
  ·refine aQ g _ rfl rfl (nK (adY (rU fun i hi=>hinv i (by omega))))
theorem vM{l:List Req}{p:Req->Bool}(hl:l.length<2^40)(hc:caps.all D1.eW=true)(a:CvD H (fun _=>True) id 0 (dS (l.map dT)) d)(b:CvD H (fun _=>True) id 0 (.one (.c (.clo f caps))) (.one (.c (.clo f caps0))))(e: ∀x∈l,∀(H:aA) (nx:Nat) (K:ag2),K (dB (p x)) H nx->ag1 f (dA (dT x)::caps.map fun d=>.one (.c d)) H nx K)
 (h:K (dI (bK p l)) H nx):ag1 fA [d,.one (.c (.clo f caps0))] H nx K:=
 (vH l f caps p hl hc e).pure rfl (aM ⟨a,b,trivial⟩) fun r hr=>hr▸h
theorem sD(l:List Req)(f:FuncId)(caps:List D1)(p:Req->Bool)(hl:l.length<2^40)(hc:caps.all D1.eW=true)(a: ∀x∈l,∀(H:aA) (nx:Nat) (K:ag2),K (dB (p x)) H nx->ag1 f (dA (dT x)::caps.map fun d=>.one (.c d)) H nx K):
 ag1 eG [dS (l.map dT),.one (.c (.clo f caps))] .nil 0 fun r _ _=>r.plain=true/\r=dB (decide (0<=bK p l)):=by
 refine aR.mk Tryz.func275 (by kernel_rfl) rF rfl fun Q b=> ?_
 unfold d8
 repeat' first| (first|apply vI|refine vM hl hc (aE rfl) (nM hc) a ?_)<;>(simp only[go_sem])|fail
 all_goals exact aQ b _ rfl rfl rfl
theorem rZ{l:List Req}{p:Req->Bool}(hl:l.length<2^40)(hc:caps.all D1.eW=true)(a:CvD H (fun _=>True) id 0 (dS (l.map dT)) d)(b:CvD H (fun _=>True) id 0 (.one (.c (.clo f caps))) (.one (.c (.clo f caps0))))(e: ∀x∈l,∀(H:aA) (nx:Nat) (K:ag2),K (dB (p x)) H nx->ag1 f (dA (dT x)::caps.map fun d=>.one (.c d)) H nx K)
 (h:K (dB (decide (0<=bK p l))) H nx):ag1 eG [d,.one (.c (.clo f caps0))] H nx K:=
 (sD l f caps p hl hc e).pure rfl (aM ⟨a,b,trivial⟩) fun r hr=>hr▸h
theorem sL(l:List (List Req))(f:FuncId)(caps:List D1)(p:(List Req)->Bool)(hl:l.length<2^40)(hc:caps.all D1.eW=true)(j: ∀x∈l,∀(H:aA) (nx:Nat) (K:ag2),K (dB (p x)) H nx->ag1 f (dS (x.map dT)::caps.map fun d=>.one (.c d)) H nx K):
 ag1 eN [dS (l.map kX),.one (.c (.clo f caps))] .nil 0 fun r _ _=>r.plain=true/\r=dI (bK p l):=by
 refine aR.mk Tryz.func325 (by kernel_rfl) sE rfl fun Q g=> ?_
 unfold eI
 repeat' first|apply vI<;>(simp only[go_sem])|fail
 (refine aK.loop (α:={k:Nat//k<=l.length/\(∀i,i<k->p (l.getD i default)=false)}) (fun u=>en [(8,dI u.1),(7,dI l.length),(1,.one (.c (.clo f caps))),(0,dS (l.map kX))]) (fun _=>.nil) _ (fun u=>l.length-u.1) ⟨0,by omega,(by intros;first|trivial|omega)⟩ (bI (ac1 _) (by repeat' first|exact C1|refine xqI rfl rfl ?_| (with_reducible apply C2)| ((with_reducible apply C0);exact CH (by assumption))| ((with_reducible apply D0);apply CJ)|fail)) ?_);(rintro⟨k,m,hinv⟩ n b)
 by_cases e:k<l.length
 ·have a:l.getD k default∈l:=by simp[List.getD,e]
  repeat' first| (first|apply vI|apply j _ a _ _ _)<;>(simp only[go_sem];try simp (disch:=omega) only[Iw])|apply vT (by omega)| ((refine CK (fun h=> ?_) (fun h=> ?_))<;>try subst h)|refine⟨by omega,?_⟩|fail
  ·refine aQ g _ rfl rfl (nK (adY (EE (by omega) (by assumption) hinv)))
  · (refine b _ _ _ ⟨k+1,by omega,bT hinv (by assumption)⟩ (by omega) (by(try dsimp only);omega) (bI (ac1 _) (by repeat' first|exact C1|refine xqI rfl rfl ?_| (with_reducible apply C2)| ((with_reducible apply C0);exact CH (by assumption))| ((with_reducible apply D0);apply CJ)|fail)))
 ·repeat' first|apply vI<;>(simp only[go_sem])|apply vF (by omega)|fail
  ·refine aQ g _ rfl rfl (nK (adY (rU fun i hi=>hinv i (by omega))))
theorem s9{l:List (List Req)}{p:(List Req)->Bool}(hl:l.length<2^40)(hc:caps.all D1.eW=true)(a:CvD H (fun _=>True) id 0 (dS (l.map kX)) d)(b:CvD H (fun _=>True) id 0 (.one (.c (.clo f caps))) (.one (.c (.clo f caps0))))(e: ∀x∈l,∀(H:aA) (nx:Nat) (K:ag2),K (dB (p x)) H nx->ag1 f (dS (x.map dT)::caps.map fun d=>.one (.c d)) H nx K)
 (h:K (dI (bK p l)) H nx):ag1 eN [d,.one (.c (.clo f caps0))] H nx K:=
 (sL l f caps p hl hc e).pure rfl (aM ⟨a,b,trivial⟩) fun r hr=>hr▸h
theorem pW(l:List (List Req))(f:FuncId)(caps:List D1)(p:(List Req)->Bool)(hl:l.length<2^40)(hc:caps.all D1.eW=true)(a: ∀x∈l,∀(H:aA) (nx:Nat) (K:ag2),K (dB (p x)) H nx->ag1 f (dS (x.map dT)::caps.map fun d=>.one (.c d)) H nx K):
 ag1 dR [dS (l.map kX),.one (.c (.clo f caps))] .nil 0 fun r _ _=>r.plain=true/\r=dB (decide (0<=bK p l)):=by
 refine aR.mk Tryz.func273 (by kernel_rfl) pO rfl fun Q b=> ?_
 unfold dH
 repeat' first| (first|apply vI|refine s9 hl hc (aE rfl) (nM hc) a ?_)<;>(simp only[go_sem])|fail
 all_goals exact aQ b _ rfl rfl rfl
theorem pV{l:List (List Req)}{p:(List Req)->Bool}(hl:l.length<2^40)(hc:caps.all D1.eW=true)(a:CvD H (fun _=>True) id 0 (dS (l.map kX)) d)(b:CvD H (fun _=>True) id 0 (.one (.c (.clo f caps))) (.one (.c (.clo f caps0))))(e: ∀x∈l,∀(H:aA) (nx:Nat) (K:ag2),K (dB (p x)) H nx->ag1 f (dS (x.map dT)::caps.map fun d=>.one (.c d)) H nx K)
 (h:K (dB (decide (0<=bK p l))) H nx):ag1 dR [d,.one (.c (.clo f caps0))] H nx K:=
 (pW l f caps p hl hc e).pure rfl (aM ⟨a,b,trivial⟩) fun r hr=>hr▸h
theorem VM{r:Rng}(h:K (dB (inR r addr)) H nx):ag1 z8 [dA (cY r),.one (.c (.dQ [cI addr]))] H nx K:=by
 refine aC.pure (args0:=[dA (cY r),.one (.c (.dQ [cI addr]))]) (R:=fun a=>a=dB (inR r addr)) ?_ rfl (aM ⟨aE rfl,aE rfl,trivial⟩) (fun r hr=>hr▸h);clear h;refine aR.mk Tryz.func338 (by kernel_rfl) UH rfl fun Q b=> ?_;unfold pG;repeat' first| (first|apply vI|apply cQ)<;>(simp only[go_sem])|fail
 all_goals first|with_reducible refine aQ b _ rfl rfl ?_|skip
 all_goals exact nJ aeQ
theorem fe(hl:l.length<2^40)(h:K (dI (bK (inR · addr) l)) H nx):ag1 FL [dS (l.map cY),dI addr] H nx K:=by
 refine aC.pure (args0:=[dS (l.map cY),dI addr]) (R:=fun a=>a=dI (bK (inR · addr) l)) ?_ rfl (aM ⟨aE rfl,aE rfl,trivial⟩) (fun r hr=>hr▸h);clear h;refine aR.mk Tryz.func316 (by kernel_rfl) XR rfl fun Q b=> ?_;unfold tX;repeat' first| (first|apply vI|refine jW (caps:=[.dQ [cI addr]]) (p:=(inR · addr)) hl rfl (aE rfl) (O4 ⟨tI rfl trivial rfl rfl rfl,trivial⟩) (fun x _ H nx K h=>VM h) ?_)<;>(simp only[go_sem])|fail
 all_goals first|with_reducible refine aQ b _ rfl rfl ?_|skip
 all_goals first|rfl|exact nK (by omega)
theorem ja{q:Rng}{r:Rng}(h:K (dB (tq q r)) H nx):ag1 FJ [dA (cY q),.one (.c (.dQ (cY r)))] H nx K:=by
 refine aC.pure (args0:=[dA (cY q),.one (.c (.dQ (cY r)))]) (R:=fun a=>a=dB (tq q r)) ?_ rfl (aM ⟨aE rfl,aE rfl,trivial⟩) (fun r hr=>hr▸h);clear h;refine aR.mk Tryz.func324 (by kernel_rfl) XJ rfl fun Q b=> ?_;unfold tL;repeat' first| (first|apply vI|refine Y6 (fun h=> ?_) fun h=> ?_)<;>(simp only[go_sem])|fail
 all_goals first|with_reducible refine aQ b _ rfl rfl ?_|skip
 all_goals unfold tq
 all_goals first|exact nJ (by omega)|exact nB (by omega)|exact gV (by omega)
theorem xu(hl:l.length<2^40)(h:K (dB (decide (o9 l))) H nx):ag1 KD [dS (l.map cY)] H nx K:=by
 refine aC.pure (args0:=[dS (l.map cY)]) (R:=fun e=>e=dB (decide (o9 l))) ?_ rfl (aM ⟨aE rfl,trivial⟩) (fun r hr=>hr▸h);clear h;refine aR.mk Tryz.func271 (by kernel_rfl) pz rfl fun Q d=> ?_;unfold BG;repeat' first|apply vI<;>(simp only[go_sem])|fail
 (refine aK.loop (α:={k:Nat//k<=l.length/\(∀i,i<k->ba l i)}) (fun u=>en [(7,dI u.1),(6,dI l.length),(5,dS (l.map cY)),(0,dS (l.map cY))]) (fun _=>.nil) _ (fun u=>l.length-u.1) ⟨0,by omega,(by intros;first|trivial|omega)⟩ (bI (ac1 _) (by repeat' first|exact C1|refine xqI rfl rfl ?_|fail)) ?_);(rintro⟨k,f,hinv⟩ g a);by_cases b:k<l.length
 ·repeat' first| (first|apply vI|refine Y6 (fun h=> ?_) fun h=> ?_|apply cQ| (refine oZ (l:=l.take k) (caps:=[.dQ (cY (l.getD k default))]) (p:=fun q=>tq q (l.getD k default)) (by simp;omega) rfl (aE rfl) (O4 ⟨tI rfl trivial rfl rfl rfl,trivial⟩) (fun x _ H nx K h=>ja h) ?_))<;>(simp only[go_sem];try simp (disch:=omega) only[Iw])|apply vT (by omega)|refine iR (fun h=> ?_) fun h=> ?_|refine⟨by omega,?_⟩|fail
  all_goals first
   | (refine aQ d _ rfl rfl (gV fun hm=> ?_);have:=(hm.2 k b);unfold ba F8 at this;omega)
   | (refine a _ _ _ ⟨k+1,by omega,bT hinv (by unfold ba F8;omega)⟩ (by omega) (by(try dsimp only);omega) (bI (ac1 _) (by repeat' first|exact C1|refine xqI rfl rfl ?_|fail)))
 ·repeat' first|apply vI<;>(simp only[go_sem])|apply vF (by omega)|fail
  have c:k=l.length:=by omega
  subst c;exact aQ d _ rfl rfl (nJ ⟨fun h=>⟨h,hinv⟩,fun h=>h.1⟩)
theorem jH{q:Req}(h:K (dB (wrM q)) H nx):ag1 jK [dA (dT q)] H nx K:=by
 refine aC.pure (args0:=[dA (dT q)]) (R:=fun a=>a=dB (wrM q)) ?_ rfl (aM ⟨aE rfl,trivial⟩) (fun r hr=>hr▸h);clear h;refine aR.mk Tryz.func299 (by kernel_rfl) L9 rfl fun Q b=> ?_;unfold lH;repeat' first| (first|apply vI|refine Y6 (fun h=> ?_) fun h=> ?_)<;>(simp only[go_sem])|fail
 all_goals first|with_reducible refine aQ b _ rfl rfl ?_|skip
 all_goals unfold wrM
 all_goals first|exact nJ (by omega)|exact nB (by omega)|exact gV (by omega)|rfl
theorem TG(h:K (dB (decide (¬(0<=n/\n<=65535)))) H nx):ag1 vZ [dI n] H nx K:=by
 refine aC.pure (args0:=[dI n]) (R:=fun a=>a=dB (decide (¬(0<=n/\n<=65535)))) ?_ rfl (aM ⟨aE rfl,trivial⟩) (fun r hr=>hr▸h);clear h;refine aR.mk Tryz.func339 (by kernel_rfl) SE rfl fun Q b=> ?_;unfold oG;repeat' first| (first|apply vI|apply oy)<;>(simp only[go_sem])|fail
 all_goals first|with_reducible refine aQ b _ rfl rfl ?_|skip
 all_goals first|exact nJ (by omega)|exact nB (by omega)|exact gV (by omega)|rfl
theorem dn(h:K (dB (decide (¬(-1<=n/\n<=63)))) H nx):ag1 FX [dI n] H nx K:=by
 refine aC.pure (args0:=[dI n]) (R:=fun a=>a=dB (decide (¬(-1<=n/\n<=63)))) ?_ rfl (aM ⟨aE rfl,trivial⟩) (fun r hr=>hr▸h);clear h;refine aR.mk Tryz.func279 (by kernel_rfl) YB rfl fun Q b=> ?_;unfold tU;repeat' first| (first|apply vI|apply cQ)<;>(simp only[go_sem])|fail
 all_goals first|with_reducible refine aQ b _ rfl rfl ?_|skip
 all_goals first|exact nJ (by omega)|exact nB (by omega)|exact gV (by omega)|rfl
theorem ZM(h:K (dB (decide (¬(0<=n/\n<=3)))) H nx):ag1 GA [dI n] H nx K:=by
 refine aC.pure (args0:=[dI n]) (R:=fun a=>a=dB (decide (¬(0<=n/\n<=3)))) ?_ rfl (aM ⟨aE rfl,trivial⟩) (fun r hr=>hr▸h);clear h;refine aR.mk Tryz.func272 (by kernel_rfl) YG rfl fun Q b=> ?_;unfold tA;repeat' first| (first|apply vI|apply cQ)<;>(simp only[go_sem])|fail
 all_goals first|with_reducible refine aQ b _ rfl rfl ?_|skip
 all_goals first|exact nJ (by omega)|exact nB (by omega)|exact gV (by omega)|rfl
theorem cn(h:K (dB (decide (¬(0<=n/\n<=3)))) H nx):ag1 GD [dI n] H nx K:=by
 refine aC.pure (args0:=[dI n]) (R:=fun a=>a=dB (decide (¬(0<=n/\n<=3)))) ?_ rfl (aM ⟨aE rfl,trivial⟩) (fun r hr=>hr▸h);clear h;refine aR.mk Tryz.func328 (by kernel_rfl) XU rfl fun Q b=> ?_;unfold tP;repeat' first| (first|apply vI|apply cQ)<;>(simp only[go_sem])|fail
 all_goals first|with_reducible refine aQ b _ rfl rfl ?_|skip
 all_goals first|exact nJ (by omega)|exact nB (by omega)|exact gV (by omega)|rfl
theorem DM{l:List Int}(hl:l.length<2^40){b:D}(a:CvD H (fun _=>True) id 0 (dS (l.map aF)) b)(h:K (dB (decide (All l 0 65535))) H nx):ag1 oO [b] H nx K:=by
 refine aC.pure (args0:=[dS (l.map aF)]) (R:=fun c=>c=dB (decide (All l 0 65535))) ?_ rfl (aM ⟨a,trivial⟩) (fun r hr=>hr▸h);clear h;refine aR.mk Tryz.func327 (by kernel_rfl) WI rfl fun Q d=> ?_;unfold rP;repeat' first| (first|apply vI|refine gA (caps:=[]) (p:=fun x=>decide (¬(0<=x/\x<=65535))) hl rfl (aE rfl) (nM rfl) (fun x _ H nx K h=>TG h) ?_)<;>(simp only[go_sem])|fail
 all_goals first|with_reducible refine aQ d _ rfl rfl ?_|skip
 all_goals exact nJ TK.symm
theorem wj{l:List Int}(hl:l.length<2^40){b:D}(a:CvD H (fun _=>True) id 0 (dA [.isl (l.map aF)]) b)(h:K (dB (decide ((l.length:Int)=64/\All l 0 65535))) H nx):ag1 K3 [b] H nx K:=by
 refine aC.pure (args0:=[dA [.isl (l.map aF)]]) (R:=fun c=>c=dB (decide ((l.length:Int)=64/\All l 0 65535))) ?_ rfl (aM ⟨a,trivial⟩) (fun r hr=>hr▸h);clear h;refine aR.mk Tryz.func278 (by kernel_rfl) qu rfl fun Q d=> ?_;unfold AP;repeat' first| (first|apply vI|refine Y6 (fun h=> ?_) fun h=> ?_|refine DM hl (aE rfl) ?_)<;>(simp only[go_sem])|fail
 all_goals first|with_reducible refine aQ d _ rfl rfl ?_|skip
 all_goals first|exact gV (by grind)|exact nJ (by grind)
theorem E4{w:List Int}{u:List Int}(hw:w.length<2^40)(hu:u.length<2^40){b:D}(a:CvD H (fun _=>True) id 0 (dA [.isl (w.map aF),.isl (u.map aF)]) b)(h:K (dB (decide (pT w u))) H nx):ag1 EW [b] H nx K:=by
 refine aC.pure (args0:=[dA [.isl (w.map aF),.isl (u.map aF)]]) (R:=fun c=>c=dB (decide (pT w u))) ?_ rfl (aM ⟨a,trivial⟩) (fun r hr=>hr▸h);clear h;refine aR.mk Tryz.func195 (by kernel_rfl) ky rfl fun Q d=> ?_;unfold AK;repeat' first| (first|apply vI|refine Y6 (fun h=> ?_) fun h=> ?_|refine wj hw (aE rfl) ?_|refine gA (l:=u) (caps:=[]) (p:=fun x=>decide (¬(-1<=x/\x<=63))) hu rfl (aE rfl) (nM rfl) (fun x _ H nx K h=>dn h) ?_)<;>(simp only[go_sem])|fail
 all_goals first|with_reducible refine aQ d _ rfl rfl ?_|skip
 all_goals first|exact gV (by unfold pT;rw[TK (lo:=-1)];grind)|exact nJ (by unfold pT;rw[TK (lo:=-1)];grind)
theorem xy{q:Req}(b:q.data.length<2^40)(hl:q.lanes.length<2^40)(h:K (dB (decide (cR q))) H nx):ag1 KZ [dA (dT q)] H nx K:=by
 refine aC.pure (args0:=[dA (dT q)]) (R:=fun c=>c=dB (decide (cR q))) ?_ rfl (aM ⟨aE rfl,trivial⟩) (fun r hr=>hr▸h);clear h;refine aR.mk Tryz.func277 (by kernel_rfl) qq rfl fun Q a=> ?_;unfold AI;repeat' first| (first|apply vI|refine Y6 (fun h=> ?_) fun h=> ?_|apply cQ|apply jH|apply EM|refine DM b (aE rfl) ?_|refine gA (l:=q.lanes) (caps:=[]) (p:=fun x=>decide (¬(0<=x/\x<=3))) hl rfl (aE rfl) (nM rfl) (fun x _ H nx K h=>cn h) ?_)<;>(simp only[go_sem])| ((refine CK (fun h=> ?_) (fun h=> ?_))<;>try subst h)|fail
 all_goals first|with_reducible refine aQ a _ rfl rfl ?_|skip
 all_goals
  have e:=@TK q.lanes 0 3
  have d:wrM q=true↔(q.kind=2\/q.kind=4):=by simp[wrM]
  clear a
  first|exact gV (by unfold cR oE;grind)|exact nB (by unfold cR oE;grind)|exact nJ (by unfold cR oE;grind)
theorem VV{q:Req}(a:q.data.length<2^40)(hl:q.lanes.length<2^40)(h:K (dB (decide (¬cR q))) H nx):ag1 z7 [dA (dT q)] H nx K:=by
 refine aC.pure (args0:=[dA (dT q)]) (R:=fun b=>b=dB (decide (¬cR q))) ?_ rfl (aM ⟨aE rfl,trivial⟩) (fun r hr=>hr▸h);clear h;refine aR.mk Tryz.func276 (by kernel_rfl) U0 rfl fun Q c=> ?_;unfold pB;repeat' first| (first|apply vI|apply xy a hl)<;>(simp only[go_sem])|fail
 all_goals first|with_reducible refine aQ c _ rfl rfl ?_|skip
 all_goals first|exact nJ (by omega)|exact nB (by omega)|exact gV (by omega)|rfl
theorem ZF{p:Prog}(hp:p.length<2^40)(a: ∀q∈p,q.data.length<2^40/\q.lanes.length<2^40)(h:K (dB (decide (¬qU p))) H nx):ag1 FN [dS (p.map dT)] H nx K:=by
 refine aC.pure (args0:=[dS (p.map dT)]) (R:=fun c=>c=dB (decide (¬qU p))) ?_ rfl (aM ⟨aE rfl,trivial⟩) (fun r hr=>hr▸h);clear h;refine aR.mk Tryz.func274 (by kernel_rfl) YE rfl fun Q d=> ?_;unfold tM;repeat' first| (first|apply vI|refine Y6 (fun h=> ?_) fun h=> ?_|refine rZ (l:=p) (caps:=[]) (p:=fun q=>decide (¬cR q)) hp rfl (aE rfl) (nM rfl) (fun x b H nx K h=>VV (a x b).1 (a x b).2 h) ?_)<;>(simp only[go_sem])|fail
 all_goals first|with_reducible refine aQ d _ rfl rfl ?_|skip
 all_goals first|exact nB (by unfold qU;grind)|exact gV (by unfold qU;grind)|exact nJ (by unfold qU;grind)
theorem yJ{c:Cfg}(hc:jJ c)(h:K (dB (decide (bG c))) H nx):ag1 ES [dA (bO c)] H nx K:=by
 refine aC.pure (args0:=[dA (bO c)]) (R:=fun b=>b=dB (decide (bG c))) ?_ rfl (aM ⟨aE rfl,trivial⟩) (fun r hr=>hr▸h);clear h;refine aR.mk Tryz.func194 (by kernel_rfl) nk rfl fun Q d=> ?_;unfold AN;repeat' first| (first|apply vI|refine Y6 (fun h=> ?_) fun h=> ?_|apply xu hc.map|refine gA (l:=c.lat) (caps:=[]) (p:=fun x=>decide (¬(0<=x/\x<=3))) hc.lat rfl (aE rfl) (nM rfl) (fun x _ H nx K h=>ZM h) ?_|refine pV (l:=c.cH) (caps:=[]) (p:=fun q=>decide (¬qU q)) hc.cH rfl (aE rfl) (nM rfl) (fun x a H nx K h=>ZF (hc.prog x a) (hc.req x a) h) ?_)<;>(simp only[go_sem])|fail
 all_goals first|with_reducible refine aQ d _ rfl rfl ?_|skip
 all_goals
  have e:=@TK c.lat 0 3
  first|exact nB (by unfold bG;grind)|exact gV (by unfold bG;grind)|exact nJ (by unfold bG;grind)
variable{who:Int}
theorem GC{c:Cfg}(hc:jJ c)(hp:c.cH.length=3)(h:K (dB (decide (kL c who n))) H nx):ag1 uL [dA (bO c),dI who,dI n] H nx K:=by
 refine aC.pure (args0:=[dA (bO c),dI who,dI n]) (R:=fun a=>a=dB (decide (kL c who n))) ?_ rfl (aM ⟨aE rfl,aE rfl,aE rfl,trivial⟩) (fun r hr=>hr▸h);clear h;refine aR.mk Tryz.func219 (by kernel_rfl) PO rfl fun Q b=> ?_;unfold mT;have d:=hc.at who.toNat;repeat' first| (first|apply vI|refine Y6 (fun h=> ?_) fun h=> ?_|apply cV|apply cQ)<;>(simp only[go_sem];try simp (disch:=omega) only[Iw])|refine⟨by omega,?_⟩|fail
 all_goals first|with_reducible refine aQ b _ rfl rfl ?_|skip
 all_goals first|exact nJ (by unfold kL;omega)|exact gV (by unfold kL;omega)
theorem fC{c:Cfg}(hp:c.cH.length=3)(a:kL c who n)(h:K (dI (bF c who n).id) H nx):ag1 fX [dA (bO c),dI who,dI n] H nx K:=by
 refine aC.pure (args0:=[dA (bO c),dI who,dI n]) (R:=fun b=>b=dI (bF c who n).id) ?_ rfl (aM ⟨aE rfl,aE rfl,aE rfl,trivial⟩) (fun r hr=>hr▸h);clear h;refine aR.mk Tryz.func280 (by kernel_rfl) TU rfl fun Q d=> ?_;unfold pM;obtain⟨e,f,g⟩:=a;repeat' first|apply vI<;>(simp only[go_sem])|refine⟨by omega,?_⟩|fail
 all_goals first|with_reducible refine aQ d _ rfl rfl ?_|skip
 all_goals first|rfl|exact nK (by omega)
theorem ZR{j:Job}(h:K (dB (cO who n j)) H nx):ag1 F4 [dA (aL j),.one (.c (.dQ [cI who])),.one (.c (.dQ [cI n]))] H nx K:=by
 refine aC.pure (args0:=[dA (aL j),.one (.c (.dQ [cI who])),.one (.c (.dQ [cI n]))]) (R:=fun a=>a=dB (cO who n j)) ?_ rfl (aM ⟨aE rfl,aE rfl,aE rfl,trivial⟩) (fun r hr=>hr▸h);clear h;refine aR.mk Tryz.func294 (by kernel_rfl) YA rfl fun Q b=> ?_;unfold tO;repeat' first| (first|apply vI|refine Y6 (fun h=> ?_) fun h=> ?_)<;>(simp only[go_sem])|fail
 all_goals first|with_reducible refine aQ b _ rfl rfl ?_|skip
 all_goals first|exact nB (by grind)|exact gV (by grind)|exact nJ (by grind)
theorem EO{l:List Job}(hl:l.length<2^40){b:D}(a:CvD H (fun _=>True) id 0 (dS (l.map aL)) b)(h:K (dI (bK (cO who n) l)) H nx):ag1 rT [b,dI who,dI n] H nx K:=by
 refine aC.pure (args0:=[dS (l.map aL),dI who,dI n]) (R:=fun c=>c=dI (bK (cO who n) l)) ?_ rfl (aM ⟨a,aE rfl,aE rfl,trivial⟩) (fun r hr=>hr▸h);clear h;refine aR.mk Tryz.func220 (by kernel_rfl) nz rfl fun Q d=> ?_;unfold A5;repeat' first| (first|apply vI|refine lJ (l:=l) (caps:=[.dQ [cI who],.dQ [cI n]]) (p:=cO who n) hl rfl (aE rfl) (O4 ⟨tI rfl trivial rfl rfl rfl,tI rfl trivial rfl rfl rfl,trivial⟩) (fun x _ H nx K h=>ZR h) ?_)<;>(simp only[go_sem])|fail
 all_goals first|with_reducible refine aQ d _ rfl rfl ?_|skip
 all_goals first|rfl|exact nK (by omega)
theorem MH{c:Cfg}{e:Ev}{j:Job}(hp:c.cH.length=3)(a:kL c e.who e.n)(b:j.who=e.who->j.n<e.n->kL c j.who j.n)(h:K (dB (NX c e j)) H nx):ag1 oX [dA (aL j),.one (.c (.dQ (eEv e))),.one (.c (.dQ (bO c)))] H nx K:=by
 refine aC.pure (args0:=[dA (aL j),.one (.c (.dQ (eEv e))),.one (.c (.dQ (bO c)))]) (R:=fun d=>d=dB (NX c e j)) ?_ rfl (aM ⟨aE rfl,aE rfl,aE rfl,trivial⟩) (fun r hr=>hr▸h);clear h;refine aR.mk Tryz.func296 (by kernel_rfl) KR rfl fun Q f=> ?_;unfold kG;repeat' first| (first|apply vI|refine Y6 (fun h=> ?_) fun h=> ?_|apply fC hp a|apply fC hp (b (by omega) (by omega)))<;>(simp only[go_sem])|fail
 all_goals first|with_reducible refine aQ f _ rfl rfl ?_|skip
 all_goals first|exact gV (by grind)|exact nJ (by grind)
theorem DS{c:Cfg}{e:Ev}{l:List Job}(hl:l.length<2^40)(hp:c.cH.length=3)(b:kL c e.who e.n)(d: ∀j∈l,j.who=e.who->j.n<e.n->kL c j.who j.n){d1:D}(a:CvD H (fun _=>True) id 0 (dS (l.map aL)) d1)(h:K (dB (decide (0<=bK (NX c e) l))) H nx):ag1 j8 [dA (bO c),d1,dA (eEv e)] H nx K:=by
 refine aC.pure (args0:=[dA (bO c),dS (l.map aL),dA (eEv e)]) (R:=fun f=>f=dB (decide (0<=bK (NX c e) l))) ?_ rfl (aM ⟨aE rfl,a,aE rfl,trivial⟩) (fun r hr=>hr▸h);clear h;refine aR.mk Tryz.func221 (by kernel_rfl) OS rfl fun Q g=> ?_;unfold l8;repeat' first| (first|apply vI|refine r6 (l:=l) (caps:=[.dQ (eEv e),.dQ (bO c)]) (p:=NX c e) hl rfl (aE rfl) (O4 ⟨tI rfl trivial rfl rfl rfl,tI rfl trivial rfl rfl rfl,trivial⟩) (fun x i H nx K h=>MH hp b (d x i) h) ?_)<;>(simp only[go_sem])|fail
 all_goals first|with_reducible refine aQ g _ rfl rfl ?_|skip
 all_goals first|exact nJ (by omega)|exact nB (by omega)|exact gV (by omega)|rfl
end
attribute [go_sem] adM
section
variable{H:aA}{nx:Nat}{K:ag2}
theorem XS{a:Int}(h:K (dB false) H nx):ag1 tV [dI a] H nx K:=by
 refine aC.pure (args0:=[dI a]) (R:=fun b=>b=dB false) ?_ rfl (aM ⟨aE rfl,trivial⟩) (fun r hr=>hr▸h);clear h;refine aR.mk Tryz.func305 (by kernel_rfl) WD rfl fun Q c=> ?_;unfold qP;repeat' first|apply vI<;>(simp only[go_sem])|fail
 all_goals first|with_reducible refine aQ c _ rfl rfl ?_|skip
 all_goals first|rfl|simp
def nj(a b:Int):Int:=if a<b then-1 else if a>b then 1 else 0
theorem UG{a:Int}{b:Int}(h:K (dI (nj a b)) H nx):ag1 pA [dI a,dI b] H nx K:=by
 refine aC.pure (args0:=[dI a,dI b]) (R:=fun c=>c=dI (nj a b)) ?_ rfl (aM ⟨aE rfl,aE rfl,trivial⟩) (fun r hr=>hr▸h);clear h;refine aR.mk Tryz.func227 (by kernel_rfl) SD rfl fun Q d=> ?_;unfold nY;repeat' first| (first|apply vI|apply XS)<;>(simp only[go_sem])|refine iR (fun h=> ?_) fun h=> ?_|fail
 all_goals first|with_reducible refine aQ d _ rfl rfl ?_|skip
 all_goals exact nK (by unfold nj;grind)
def orI(a b:Int):Int:=if a≠0 then a else b
theorem yn{a:Int}{b:Int}{e:D}(c:CvD H (fun _=>True) id 0 (dS [aF a,aF b]) e)(h:K (dI (orI a b)) H nx):ag1 KH [e] H nx K:=by
 refine aC.pure (args0:=[dS [aF a,aF b]]) (R:=fun j=>j=dI (orI a b)) ?_ rfl (aM ⟨c,trivial⟩) (fun r hr=>hr▸h);clear h;refine aR.mk Tryz.func226 (by kernel_rfl) mb rfl fun Q f=> ?_;unfold A9;obtain⟨l,hl⟩: ∃l,l=[a,b]:=⟨_,rfl⟩
 have he:[aF a,aF b]=l.map aF:=by rw[hl];rfl
 have hlen:l.length=2:=by rw[hl];rfl
 rw[he];repeat' first|apply vI<;>(simp only[go_sem])|fail
 (refine aK.loop (α:={k:Nat//k<=2/\(∀i,i<k->l.getD i default=0)}) (fun u=>en [(8,dI u.1),(7,dI 2),(6,dS (l.map aF)),(3,dI 0)]) (fun _=>.nil) _ (fun u=>2-u.1) ⟨0,by omega,(by intros;first|trivial|omega)⟩ (bI (ac1 _) (by repeat' first|exact C1|refine xqI rfl rfl ?_|refine xqV rfl (by omega) ?_|fail)) ?_);(rintro⟨k,g,hinv⟩ o d);by_cases m:k<2
 ·repeat' first|apply vI<;>(simp only[go_sem];try simp (disch:=omega) only[Iw])|apply vT (by omega)|refine iR (fun h=> ?_) fun h=> ?_|refine⟨by omega,?_⟩|fail
  ·refine aQ f (dI _) rfl rfl (nK ?_);have g:k=0\/k=1:=(by omega);have n:=hinv 0;rcases g with rfl|rfl<;>simp[hl,List.getD] at* <;>simp_all [orI]
  · (refine d _ _ _ ⟨k+1,by omega,bT hinv (by omega)⟩ (by omega) (by(try dsimp only);omega) (bI (ac1 _) (by repeat' first|exact C1|refine xqI rfl rfl ?_|fail)))
 ·repeat' first|apply vI<;>(simp only[go_sem])|apply vF (by omega)|fail
  refine aQ f (dI _) rfl rfl (nK ?_);have n:=hinv 0 (by omega);have p:=hinv 1 (by omega);simp[hl,List.getD] at* <;>simp_all [orI]
def zu(a b:Job):Int:=orI (nj a.who b.who) (nj a.n b.n)
theorem JO{a b:Job}:zu a b<0↔eV a b=true:=by rw[oM];unfold zu orI nj;grind
theorem nW{a:Job}{b:Job}(h:K (dI (zu a b)) H nx):ag1 bP [dA (aL a),dA (aL b)] H nx K:=by
 refine aC.pure (args0:=[dA (aL a),dA (aL b)]) (R:=fun c=>c=dI (zu a b)) ?_ rfl (aM ⟨aE rfl,aE rfl,trivial⟩) (fun r hr=>hr▸h);clear h;refine aR.mk Tryz.func136 (by kernel_rfl) PV rfl fun Q d=> ?_;unfold mV;repeat' first| (first|apply vI|apply UG|refine yn (D3 (rows:=[aF (nj a.who b.who),aF (nj a.n b.n)]) (aG aP [nj a.who b.who,nj a.n b.n]) rfl trivial rfl rfl rfl (ac1 2)) ?_)<;>(simp only[go_sem])|fail
 all_goals first|with_reducible refine aQ d _ rfl rfl ?_|skip
 all_goals first|rfl|exact nK (by omega)
theorem IT(l:List Int)(hl:l.length<2^21):ag1 jP [dS (l.map aF)] (hp []) 0
 fun r H' n'=>∃cap,l.length<=cap/\n'=1/\H'=hp [(0,⟨1,cap,l.map aF⟩)]/\r=dO 1 0 l.length cap:=by
 refine aR.mk Tryz.func262 (by kernel_rfl) H8 rfl fun Q c=> ?_
 unfold jE
 refine aK.seq (aK.oB 1 ?_)
 repeat' first|apply vI<;>(simp only[go_sem])|refine Z7 (fun h=> ?_) fun h=> ?_| (with_reducible first|refine fun(cap:Nat) (d:_<=cap)=> ?_|refine fun(e:_<=cap)=> ?_|refine fun(b:Bool)=> ?_)| ((refine CK (fun h=> ?_) (fun h=> ?_))<;>try subst h)|refine⟨by omega,?_⟩|fail
 all_goals first
  | (have a:=ac1 cap
     (refine c _ _ _ _ _ 1 (dO 1 0 l.length cap) (hp [(0,⟨1,cap,l.map aF⟩)]) _ _ (.inr rfl) rfl (fT [6] (by omega) (by repeat' first|exact C1| ((with_reducible apply C0);exact CQ (by omega) rfl rfl (by rfl) rfl)| ((with_reducible apply D0);apply CJ)|fail) ⟨⟨by simp,by simp[sgL],_,rfl,aY (aG aP _) rfl rfl⟩,trivial⟩ (by simp[sgL])) ?_)
     exact⟨cap,by omega,rfl,rfl,rfl⟩)
  | (have f:l=[]:=ad5 (by omega)
     subst f
     (refine c _ _ _ _ _ 1 (dO 1 0 0 0) (hp [(0,⟨1,0,([]:List Int).map aF⟩)]) _ _ (.inr rfl) rfl (fT [0] (by omega) (by repeat' first|exact C1| ((with_reducible apply C0);exact CC)| ((with_reducible apply D0);apply CJ)|fail) ⟨⟨by simp,by simp[sgL],_,rfl,aY (aG aP _) rfl rfl⟩,trivial⟩ (by simp[sgL])) ?_)
     exact⟨0,ac1 _,rfl,rfl,rfl⟩)
theorem I8{l:List Int}(hl:l.length<2^21)(h: ∀cap,l.length<=cap->K (dO 1 nx l.length cap) (H.set nx ⟨1,cap,l.map aF⟩) (nx+1)):ag1 jP [dS (l.map aF)] H nx K:=by
 refine(IT l hl).DD (l0:=[]) [] rfl ⟨aE rfl,trivial⟩ trivial (by simp) (by simp) (by simp) fun r H' n' _ ⟨cap,a,b,c,d⟩=> ?_;have h:=h cap a;subst b;subst c;subst d;have e:back (tau 0 nx (nth [])) (hp [(0,⟨1,cap,l.map aF⟩)]) 1 H=H.set nx ⟨1,cap,l.map aF⟩:=by simp only[back,hp,aA.set,tau,adV,if_true,if_false,Nat.sub_zero,Nat.add_zero,Option.map_some,nN,aA.fI]
 rw[<-e] at h;exact h
theorem J4(l:List Int)(cap m:Nat)(hl:l.length<2^21)(hc:l.length<=cap):ag1 kH [dO 1 0 l.length cap] (hp [(0,⟨1,m,l.map aF⟩)]) 1
 fun r H' n'=>n'=1/\ ∃o',H'=hp [(0,o')]/\kC o'/\o'=⟨1,m,l.map aF⟩/\r=dO 1 0 l.length l.length:=by
 refine aR.mk Tryz.func261 (by kernel_rfl) JH rfl fun Q a=> ?_
 unfold jS
 repeat' first|apply vI<;>(simp only[go_sem])|refine⟨by omega,?_⟩|fail
 exact jZ a (dO 1 0 l.length l.length) _ _ rfl (by repeat' first|exact C1| ((with_reducible apply C0);exact CQ (by omega) rfl rfl (by rfl) rfl)| ((with_reducible apply D0);apply CJ)|fail) rfl (eC aP _) ⟨rfl,rfl⟩
variable{cap m i:Nat}
theorem J1{l:List Int}(hl:l.length<2^21)(hc:l.length<=cap)(hi:i<nx)(a:H i=some ⟨1,m,l.map aF⟩)(h:K (dO 1 i l.length l.length) (H.set i ⟨1,m,l.map aF⟩) nx):
 ag1 kH [dO 1 i l.length cap] H nx K:=
 (J4 l cap m hl hc).ML i rfl (eO ⟨qL (by omega) rfl rfl rfl rfl,trivial⟩) hi a (eC aP _) fun r o' ⟨b,c⟩=>by subst b;subst c;exact h
theorem VQ(l:List Int)(hl:l.length<2^21):ag1 iB [dS (l.map aF)] (hp []) 0
 fun r H' n'=>∃cap,l.length<=cap/\n'=1/\H'=hp [(0,⟨1,cap,l.map aF⟩)]/\r=dO 1 0 l.length l.length:=by
 refine aR.mk Tryz.func185 (by kernel_rfl) UJ rfl fun Q b=> ?_
 unfold pF
 repeat' first| (first|apply vI|refine I8 hl (fun cap a=> ?_)|refine J1 hl a (by omega) rfl ?_)<;>(simp only[go_sem])|fail
 (refine b _ _ _ _ _ 1 (dO 1 0 l.length l.length) (hp [(0,⟨1,cap,l.map aF⟩)]) _ _ (.inr rfl) rfl (fT [5] (by omega) (by repeat' first|exact C1| ((with_reducible apply C0);exact CQ (by omega) rfl rfl (by rfl) rfl)| ((with_reducible apply D0);apply CJ)|fail) ⟨⟨by simp,by simp[sgL],_,rfl,aY (aG aP _) rfl rfl⟩,trivial⟩ (by simp[sgL])) ?_)
 exact⟨cap,a,rfl,rfl,rfl⟩
theorem kN{l:List Int}(hl:l.length<2^21)(h: ∀m,l.length<=m->K (dO 1 nx l.length l.length) (H.set nx ⟨1,m,l.map aF⟩) (nx+1)):ag1 iB [dS (l.map aF)] H nx K:=by
 refine(VQ l hl).DD (l0:=[]) [] rfl ⟨aE rfl,trivial⟩ trivial (by simp) (by simp) (by simp) fun r H' n' _ ⟨cap,a,b,c,d⟩=> ?_;have h:=h cap a;subst b;subst c;subst d;have e:back (tau 0 nx (nth [])) (hp [(0,⟨1,cap,l.map aF⟩)]) 1 H=H.set nx ⟨1,cap,l.map aF⟩:=by simp only[back,hp,aA.set,tau,adV,if_true,if_false,Nat.sub_zero,Nat.add_zero,Option.map_some,nN,aA.fI]
 rw[<-e] at h;exact h
variable{l:List Job}
theorem sV{τ:Nat->Nat}{n:Nat}:bN.rn τ ⟨n,m,l.map aL⟩=⟨n,m,l.map aL⟩:=by refine mW fun r hr x a=> ?_;obtain⟨y,_,rfl⟩:=ac9.1 hr;exact adK.1 (bC y).2 x a
theorem CD(l:List Job)(hl:l.length<2^21):ag1 gO [dS (l.map aL)] (hp []) 0
 fun r H' n'=>∃cap,l.length<=cap/\n'=1/\H'=hp [(0,⟨5,cap,l.map aL⟩)]/\r=dO 5 0 l.length cap:=by
 refine aR.mk Tryz.func318 (by kernel_rfl) zU rfl fun Q c=> ?_
 unfold fW
 refine aK.seq (aK.oB 5 ?_)
 repeat' first|apply vI<;>(simp only[go_sem])|refine Z7 (fun h=> ?_) fun h=> ?_| (with_reducible first|refine fun(cap:Nat) (d:_<=cap)=> ?_|refine fun(e:_<=cap)=> ?_|refine fun(b:Bool)=> ?_)| ((refine CK (fun h=> ?_) (fun h=> ?_))<;>try subst h)|refine⟨by omega,?_⟩|fail
 all_goals first
  | (have a:=ac1 cap
     (refine c _ _ _ _ _ 1 (dO 5 0 l.length cap) (hp [(0,⟨5,cap,l.map aL⟩)]) _ _ (.inr rfl) rfl (fT [6] (by omega) (by repeat' first|exact C1| ((with_reducible apply C0);exact CQ (by omega) rfl rfl (by rfl) rfl)| ((with_reducible apply D0);apply CJ)|fail) ⟨⟨by simp,by simp[sgL],_,rfl,aY (aG bC _) rfl rfl⟩,trivial⟩ (by simp[sgL])) ?_)
     exact⟨cap,by omega,rfl,rfl,rfl⟩)
  | (have f:l=[]:=ad5 (by omega)
     subst f
     (refine c _ _ _ _ _ 1 (dO 5 0 0 0) (hp [(0,⟨5,0,([]:List Job).map aL⟩)]) _ _ (.inr rfl) rfl (fT [0] (by omega) (by repeat' first|exact C1| ((with_reducible apply C0);exact CC)| ((with_reducible apply D0);apply CJ)|fail) ⟨⟨by simp,by simp[sgL],_,rfl,aY (aG bC _) rfl rfl⟩,trivial⟩ (by simp[sgL])) ?_)
     exact⟨0,ac1 _,rfl,rfl,rfl⟩)
theorem CN(hl:l.length<2^21)(h: ∀cap,l.length<=cap->K (dO 5 nx l.length cap) (H.set nx ⟨5,cap,l.map aL⟩) (nx+1)):ag1 gO [dS (l.map aL)] H nx K:=by
 refine(CD l hl).DD (l0:=[]) [] rfl ⟨aE rfl,trivial⟩ trivial (by simp) (by simp) (by simp) fun r H' n' _ ⟨cap,a,b,c,d⟩=> ?_;have h:=h cap a;subst b;subst c;subst d;have e:back (tau 0 nx (nth [])) (hp [(0,⟨5,cap,l.map aL⟩)]) 1 H=H.set nx ⟨5,cap,l.map aL⟩:=by simp only[back,hp,aA.set,tau,adV,if_true,if_false,Nat.sub_zero,Nat.add_zero,Option.map_some,sV,aA.fI]
 rw[<-e] at h;exact h
theorem DG(l:List Job)(cap m:Nat)(hl:l.length<2^21)(hc:l.length<=cap):ag1 gY [dO 5 0 l.length cap] (hp [(0,⟨5,m,l.map aL⟩)]) 1
 fun r H' n'=>n'=1/\ ∃o',H'=hp [(0,o')]/\kC o'/\o'=⟨5,m,l.map aL⟩/\r=dO 5 0 l.length l.length:=by
 refine aR.mk Tryz.func317 (by kernel_rfl) B2 rfl fun Q a=> ?_
 unfold gM
 repeat' first|apply vI<;>(simp only[go_sem])|refine⟨by omega,?_⟩|fail
 exact jZ a (dO 5 0 l.length l.length) _ _ rfl (by repeat' first|exact C1| ((with_reducible apply C0);exact CQ (by omega) rfl rfl (by rfl) rfl)| ((with_reducible apply D0);apply CJ)|fail) rfl (eC bC _) ⟨rfl,rfl⟩
theorem DI(hl:l.length<2^21)(hc:l.length<=cap)(hi:i<nx)(a:H i=some ⟨5,m,l.map aL⟩)(h:K (dO 5 i l.length l.length) (H.set i ⟨5,m,l.map aL⟩) nx):
 ag1 gY [dO 5 i l.length cap] H nx K:=
 (DG l cap m hl hc).ML i rfl (eO ⟨qL (by omega) rfl rfl rfl rfl,trivial⟩) hi a (eC bC _) fun r o' ⟨b,c⟩=>by subst b;subst c;exact h
theorem IJ(l:List Job)(hl:l.length<2^21):ag1 jD [dS (l.map aL)] (hp []) 0
 fun r H' n'=>∃cap,l.length<=cap/\n'=1/\H'=hp [(0,⟨5,cap,l.map aL⟩)]/\r=dO 5 0 l.length l.length:=by
 refine aR.mk Tryz.func260 (by kernel_rfl) GV rfl fun Q b=> ?_
 unfold iY
 repeat' first| (first|apply vI|refine CN hl (fun cap a=> ?_)|refine DI hl a (by omega) rfl ?_)<;>(simp only[go_sem])|fail
 (refine b _ _ _ _ _ 1 (dO 5 0 l.length l.length) (hp [(0,⟨5,cap,l.map aL⟩)]) _ _ (.inr rfl) rfl (fT [5] (by omega) (by repeat' first|exact C1| ((with_reducible apply C0);exact CQ (by omega) rfl rfl (by rfl) rfl)| ((with_reducible apply D0);apply CJ)|fail) ⟨⟨by simp,by simp[sgL],_,rfl,aY (aG bC _) rfl rfl⟩,trivial⟩ (by simp[sgL])) ?_)
 exact⟨cap,a,rfl,rfl,rfl⟩
theorem H9(hl:l.length<2^21)(h: ∀m,l.length<=m->K (dO 5 nx l.length l.length) (H.set nx ⟨5,m,l.map aL⟩) (nx+1)):ag1 jD [dS (l.map aL)] H nx K:=by
 refine(IJ l hl).DD (l0:=[]) [] rfl ⟨aE rfl,trivial⟩ trivial (by simp) (by simp) (by simp) fun r H' n' _ ⟨cap,a,b,c,d⟩=> ?_;have h:=h cap a;subst b;subst c;subst d;have e:back (tau 0 nx (nth [])) (hp [(0,⟨5,cap,l.map aL⟩)]) 1 H=H.set nx ⟨5,cap,l.map aL⟩:=by simp only[back,hp,aA.set,tau,adV,if_true,if_false,Nat.sub_zero,Nat.add_zero,Option.map_some,sV,aA.fI]
 rw[<-e] at h;exact h
theorem XC(l:List Job)(hl:l.length<2^21)(f: ∀j∈l,j.rsp.data.length<2^21):ag1 iU [dS (l.map aL)] (hp []) 0
 fun r H' n'=>∃cap,l.length<=cap/\n'=1/\H'=hp [(0,⟨5,cap,l.map aL⟩)]/\r=dO 5 0 l.length l.length:=by
 refine aR.mk Tryz.func184 (by kernel_rfl) V8 rfl fun Q g=> ?_
 unfold qR
 repeat' first| (first|apply vI|refine H9 hl (fun m0 c=> ?_))<;>(simp only[go_sem])|fail
 refine aK.zE 1 (β:=Nat) (fun b k=>en [(10,dI k),(9,dI l.length),(8,dO 5 b l.length l.length),(3,dO 5 b l.length l.length)])
  (fun b k=>hp [(b,⟨5,m0,l.map aL⟩)]) (fun k=>k<=l.length) (fun k=>l.length-k) 0 (by(refine eD [4] (by omega) (by repeat' first|exact C1|refine xqI rfl rfl ?_|refine xqO (by omega) rfl rfl (by rfl) ?_|fail) ⟨⟨by simp,by simp[sgL],_,rfl,aY (aG bC _) rfl rfl⟩,trivial⟩ (by simp[sgL]))) (by omega) ?_
 rintro k h i d
 by_cases a:k<l.length
 ·have e:=f _ (cC a);repeat' first| (first|apply vI|refine kN e (fun m hm=> ?_))<;>(simp only[go_sem];try simp (disch:=omega) only[Iw])|apply vT (by omega)|refine⟨by omega,?_⟩|fail
  exact d _ _ _ (k+1) (by omega) (by(refine eD [8] (by omega) (by repeat' first|exact C1|refine xqI rfl rfl ?_|refine xqO (by omega) rfl rfl (by rfl) ?_|fail) ⟨⟨by simp,by simp[sgL],_,rfl,To (R:=l.map aL) (r':=aL (l.getD k default)) rfl rfl (acW a) (fun r hr=>(aG bC l r hr).2) rfl (aH (bE rfl) (aH (bE rfl) (aH (bE rfl) (aH (bE rfl) (aH (cM aP rfl rfl (ac1 _) (by simp)) cG)))))⟩,trivial⟩ (by simp[sgL]))) (by omega) (by omega)
 ·repeat' first|apply vI<;>(simp only[go_sem])|apply vF (by omega)|fail
  (refine g _ _ _ _ _ 1 (dO 5 0 l.length l.length) (hp [(0,⟨5,m0,l.map aL⟩)]) _ _ (.inr rfl) rfl (fT [8] (by omega) (by repeat' first|exact C1| ((with_reducible apply C0);exact CQ (by omega) rfl rfl (by rfl) rfl)| ((with_reducible apply D0);apply CJ)|fail) ⟨⟨by simp,by simp[sgL],_,rfl,aY (aG bC _) rfl rfl⟩,trivial⟩ (by simp[sgL])) ?_);exact⟨m0,c,rfl,rfl,rfl⟩
theorem iT(hl:l.length<2^21)(a: ∀j∈l,j.rsp.data.length<2^21)(h: ∀m,l.length<=m->K (dO 5 nx l.length l.length) (H.set nx ⟨5,m,l.map aL⟩) (nx+1)):ag1 iU [dS (l.map aL)] H nx K:=by
 refine(XC l hl a).DD (l0:=[]) [] rfl ⟨aE rfl,trivial⟩ trivial (by simp) (by simp) (by simp) fun r H' n' _ ⟨cap,b,c,d,e⟩=> ?_;have h:=h cap b;subst c;subst d;subst e;have f:back (tau 0 nx (nth [])) (hp [(0,⟨5,cap,l.map aL⟩)]) 1 H=H.set nx ⟨5,cap,l.map aL⟩:=by simp only[back,hp,aA.set,tau,adV,if_true,if_false,Nat.sub_zero,Nat.add_zero,Option.map_some,sV,aA.fI]
 rw[<-f] at h;exact h
theorem K2(w u:List Int)(hw:w.length<2^21)(hu:u.length<2^21):ag1 iO [dA [.isl (w.map aF),.isl (u.map aF)]] (hp []) 0
 fun r H' n'=>∃m0 m1,w.length<=m0/\u.length<=m1/\n'=2/\H'=hp [(0,⟨1,m0,w.map aF⟩),(1,⟨1,m1,u.map aF⟩)]/\r=dA [.osl 1 0 0 w.length w.length,.osl 1 1 0 u.length u.length]:=by
 refine aR.mk Tryz.func181 (by kernel_rfl) JF rfl fun Q c=> ?_
 unfold jM
 repeat' first| (first|apply vI|refine kN hw (fun m0 a=> ?_)|refine kN hu (fun m1 b=> ?_))<;>(simp only[go_sem])|fail
 (refine c _ _ _ _ _ 2 (dA [.osl 1 0 0 w.length w.length,.osl 1 1 0 u.length u.length]) (hp [(0,⟨1,m0,w.map aF⟩),(1,⟨1,m1,u.map aF⟩)]) _ _ (.inr rfl) rfl (fT [12,13] (by omega) (by repeat' first|exact C1| ((with_reducible apply C0);exact CQ (by omega) rfl rfl (by rfl) rfl)| ((with_reducible apply D0);apply C9)|exact C3|apply C4|fail) ⟨⟨by simp,by simp[sgL],_,rfl,aY (aG aP _) rfl rfl⟩,⟨by simp,by simp[sgL],_,rfl,aY (aG aP _) rfl rfl⟩,trivial⟩ (by simp[sgL])) ?_)
 exact⟨m0,m1,a,b,rfl,rfl,rfl⟩
theorem nU{w u:List Int}(hw:w.length<2^21)(hu:u.length<2^21)(h: ∀m0 m1,w.length<=m0->u.length<=m1->K (dA [.osl 1 nx 0 w.length w.length,.osl 1 (nx+1) 0 u.length u.length]) ((H.set nx ⟨1,m0,w.map aF⟩).set (nx+1) ⟨1,m1,u.map aF⟩) (nx+2)):ag1 iO [dA [.isl (w.map aF),.isl (u.map aF)]] H nx K:=by
 refine(K2 w u hw hu).DD (l0:=[]) [] rfl ⟨aE rfl,trivial⟩ trivial (by simp) (by simp) (by simp) fun r H' n' _ ⟨m0,m1,b,a,c,d,e⟩=> ?_;have h:=h m0 m1 b a;subst c;subst d;subst e;have f:back (tau 0 nx (nth [])) (hp [(0,⟨1,m0,w.map aF⟩),(1,⟨1,m1,u.map aF⟩)]) 2 H=(H.set nx ⟨1,m0,w.map aF⟩).set (nx+1) ⟨1,m1,u.map aF⟩:=by simp[back,hp,aA.set,aA.nil,tau,nth,nN,sV,aA.fI,aA.wR]
 rw[<-f] at h;exact h
def oIm(i0 i1 i2 a b c c0 c1 c2 c3 c4 c5:Nat)(s:TSt):List D1:=[.osl 1 i0 0 s.words.length c0,.osl 1 i1 0 s.holds.length c1,.osl 1 i2 0 s.asked.length c2,.osl 5 a 0 s.wait.length c3,.osl 5 b 0 s.done.length c4,.osl 5 c 0 s.told.length c5]
theorem KA(c:Cfg)(s:TSt)(p:bG c)(hs:kM c s):ag1 cS [dA (eSt s)] (hp []) 0
 fun r H' n'=>∃m0 m1 a b d e,(s.words.length<=m0/\s.holds.length<=m1/\s.asked.length<=a/\s.wait.length<=b/\s.done.length<=d/\s.told.length<=e)/\n'=6/\H'=hp [(0,⟨1,m0,s.words.map aF⟩),(1,⟨1,m1,s.holds.map aF⟩),(2,⟨1,a,s.asked.map aF⟩),(3,⟨5,b,s.wait.map aL⟩),(4,⟨5,d,s.done.map aL⟩),(5,⟨5,e,s.told.map aL⟩)]/\
  r=dA (oIm 0 1 2 3 4 5 s.words.length s.holds.length s.asked.length s.wait.length s.done.length s.told.length s):=by
 have hl:=hs.lens p
 have q:=hs.atm.wl
 have t:=hs.atm.hl
 have v:=hs.yI
 have g:=hs.ab8
 refine uZ rfl fun Q x=> ?_
 unfold iC
 repeat' first| (first|apply vI|refine nU (w:=s.words) (u:=s.holds) (by omega) (by omega) (fun m0 m1 h i=> ?_)|refine kN (l:=s.asked) (by omega) (fun a k=> ?_)|refine iT (l:=s.wait) (by omega) (fun j f=>g j (by simp[f])) (fun b m=> ?_)|refine iT (l:=s.done) (by omega) (fun j f=>g j (by simp[f])) (fun d n=> ?_)|refine iT (l:=s.told) (by omega) (fun j f=>g j (by simp[f])) (fun e o=> ?_))<;>(simp only[go_sem])|fail
 (refine x _ _ _ _ _ 6 (dA (oIm 0 1 2 3 4 5 s.words.length s.holds.length s.asked.length s.wait.length s.done.length s.told.length s)) (hp [(0,⟨1,m0,s.words.map aF⟩),(1,⟨1,m1,s.holds.map aF⟩),(2,⟨1,a,s.asked.map aF⟩),(3,⟨5,b,s.wait.map aL⟩),(4,⟨5,d,s.done.map aL⟩),(5,⟨5,e,s.told.map aL⟩)]) _ _ (.inr rfl) rfl (fT [19,20,21,22,23,24] (by omega) (by repeat' first|exact C1| ((with_reducible apply C0);exact CQ (by omega) rfl rfl (by rfl) rfl)| ((with_reducible apply D0);apply C9)|exact C3|apply C4|fail) ⟨⟨by simp,by simp[sgL],_,rfl,aY (aG aP _) rfl rfl⟩,⟨by simp,by simp[sgL],_,rfl,aY (aG aP _) rfl rfl⟩,⟨by simp,by simp[sgL],_,rfl,aY (aG aP _) rfl rfl⟩,⟨by simp,by simp[sgL],_,rfl,aY (aG bC _) rfl rfl⟩,⟨by simp,by simp[sgL],_,rfl,aY (aG bC _) rfl rfl⟩,⟨by simp,by simp[sgL],_,rfl,aY (aG bC _) rfl rfl⟩,trivial⟩ (by simp[sgL])) ?_)
 exact⟨m0,m1,a,b,d,e,⟨h,i,k,m,n,o⟩,rfl,rfl,rfl⟩
theorem n9{c:Cfg}{s:TSt}(f:bG c)(hs:kM c s)(h: ∀m0 m1 a b d e,(s.words.length<=m0/\s.holds.length<=m1/\s.asked.length<=a/\s.wait.length<=b/\s.done.length<=d/\s.told.length<=e)->K (dA (oIm nx (nx+1) (nx+2) (nx+3) (nx+4) (nx+5) s.words.length s.holds.length s.asked.length s.wait.length s.done.length s.told.length s)) ((((((H.set nx ⟨1,m0,s.words.map aF⟩).set (nx+1) ⟨1,m1,s.holds.map aF⟩).set (nx+2) ⟨1,a,s.asked.map aF⟩).set (nx+3) ⟨5,b,s.wait.map aL⟩).set (nx+4) ⟨5,d,s.done.map aL⟩).set (nx+5) ⟨5,e,s.told.map aL⟩) (nx+6)):
 ag1 cS [dA (eSt s)] H nx K:=by
 refine(KA c s f hs).DD (l0:=[]) [] rfl ⟨aE rfl,trivial⟩ trivial (by simp) (by simp) (by simp) fun r H' n' _ ⟨m0,m1,a,b,d,e,g,i,j,k⟩=> ?_
 have h:=h m0 m1 a b d e g
 subst i;subst j;subst k
 have l:back (tau 0 nx (nth [])) (hp [(0,⟨1,m0,s.words.map aF⟩),(1,⟨1,m1,s.holds.map aF⟩),(2,⟨1,a,s.asked.map aF⟩),(3,⟨5,b,s.wait.map aL⟩),(4,⟨5,d,s.done.map aL⟩),(5,⟨5,e,s.told.map aL⟩)]) 6 H=((((((H.set nx ⟨1,m0,s.words.map aF⟩).set (nx+1) ⟨1,m1,s.holds.map aF⟩).set (nx+2) ⟨1,a,s.asked.map aF⟩).set (nx+3) ⟨5,b,s.wait.map aL⟩).set (nx+4) ⟨5,d,s.done.map aL⟩).set (nx+5) ⟨5,e,s.told.map aL⟩):=by simp[back,hp,aA.set,aA.nil,tau,nth,nN,sV,aA.fI,aA.wR]
 rw[<-l] at h
 exact h
theorem Wd: ∀w,(Go.sizeOf (Tryz.f330.targs.getD 0 0)).run ag0 w= .ok (Tryz.prog.cellsOf (Tryz.f330.targs.getD 0 0)) w:=fun w=>by
 have h:(Tryz.prog.info? (Tryz.f330.targs.getD 0 0)).isSome=true:=by kernel_rfl
 exact run_sizeOf w (i:=(Tryz.prog.info? (Tryz.f330.targs.getD 0 0)).get h) (by simp)
theorem IG{j off b len d a:Nat}{f g:bN}(hi:H i=some f)(m:H j=some g)(k:i≠j)(o:0<f.ext)(p:0<g.ext)(q:0<g.n)(hc:0<cap)(l:0<a)(e:off*5<f.ext*f.n)
 (h:K (dB false) H nx):Vf ag0 sZ [.one (.c (.osl 5 i off len cap)),.one (.c (.osl 5 j b d a))] H nx K:=
 Ew (fn:=Tryz.f330) Tryz.func330 (by kernel_rfl) (by kernel_rfl) (by kernel_rfl) (tS:=Tryz.f330.params.getD 0 0) (tR:=Tryz.f330.resultTypes.getD 0 0) (el:=Tryz.f330.targs.getD 0 0) (by kernel_rfl) (by kernel_rfl) Wd hi m k o p q hc l e h
variable{j:Job}
theorem Vs(hs:gJ l)(g:key j∉l.map key){k:Nat}(c:k<l.length):zu (l.getD k default) j<0↔k<l.findIdx (eV j):=by
 rw[JO];have h:l.getD k default=l[k]:=by simp[List.getD,c]
 have d:key l[k]≠key j:=fun he=>g (he▸aeU (aeT c));rw[h];constructor
 ·intro b;refine Classical.byContradiction fun hc=> ?_;have f:l.findIdx (eV j)<l.length:=by omega
  have e:eV j l[l.findIdx (eV j)]=true:=afW (w:=f);rcases Nat.lt_or_eq_of_le (agG hc) with a|he;·have i:=adZ.1 hs _ _ f c a;rw[oM] at e i b;omega
  ·simp only[he] at e;rw[oM] at e b;omega
 ·intro a;have b:=afV a;simp only[key,ne_eq,Prod.mk.injEq] at d;simp only[eV,decide_eq_true_eq,decide_eq_false_iff_not] at b ⊢;omega
theorem mB(l:List Job)(j:Job)(hl:l.length<2^21)(hs:gJ l)(m:key j∉l.map key):ag1 cE [dS (l.map aL),dA (aL j),.one (.c (.clo bP []))] .nil 0
 fun i _ _=>i.plain=true/\ ∃b,i= .tup [.c (cI (l.findIdx (eV j):Nat)),.c (cB b)]:=by
 have x:=agE (p:=eV j) (xs:=l)
 have g:=fun k n=>Vs hs m (k:=k) n
 generalize l.findIdx (eV j)=f at*
 refine aR.mk Tryz.func297 (by kernel_rfl) lN rfl fun Q o=> ?_
 unfold cD
 repeat' first|apply vI<;>(simp only[go_sem])|fail
 refine aK.zE 0 (β:=Nat×Nat) (fun b u=>en [(10,dI u.2),(9,dI u.1),(8,dI l.length),(4,.one (.c (.dQ (aL j)))),(2,.one (.c (.clo bP []))),(0,dS (l.map aL))])
  (fun b u=>hp []) (fun u=>u.1<=f/\f<=u.2/\u.2<=l.length) (fun u=>u.2-u.1) (0,l.length) ?_ ⟨by omega,by dsimp only;omega,by dsimp only;omega⟩ ?_
 ·exact bI (ac1 _) (by repeat' first|exact C1|refine xqI rfl rfl ?_| (with_reducible apply C2)| ((with_reducible apply C0);exact CH (by rfl))| ((with_reducible apply D0);first|exact CI rfl (by simp) rfl rfl rfl|apply CJ)|fail)
 rintro⟨a,b⟩ ⟨q,r,s⟩ y e
 dsimp only at q r s
 by_cases t:a<b
 ·have hm:IntKind.i64.wrap ((IntKind.u64.wrap ((a:Int)+b)).fdiv (2^min 1 64))=((a+b)/2:Nat):=by
   rw[IntWalk.u64_in _ (by omega),Int.fdiv_eq_ediv_of_nonneg _ (by decide),IntWalk.i64_in _ (by simp;omega)]
   simp
  generalize v:(a+b)/2=d at hm
  have z:=g d (by omega)
  repeat' first| (first|apply vI|apply nW)<;>(simp only[go_sem,hm];try simp (disch:=omega) only[Iw])|apply vT (by omega)|refine iR (fun h=> ?_) fun h=> ?_|refine⟨by omega,?_⟩|fail
  ·exact e _ _ _ (d+1,b) (by omega) (bI (ac1 _) (by repeat' first|exact C1|refine xqI rfl rfl ?_| (with_reducible apply C2)| ((with_reducible apply C0);exact CH (by rfl))| ((with_reducible apply D0);apply CJ)|fail)) ⟨by dsimp only;omega,by dsimp only;omega,by dsimp only;omega⟩ (by dsimp only;omega)
  ·exact e _ _ _ (a,d) (by omega) (bI (ac1 _) (by repeat' first|exact C1|refine xqI rfl rfl ?_| (with_reducible apply C2)| ((with_reducible apply C0);exact CH (by rfl))| ((with_reducible apply D0);apply CJ)|fail)) ⟨by dsimp only;omega,by dsimp only;omega,by dsimp only;omega⟩ (by dsimp only;omega)
 ·repeat' first| (first|apply vI|refine Y6 (fun h=> ?_) fun h=> ?_|apply nW)<;>(simp only[go_sem])|apply vF (by omega)|refine⟨by omega,?_⟩|fail
  all_goals
   have w:a=f:=by omega
   subst w
   exact o _ _ _ _ _ 0 (.tup [.c (cI _),.c (cB _)]) .nil _ _ (.inr rfl) rfl (ua (aE rfl)) ⟨rfl,_,rfl⟩
theorem l9{d:D}(hl:l.length<2^21)(hs:gJ l)(a:key j∉l.map key)(e:CvD H (fun _=>True) id 0 (dS (l.map aL)) d)(h: ∀b,K (.tup [.c (cI (l.findIdx (eV j):Nat)),.c (cB b)]) H nx):
 ag1 cE [d,dA (aL j),.one (.c (.clo bP []))] H nx K:=
 (mB l j hl hs a).pure rfl (aM ⟨e,aE rfl,nM rfl,trivial⟩) fun r ⟨b,hr⟩=>hr▸h b
theorem Vi{z:List D1}(hi:i<=l.length):wr (wr ((l.take i).map aL++List.replicate (l.length+1-i) z) i [aL j]) (i+1) (((l.drop i).take (l.length-i)).map aL)=(l.take i++j::l.drop i).map aL:=by
 have a:((l.take i).map aL).length=i:=by simp;omega
 have b:(l.drop i).take (l.length-i)=l.drop i:=ac6 (by simp);have c:wr ((l.take i).map aL++List.replicate (l.length+1-i) z) i [aL j]=(l.take i).map aL++[aL j]++List.replicate (l.length-i) z:=by unfold wr;rw[agM (by omega),ac6 (by omega),List.drop_append,aeK (by simp;omega),a];simp only[List.length_cons,List.length_nil,List.nil_append,List.drop_replicate];congr 2;omega
 rw[c,b];have e:((l.take i).map aL++[aL j]).length=i+1:=by simp;omega
 unfold wr;have d:List.drop (i+1+((l.drop i).map aL).length) ((l.take i).map aL++[aL j]++List.replicate (l.length-i) z)=[]:=aeK (by simp;omega);rw[d,agM (by omega),ac6 (by omega)];simp
theorem Xi(hi:i<l.length):wr (wr (l.map aL) (i+1) (((l.drop i).take (l.length-i)).map aL)) i [aL j]=(l.take i++j::l.drop i).map aL:=by
 have a:(l.drop i).take (l.length-i)=l.drop i:=ac6 (by simp);rw[a];have b:wr (l.map aL) (i+1) ((l.drop i).map aL)=(l.take (i+1)).map aL++(l.drop i).map aL:=by unfold wr;have c:List.drop (i+1+((l.drop i).map aL).length) (l.map aL)=[]:=aeK (by simp;omega);rw[c,adR,afG]
 rw[b];have e:((l.take (i+1)).map aL).length=i+1:=by simp;omega
 unfold wr;have d:List.drop (i+[aL j].length) ((l.take (i+1)).map aL)=[]:=aeK (by simp;omega);rw[agM (by omega),agD (by simp;omega),d,<-afG,afZ];simp
theorem AA(l:List Job)(j:Job)(i cap m:Nat)(hl:l.length<2^21)(hi:i<=l.length)(hc:l.length<=cap)(b:cap<=m):
 ag1 gB [dO 5 0 l.length cap,dI i,dO 5 1 1 1] (hp [(0,⟨5,m,l.map aL⟩),(1,⟨5,1,[aL j]⟩)]) 2
 fun r H' n'=>∃a e,l.length+1<=a/\a<=e/\n'=3/\H'=hp [(2,⟨5,e,(l.take i++j::l.drop i).map aL⟩)]/\r=dO 5 2 (l.length+1) a:=by
 refine aR.mk Tryz.func298 (by kernel_rfl) yR rfl fun Q c=> ?_
 unfold fM
 have g:((l.length:Int)+((1:Nat):Int)-(i:Int)).toNat=l.length+1-i:=by omega
 have k:((i:Int)+((1:Nat):Int)).toNat=i+1:=by omega
 have n:((l.length:Int)+((1:Nat):Int)).toNat=l.length+1:=by omega
 have o:i+(l.length+1-i)=l.length+1:=by omega
 have p:l.length+1-(i+1)=l.length-i:=by omega
 have q:min 1 (l.length+1-i)=1:=by omega
 have s:(i+(l.length-i)<=l.length)=True:=eq_true (by omega)
 have t:min (l.length+1-i) (l.length-i)=l.length-i:=by omega
 have u:IntKind.i64.wrap ((i:Int)+((1:Nat):Int))=(i:Int)+((1:Nat):Int):=IntWalk.i64_in _ (by omega)
 have d:List.take 1 [aL j]=[aL j]:=rfl
 repeat' first| (first|apply vI| (refine IG rfl rfl (by omega) (by simp) (by dsimp only;omega) (by simp) (by omega) (by omega) (by simp) ?_))<;>(simp only[go_sem,g,k,n,o,p,q,s,t,u,d,Nat.min_self];try simp (disch:=omega) only[Iw])|apply vF (by omega)|refine iR (fun h=> ?_) fun h=> ?_| (with_reducible first|refine fun(cap:Nat) (f:_<=cap)=> ?_|refine fun(v:_<=cap)=> ?_)|refine⟨by omega,?_⟩| (refine⟨by(rw[adP];omega),?_⟩)|fail
 · (refine c _ _ _ _ _ 3 (dO 5 2 (l.length+1) cap) (hp [(2,⟨5,cap,(l.take i++j::l.drop i).map aL⟩)]) _ _ (.inr rfl) rfl (fT [19] (by omega) (by repeat' first|exact C1| ((with_reducible apply C0);exact CQ (by omega) rfl rfl (by rfl) rfl)| ((with_reducible apply D0);apply CJ)|fail) ⟨⟨by simp,by simp[sgL],_,rfl,aY (aG bC _) (by rw[ac6 (by omega),aeK (by omega)]) rfl⟩,trivial⟩ (by simp[sgL])) ?_)
   exact⟨cap,cap,by omega,ac1 _,rfl,rfl,rfl⟩
 ·refine⟨⟨by omega,by simp[wr];omega,by omega⟩,?_⟩;rw[Vi hi];repeat' first|apply vI<;>(simp only[go_sem])|fail
  (refine c _ _ _ _ _ 3 (dO 5 2 (l.length+1) cap) (hp [(2,⟨5,cap,(l.take i++j::l.drop i).map aL⟩)]) _ _ (.inr rfl) rfl (fT [31] (by omega) (by repeat' first|exact C1| ((with_reducible apply C0);exact CQ (by omega) rfl rfl (by rfl) rfl)| ((with_reducible apply D0);apply CJ)|fail) ⟨⟨by simp,by simp[sgL],_,rfl,aY (aG bC _) rfl rfl⟩,trivial⟩ (by simp[sgL])) ?_);exact⟨cap,cap,by omega,ac1 _,rfl,rfl,rfl⟩
 ·refine⟨⟨by omega,by simp[wr];omega,by omega⟩,?_⟩;rw[Xi (by omega)];repeat' first|apply vI<;>(simp only[go_sem])|fail
  (refine c _ _ _ _ _ 3 (dO 5 2 (l.length+1) cap) (hp [(2,⟨5,m,(l.take i++j::l.drop i).map aL⟩)]) _ _ (.inr rfl) rfl (fT [0] (by omega) (by repeat' first|exact C1| ((with_reducible apply C0);exact CQ (by omega) rfl rfl (by rfl) rfl)| ((with_reducible apply D0);apply CJ)|fail) ⟨⟨by simp,by simp[sgL],_,rfl,aY (aG bC _) rfl rfl⟩,trivial⟩ (by simp[sgL])) ?_);exact⟨cap,m,by omega,b,rfl,rfl,rfl⟩
variable{i0:Nat}
theorem AD{i1:Nat}(hl:l.length<2^21)(hi:i<=l.length)(hc:l.length<=cap)(d:cap<=m)
 (t:i0<nx) (u:i1<nx) (c:i0≠i1) (f:H i0=some ⟨5,m,l.map aL⟩) (g:H i1=some ⟨5,1,[aL j]⟩)
 (h: ∀a b,l.length+1<=a->a<=b->K (dO 5 nx (l.length+1) a) (((H.del i0).del i1).set nx ⟨5,b,(l.take i++j::l.drop i).map aL⟩) (nx+1)):
 ag1 gB [dO 5 i0 l.length cap,dI i,dO 5 i1 1 1] H nx K:=by
 refine(AA l j i cap m hl hi hc d).DD [i0,i1] rfl ⟨qL (by simp) rfl rfl rfl rfl,aE rfl,qL (by simp) rfl rfl rfl rfl,trivial⟩
  ⟨⟨by simp,id,_,f,aY (aG bC _) rfl rfl⟩,⟨by simp,id,_,g,aY (aG (l:=[j]) bC) rfl rfl⟩,trivial⟩ (by simpa [nth] using c) (by simp;omega) (by simpa using c) fun r H' n' _ ⟨a,b,k,n,o,p,q⟩=> ?_
 have h:=h a b k n
 subst o;subst p;subst q
 generalize l.take i++j::l.drop i=e at*
 have s:back (tau 2 nx (nth [i0,i1])) (hp [(2,⟨5,b,e.map aL⟩)]) 3 H=((H.del i0).del i1).set nx ⟨5,b,e.map aL⟩:=by simp[back,hp,aA.set,aA.nil,tau,nth,nN,sV,aA.fI,aA.wR]
 rw[<-s] at h
 exact h
theorem Pn{a:Nat}{z:List D1}(b:a<l.length):wr ((l.take a).map aL++(l.drop (a+1)).map aL) (l.length-1) (List.replicate (l.length-(l.length-1)) z)=(lT l a).map aL++[z]:=by
 have c:(l.take a).map aL++(l.drop (a+1)).map aL=(lT l a).map aL:=by simp[lT]
 have d:((lT l a).map aL).length=l.length-1:=by have:=UY b;simp;omega
 have e:l.length-(l.length-1)=1:=by omega
 rw[c,e,List.replicate_one];unfold wr;have f:List.drop (l.length-1+[z].length) ((lT l a).map aL)=[]:=aeK (by simp at d ⊢;omega);rw[f,ac6 (by omega),adR]
theorem zV(l:List Job)(a cap m:Nat)(hl:l.length<2^21)(c:a<l.length)(hc:l.length<=cap)(f:cap<=m):
 ag1 eK [dO 5 0 l.length cap,dI a,dI (a+1)] (hp [(0,⟨5,m,l.map aL⟩)]) 1
 fun r H' n'=>∃b d,(lT l a).length<=b/\b<=d/\n'=2/\H'=hp [(1,⟨5,d,(lT l a).map aL⟩)]/\r=dO 5 1 (lT l a).length b:=by
 refine aR.mk Tryz.func223 (by kernel_rfl) yQ rfl fun Q g=> ?_
 unfold fN
 have h:((a:Int)+1).toNat=a+1:=by omega
 have i:a+(l.length-(a+1))=l.length-1:=by omega
 have j:(a+1+(l.length-(a+1))<=l.length)=True:=eq_true (by omega)
 have k:List.take (l.length-(a+1)) (List.drop (a+1) l)=List.drop (a+1) l:=ac6 (by simp)
 have n:(List.drop (a+1) l).length=l.length-(a+1):=adL
 have o:=UY c
 repeat' first|apply vI<;>(simp only[go_sem,h,i,j,k,n])|apply vF (by omega)| (with_reducible first|refine fun(cap:Nat) (e:_<=cap)=> ?_|refine fun(p:_<=cap)=> ?_)|refine⟨by omega,?_⟩| (refine⟨by(rw[adP];omega),?_⟩)|fail
 (refine g _ _ _ _ _ 2 (dO 5 1 (lT l a).length cap) (hp [(1,⟨5,cap,(lT l a).map aL⟩)]) _ _ (.inr rfl) rfl (fT [20,0] (by omega) (by repeat' first|exact C1| ((with_reducible apply C0);exact CQ (by omega) rfl rfl (by first|rfl|omega) rfl)| ((with_reducible apply D0);apply CJ)|fail) ⟨⟨by simp,by simp[sgL],_,rfl,Iu (junk:=[[cI 0,cI 0,cI 0,cI 0,.osl 0 0 0 0 0]]) (fun r hr=>(aG bC _ r hr).2) (Pn c) rfl (by decide)⟩,trivial⟩ (by simp[sgL])) ?_)
 exact⟨cap,cap,by omega,ac1 _,rfl,rfl,rfl⟩
theorem nG{z:Int}(hl:l.length<2^21)(q: ¬z<0)(f:z.toNat<l.length)(hc:l.length<=cap)(d:cap<=m)(s:i0<nx)(g:H i0=some ⟨5,m,l.map aL⟩)
 (h: ∀b c,(lT l z.toNat).length<=b->b<=c->K (dO 5 nx (lT l z.toNat).length b) ((H.del i0).set nx ⟨5,c,(lT l z.toNat).map aL⟩) (nx+1)):
 ag1 eK [dO 5 i0 l.length cap,dI z,dI (z+1)] H nx K:=by
 obtain⟨a,rfl⟩: ∃a:Nat,z=a:=⟨z.toNat,by omega⟩
 refine(zV l a cap m hl f hc d).DD [i0] rfl ⟨qL (by simp) rfl rfl rfl rfl,aE rfl,aE rfl,trivial⟩
  ⟨⟨by simp,id,_,g,aY (aG bC _) rfl rfl⟩,trivial⟩ (by simp) (by simp;omega) (by simp) fun r H' n' _ ⟨b,c,i,j,k,n,o⟩=> ?_
 simp only[Int.toNat_natCast] at h
 have h:=h b c i j
 subst k;subst n;subst o
 generalize lT l a=e at*
 have p:back (tau 1 nx (nth [i0])) (hp [(1,⟨5,c,e.map aL⟩)]) 2 H=(H.del i0).set nx ⟨5,c,e.map aL⟩:=by simp[back,hp,aA.set,aA.nil,tau,nth,nN,sV,aA.fI,aA.wR]
 rw[<-p] at h
 exact h
theorem rh(l:List Job)(j:Job)(cap m:Nat)(hl:l.length<2^21)(hs:gJ l)(e:key j∉l.map key)(hc:l.length<=cap)(d:cap<=m):
 ag1 mJ [dO 5 0 l.length cap,dA (aL j)] (hp [(0,⟨5,m,l.map aL⟩)]) 1
 fun r H' n'=>∃a c,(iF l j).length<=a/\a<=c/\n'=2/\H'=hp [(1,⟨5,c,(iF l j).map aL⟩)]/\r=dO 5 1 (iF l j).length a:=by
 have f:=agE (p:=eV j) (xs:=l)
 have g:=ie (l:=l) (j:=j)
 refine aR.mk Tryz.func222 (by kernel_rfl) fc rfl fun Q h=> ?_
 unfold w8
 repeat' first| (first|apply vI|refine l9 hl hs e (oI bC rfl rfl hc trivial) (fun b=> ?_)|refine AD hl f hc d (by omega) (by omega) (by omega) rfl rfl (fun a c k i=> ?_))<;>(simp only[go_sem])|fail
 (refine h _ _ _ _ _ 2 (dO 5 1 (iF l j).length a) (hp [(1,⟨5,c,(iF l j).map aL⟩)]) _ _ (.inr rfl) rfl (fT [17,0] (by omega) (by repeat' first|exact C1| ((with_reducible apply C0);exact CQ (by omega) rfl rfl (by first|rfl|omega) rfl)| ((with_reducible apply D0);apply CJ)|fail) ⟨⟨by simp,by simp[sgL],_,rfl,aY (aG bC _) rfl rfl⟩,trivial⟩ (by simp[sgL])) ?_)
 exact⟨a,c,by omega,i,rfl,rfl,rfl⟩
theorem NM{cs:List D1}(c:CvL H (fun _=>False) (nth [i0]) 1 (aL j) cs)(hl:l.length<2^21)(hs:gJ l)(f:key j∉l.map key)(hc:l.length<=cap)(d:cap<=m)(s:i0<nx)(g:H i0=some ⟨5,m,l.map aL⟩)
 (h: ∀a b,(iF l j).length<=a->a<=b->K (dO 5 nx (iF l j).length a) ((H.del i0).set nx ⟨5,b,(iF l j).map aL⟩) (nx+1)):
 ag1 mJ [dO 5 i0 l.length cap,dA cs] H nx K:=by
 refine(rh l j cap m hl hs f hc d).DD [i0] rfl ⟨qL (by simp) rfl rfl rfl rfl,c,trivial⟩
  ⟨⟨by simp,id,_,g,aY (aG bC _) rfl rfl⟩,trivial⟩ (by simp) (by simp;omega) (by simp) fun r H' n' _ ⟨a,b,i,k,n,o,p⟩=> ?_
 have h:=h a b i k
 subst n;subst o;subst p
 generalize iF l j=e at*
 have q:back (tau 1 nx (nth [i0])) (hp [(1,⟨5,b,e.map aL⟩)]) 2 H=(H.del i0).set nx ⟨5,b,e.map aL⟩:=by simp[back,hp,aA.set,aA.nil,tau,nth,nN,sV,aA.fI,aA.wR]
 rw[<-q] at h
 exact h
theorem jv{a b:Int}(hl:l.length<2^21)(hs:gJ l)(f:(a,b)∉l.map key)(hc:l.length<=cap)(d:cap<=m)(g:i0<nx)(i:H i0=some ⟨5,m,l.map aL⟩)
 (h: ∀c e,(iF l ⟨a,b,iL⟩).length<=c->c<=e->K (dO 5 nx (iF l ⟨a,b,iL⟩).length c) ((H.del i0).set nx ⟨5,e,(iF l ⟨a,b,iL⟩).map aL⟩) (nx+1)):
 ag1 mJ [dO 5 i0 l.length cap,dA [cI a,cI b,cI 0,cI 0,.osl 0 0 0 0 0]] H nx K:=
 NM (j:=⟨a,b,iL⟩) (aH (bE rfl) (aH (bE rfl) (aH (bE rfl) (aH (bE rfl) (aH yA cG))))) hl hs f hc d g i h
theorem gm{a b:Int}{r:Rsp}(hl:l.length<2^21)(hs:gJ l)(f:(a,b)∉l.map key)(hc:l.length<=cap)(d:cap<=m)(g:i0<nx)(i:H i0=some ⟨5,m,l.map aL⟩)
 (h: ∀c e,(iF l ⟨a,b,r⟩).length<=c->c<=e->K (dO 5 nx (iF l ⟨a,b,r⟩).length c) ((H.del i0).set nx ⟨5,e,(iF l ⟨a,b,r⟩).map aL⟩) (nx+1)):
 ag1 mJ [dO 5 i0 l.length cap,dA (cI a::cI b::lP r)] H nx K:=
 NM (j:=⟨a,b,r⟩) (xV fun x k=>adK.1 (bC ⟨a,b,r⟩).2 x k) hl hs f hc d g i h
theorem JK{l:List Int}{x:Int}(hl:l.length<2^40){c:D}(a:CvD H (fun _=>True) id 0 (dS (l.map aF)) c)(h:K (dI (bK (fun y=>decide (x=y)) l)) H nx):ag1 mY [c,dI x] H nx K:=by
 refine aC.pure (args0:=[dS (l.map aF),dI x]) (R:=fun e=>e=dI (bK (fun y=>decide (x=y)) l)) ?_ rfl (aM ⟨a,aE rfl,trivial⟩) (fun r hr=>hr▸h);clear h;refine aR.mk Tryz.func333 (by kernel_rfl) IL rfl fun Q d=> ?_;unfold jC;repeat' first|apply vI<;>(simp only[go_sem])|fail
 (refine aK.loop (α:={k:Nat//k<=l.length/\(∀i,i<k->(fun y=>decide (x=y)) (l.getD i default)=false)}) (fun u=>en [(8,dI u.1),(7,dI l.length),(1,dI x),(0,dS (l.map aF))]) (fun _=>.nil) _ (fun u=>l.length-u.1) ⟨0,by omega,(by intros;first|trivial|omega)⟩ (bI (ac1 _) (by repeat' first|exact C1|refine xqI rfl rfl ?_|fail)) ?_);(rintro⟨k,g,hinv⟩ j b);by_cases f:k<l.length
 ·repeat' first|apply vI<;>(simp only[go_sem];try simp (disch:=omega) only[Iw])|apply vT (by omega)|refine iR (fun h=> ?_) fun h=> ?_|refine⟨by omega,?_⟩|fail
  ·refine aQ d _ rfl rfl (nK (adY (EE (by omega) (decide_eq_true (by assumption)) hinv)))
  · (refine b _ _ _ ⟨k+1,by omega,bT hinv (decide_eq_false (by assumption))⟩ (by omega) (by(try dsimp only);omega) (bI (ac1 _) (by repeat' first|exact C1|refine xqI rfl rfl ?_|fail)))
 ·repeat' first|apply vI<;>(simp only[go_sem])|apply vF (by omega)|fail
  refine aQ d (dI _) rfl rfl (nK (adY (rU fun i hi=>hinv i (by omega))))
theorem F2{l:List Int}{x:Int}(hl:l.length<2^40){b:D}(a:CvD H (fun _=>True) id 0 (dS (l.map aF)) b)(h:K (dB (decide (x∈l))) H nx):ag1 kY [b,dI x] H nx K:=by
 refine aC.pure (args0:=[dS (l.map aF),dI x]) (R:=fun c=>c=dB (decide (x∈l))) ?_ rfl (aM ⟨a,aE rfl,trivial⟩) (fun r hr=>hr▸h);clear h;refine aR.mk Tryz.func302 (by kernel_rfl) EH rfl fun Q d=> ?_;unfold iH;repeat' first| (first|apply vI|refine JK hl (aE rfl) ?_)<;>(simp only[go_sem])|fail
 all_goals first|with_reducible refine aQ d _ rfl rfl ?_|skip
 all_goals refine nJ (dU.trans ⟨fun⟨y,e,he⟩=> ?_,fun h=>⟨x,h,by simp⟩⟩)
 all_goals have:=of_decide_eq_true he;subst this;exact e
theorem xd{f:Nat->Int}{n k:Nat}{x:Int}(c:k<n)(a:x=f k):((List.range k).map f++List.replicate (n-k) (0:Int)).set k x=(List.range (k+1)).map f++List.replicate (n-(k+1)) 0:=by
 have e:n-k=(n-(k+1))+1:=by omega
 have b:((List.range k).map f).length=k:=by simp
 rw[agF,b,if_neg (agB k),aeZ,e,List.replicate_succ,List.set_cons_zero,ae4,adF,adH,a];rfl
theorem XN{addr:Int}{many:Int}{wrap:Bool}(h:K (dS ((bQ addr many wrap).map aF)) H nx):ag1 DK [dI addr,dI many,dB wrap] H nx K:=by
 refine aC.fresh (R:=fun i=>i=dS ((bQ addr many wrap).map aF)) ?_ rfl (fun r hr=>hr▸h);clear h;refine aR.mk Tryz.func332 (by kernel_rfl) V2 rfl fun Q g=> ?_;unfold rJ;by_cases a:qG addr many wrap
 ·obtain⟨j,m,p,q,s,f6,t,u⟩:=W0 a;repeat' first| (first|apply vI|apply EM)<;>(simp only[go_sem,f6,eq_true a])|refine⟨by omega,?_⟩|fail
  refine aK.zE 1 (β:=Nat) (fun b k=>en [(18,dI k),(17,dI many),(7,dO 1 b many.toNat many.toNat),(2,dB wrap),(1,dI many),(0,dI addr)])
   (fun b k=>hp [(b,⟨1,many.toNat,((List.range k).map (bAt addr many wrap)++List.replicate (many.toNat-k) (0:Int)).map aF⟩)]) (fun k=>k<=many.toNat) (fun k=>many.toNat-k) 0 ?_ (by omega) ?_
  · (refine eD [7] (by omega) (by repeat' first|exact C1|refine xqI rfl rfl ?_|refine xqO (by omega) rfl rfl (by rfl) ?_|refine xqV rfl (by omega) ?_|fail) ⟨⟨by simp,by simp[sgL],_,rfl,aY (aG aP _) (by simp[aF]) rfl⟩,trivial⟩ (by simp[sgL]))
  intro k v w d;have hlen:((List.range k).map (bAt addr many wrap)++List.replicate (many.toNat-k) (0:Int)).length=many.toNat:=by simp;omega
  by_cases c:k<many.toNat
  ·obtain⟨x,y,z⟩:=ur a k c;have e:(addr+k).tmod many=(addr+k)%many:=aeJ (by omega);have n:=Int.emod_lt_of_pos (addr+k) m;have o:=Int.emod_nonneg (addr+k) j;repeat' first|apply vI<;>(simp only[go_sem,f6,e,ad0,hlen];try simp (disch:=omega) only[Iw])|apply vT (by omega)| ((refine CK (fun h=> ?_) (fun h=> ?_))<;>try subst h)|refine⟨by omega,?_⟩|fail
   ·exact d _ _ _ (k+1) (by omega) (by(refine eD [12] (by omega) (by repeat' first|exact C1|refine xqI rfl rfl ?_|refine xqO (by omega) rfl rfl (by rfl) ?_|fail) ⟨⟨by simp,by simp[sgL],_,rfl,aY (aG aP _) (congrArg _ (xd c (by simp only[bAt,if_true])).symm) rfl⟩,trivial⟩ (by simp[sgL]))) (by omega) (by omega)
   ·exact d _ _ _ (k+1) (by omega) (by(refine eD [12] (by omega) (by repeat' first|exact C1|refine xqI rfl rfl ?_|refine xqO (by omega) rfl rfl (by rfl) ?_|fail) ⟨⟨by simp,by simp[sgL],_,rfl,aY (aG aP _) (congrArg _ (xd c (by simp[bAt])).symm) rfl⟩,trivial⟩ (by simp[sgL]))) (by omega) (by omega)
  ·repeat' first|apply vI<;>(simp only[go_sem])|apply vF (by omega)|fail
   have f:k=many.toNat:=(by omega);subst f;exact HG g (dS ((bQ addr many wrap).map aF)) _ rfl (oI (l:=bQ addr many wrap) aP (by simp[bQ,a];rfl) (zT a).symm (by rw[zT a];omega) trivial) rfl rfl
 ·repeat' first| (first|apply vI|apply EM)<;>(simp only[go_sem,eq_false a])|fail
  exact HG g (dS []) _ rfl yA rfl (by simp[bQ,a])
theorem DZ{q:Req}(h:K (dS ((bQ q.addr q.many q.wrap).map aF)) H nx):ag1 kB [dA (dT q)] H nx K:=by
 refine aC.fresh (R:=fun a=>a=dS ((bQ q.addr q.many q.wrap).map aF)) ?_ rfl (fun r hr=>hr▸h);clear h;refine aR.mk Tryz.func300 (by kernel_rfl) M7 rfl fun Q b=> ?_;unfold l7;repeat' first| (first|apply vI|apply XN)<;>(simp only[go_sem])|fail
 all_goals exact HG b (dS _) _ rfl (aE rfl) rfl rfl
theorem TI{l:List Rng}{q:Req}(hl:l.length<2^40)(h:K (dI (eT l (bQ q.addr q.many q.wrap))) H nx):ag1 wP [dS (l.map cY),dA (dT q)] H nx K:=by
 refine aC.pure (args0:=[dS (l.map cY),dA (dT q)]) (R:=fun g=>g=dI (eT l (bQ q.addr q.many q.wrap))) ?_ rfl (aM ⟨aE rfl,aE rfl,trivial⟩) (fun r hr=>hr▸h);clear h;refine aR.mk Tryz.func253 (by kernel_rfl) px rfl fun Q c=> ?_;unfold AV;have j:=FA (addr:=q.addr) (many:=q.many) (wrap:=q.wrap);repeat' first| (first|apply vI|apply DZ)<;>(simp only[go_sem])|fail
 generalize bQ q.addr q.many q.wrap=all at*;(refine aK.loop (α:={k:Nat//k<=all.length/\(∀i,i<k->¬bK (inR · (all.getD i default)) l<0/\bK (inR · (all.getD i default)) l=bK (inR · (all.getD 0 default)) l)}) (fun u=>en [(12,dI u.1),(11,dI all.length),(10,dS (all.map aF)),(5,dI (if u.1=0 then-1 else bK (inR · (all.getD 0 default)) l)),(0,dS (l.map cY))]) (fun _=>.nil) _ (fun u=>all.length-u.1) ⟨0,by omega,(by intros;first|trivial|omega)⟩ (bI (ac1 _) (by repeat' first|exact C1|refine xqI rfl rfl ?_|fail)) ?_);(rintro⟨k,m,hinv⟩ n d);by_cases b:k<all.length
 ·repeat' first| (first|apply vI|refine Y6 (fun h=> ?_) fun h=> ?_|apply fe hl)<;>(simp only[go_sem];try simp (disch:=omega) only[Iw])|apply vT (by omega)|refine iR (fun h=> ?_) fun h=> ?_|refine⟨by omega,?_⟩|fail
  ·refine aQ c (dI _) rfl rfl (nK ?_);rcases aeO k with a|a
   ·subst a;have o:=Wn (p:=(inR · (all.getD 0 default))) (l:=l);by_cases f: ∀i,i<all.length->1<=i->bK (inR · (all.getD i default)) l=bK (inR · (all.getD 0 default)) l;·rw[SN (by omega) f];omega
    ·have: ∃i,i<all.length/\ ¬bK (inR · (all.getD i default)) l=bK (inR · (all.getD 0 default)) l:=Classical.byContradiction fun hc=>f fun i hi _=>Classical.byContradiction fun e=>hc ⟨i,hi,e⟩;obtain⟨i,hi,e⟩:=this;rw[O0 hi e]
   ·have:=(hinv 0 a).1;exact(O0 b (by omega)).symm
  ·refine aQ c (dI _) rfl rfl (nK (O0 b (fun he=> ?_)).symm);grind
  all_goals
   have heq:bK (inR · (all.getD k default)) l=bK (inR · (all.getD 0 default)) l:=by grind
   refine d _ _ _ ⟨k+1,by omega,bT hinv ⟨by omega,heq⟩⟩ (by omega) (by dsimp only;omega) (bI (ac1 _) ?_)
   dsimp only
   rw[if_neg (Nat.succ_ne_zero k),<-heq]
   repeat' first|exact C1|refine xqI rfl rfl ?_|fail
 ·repeat' first|apply vI<;>(simp only[go_sem])|apply vF (by omega)|fail
  refine aQ c (dI _) rfl rfl (nK ?_);by_cases a:k=0;·rw[if_pos a,az (by omega)]
  ·rw[if_neg a,SN (by omega) (fun i hi _=>(hinv i (by omega)).2)]
end
end Go.Proofs.YtlncecohbakleaaGreat
