/- Texts laid together by a program: rules, contracts and the walk that leads to the law. -/
import Derived.Test.YtlncecohbakleaaGreatPB6
import Derived.Test.YtlncecohbakleaaGreatPB5
import Derived.Test.YtlncecohbakleaaGreatPB4
set_option linter.unusedVariables false
set_option linter.unusedSimpArgs false
set_option linter.unusedSectionVars false
set_option maxRecDepth 100000
set_option maxHeartbeats 8000000
namespace Go.Proofs.YtlncecohbakleaaGreat
open Go Go.AM
attribute [local irreducible] aH wv aC vd wvH
section
variable{H:aA}{nx:Nat}{K:an4}
theorem Ui(n lo up:Int):an3 dR [dI n,dI lo,dI up] .nil 0 fun a _ _=>a.plain=true/\a=dB (decide (lo<=n/\n<=up)):=by
 refine aM.mk Tryz.func112 (by kernel_rfl) Ls rfl fun Q b=> ?_;unfold NV;repeat' first| (first|apply vI|refine Y6 (fun h=> ?_) fun h=> ?_)<;>(simp only[go_sem])|fail
 all_goals first|with_reducible refine aJ b _ rfl rfl ?_|skip
 all_goals first|exact rL (by omega)|exact uE (by omega)|exact j9 (by omega)|rfl
variable{n:Int}
theorem cO{lo:Int}{up:Int}(h:K (dB (decide (lo<=n/\n<=up))) H nx):an3 dR [dI n,dI lo,dI up] H nx K:=(Ui n lo up).pure rfl (aE ⟨aD rfl,aD rfl,aD rfl,trivial⟩) (fun r hr=>hr▸h)
theorem bF{lo:Int}{up:Int}(h:K (dB (decide (lo<=n/\n<=up))) H nx):an3 bW [dI n,dI lo,dI up] H nx K:=by
 refine aC.pure (args0:=[dI n,dI lo,dI up]) (R:=fun a=>a=dB (decide (lo<=n/\n<=up))) ?_ rfl (aE ⟨aD rfl,aD rfl,aD rfl,trivial⟩) (fun r hr=>hr▸h);clear h;refine aM.mk Tryz.func203 (by kernel_rfl) Fc rfl fun Q b=> ?_;unfold GZ;repeat' first| (first|apply vI|refine Y6 (fun h=> ?_) fun h=> ?_)<;>(simp only[go_sem])|fail
 all_goals first|with_reducible refine aJ b _ rfl rfl ?_|skip
 all_goals first|exact rL (by omega)|exact uE (by omega)|exact j9 (by omega)|rfl
theorem mr(n:Int):an3 lU [dI n] .nil 0 fun a _ _=>a.plain=true/\a=dB (decide (0<=n/\n<=2)):=by
 refine aM.mk Tryz.func281 (by kernel_rfl) ij rfl fun Q b=> ?_;unfold sJ;repeat' first| (first|apply vI|apply cO)<;>(simp only[go_sem])|fail
 all_goals first|with_reducible refine aJ b _ rfl rfl ?_|skip
 all_goals first|exact rL (by omega)|exact uE (by omega)|exact j9 (by omega)|rfl
theorem cV(h:K (dB (decide (0<=n/\n<=2))) H nx):an3 lU [dI n] H nx K:=(mr n).pure rfl (aE ⟨aD rfl,trivial⟩) (fun r hr=>hr▸h)
theorem zg(h:K (dB (decide (0<=n/\n<=65535))) H nx):an3 K4 [dI n] H nx K:=by
 refine aC.pure (args0:=[dI n]) (R:=fun a=>a=dB (decide (0<=n/\n<=65535))) ?_ rfl (aE ⟨aD rfl,trivial⟩) (fun r hr=>hr▸h);clear h;refine aM.mk Tryz.func340 (by kernel_rfl) vu rfl fun Q b=> ?_;unfold yN;repeat' first| (first|apply vI|apply cO)<;>(simp only[go_sem])|fail
 all_goals first|with_reducible refine aJ b _ rfl rfl ?_|skip
 all_goals first|exact rL (by omega)|exact uE (by omega)|exact j9 (by omega)|rfl
variable{addr:Int}
theorem OB{many:Int}{wrap:Bool}(h:K (dB (decide (t9 addr many wrap))) H nx):an3 FZ [dI addr,dI many,dB wrap] H nx K:=by
 refine aC.pure (args0:=[dI addr,dI many,dB wrap]) (R:=fun a=>a=dB (decide (t9 addr many wrap))) ?_ rfl (aE ⟨aD rfl,aD rfl,aD rfl,trivial⟩) (fun r hr=>hr▸h);clear h;refine aM.mk Tryz.func104 (by kernel_rfl) zr rfl fun Q b=> ?_;unfold DA;repeat' first| (first|apply vI|refine Y6 (fun h=> ?_) fun h=> ?_| (refine Y7 (fun h=> ?_) (fun h=> ?_)<;>try subst h)|apply cO)<;>(simp only[go_sem];try simp (disch:=omega) only[Iw])|fail
 all_goals first|with_reducible refine aJ b _ rfl rfl ?_|skip
 all_goals unfold t9
 all_goals first|exact rL (by simp;omega)|exact uE (by simp;omega)|exact j9 (by simp;omega)
theorem an{many:Int}{wrap:Bool}(h:K (dB (decide (t9 addr many wrap))) H nx):an3 GN [dI addr,dI many,dB wrap] H nx K:=by
 refine aC.pure (args0:=[dI addr,dI many,dB wrap]) (R:=fun a=>a=dB (decide (t9 addr many wrap))) ?_ rfl (aE ⟨aD rfl,aD rfl,aD rfl,trivial⟩) (fun r hr=>hr▸h);clear h;refine aM.mk Tryz.func314 (by kernel_rfl) zw rfl fun Q b=> ?_;unfold B6;repeat' first| (first|apply vI|refine Y6 (fun h=> ?_) fun h=> ?_| (refine Y7 (fun h=> ?_) (fun h=> ?_)<;>try subst h)|apply bF)<;>(simp only[go_sem];try simp (disch:=omega) only[Iw])|refine iB (fun h=> ?_) fun h=> ?_|fail
 all_goals first|with_reducible refine aJ b _ rfl rfl ?_|skip
 all_goals unfold t9
 all_goals first|exact rL (by simp;omega)|exact uE (by simp;omega)|exact j9 (by simp;omega)
variable{l:List Rng}
theorem U2(hl:l.length<2^40)(h:K (dI (bR (inR · addr) l)) H nx):an3 B2 [dS (l.map c7),dI addr] H nx K:=by
 refine aC.pure (args0:=[dS (l.map c7),dI addr]) (R:=fun c=>c=dI (bR (inR · addr) l)) ?_ rfl (aE ⟨aD rfl,aD rfl,trivial⟩) (fun r hr=>hr▸h);clear h;refine aM.mk Tryz.func315 (by kernel_rfl) yf rfl fun Q b=> ?_;unfold zC;repeat' first|apply vI<;>(simp only[go_sem])|fail
 (refine aH.loop (α:={k:Nat//k<=l.length/\(∀i,i<k->inR (l.getD i default) addr=false)}) (fun u=>en [(5,dI u.1),(1,dI addr),(0,dS (l.map c7))]) (fun _=>.nil) _ (fun u=>l.length-u.1) ⟨0,by omega,(by intros;first|trivial|omega)⟩ (aS (akA _) (by repeat' first|exact C1|refine xqI rfl rfl ?_|fail)) ?_);(rintro⟨k,d,hinv⟩ e a);repeat' first| (first|apply vI|apply bF)<;>(simp only[go_sem];try simp (disch:=omega) only[Iw])|refine iB (fun h=> ?_) fun h=> ?_|refine⟨by omega,?_⟩|fail
 ·refine aJ b _ rfl rfl (jC (ak3 (F8 (by omega) (decide_eq_true (by omega)) hinv)))
 · (refine a _ _ _ ⟨k+1,by omega,bT hinv (decide_eq_false (by omega))⟩ (by omega) (by(try dsimp only);omega) (aS (akA _) (by repeat' first|exact C1|refine xqI rfl rfl ?_|fail)))
 ·refine aJ b _ rfl rfl (jC (ak3 (s8 fun i hi=>hinv i (by omega))))
theorem QL{all:List Int}(hl:l.length<2^40)(d:all.length<2^40)(h:K (dI (eD l all)) H nx):an3 zR [dS (l.map c7),dS (all.map aG)] H nx K:=by
 refine aC.pure (args0:=[dS (l.map c7),dS (all.map aG)]) (R:=fun c=>c=dI (eD l all)) ?_ rfl (aE ⟨aD rfl,aD rfl,trivial⟩) (fun r hr=>hr▸h);clear h;refine aM.mk Tryz.func249 (by kernel_rfl) pv rfl fun Q a=> ?_;unfold vB;repeat' first| (first|apply vI|apply U2 hl)<;>(simp only[go_sem])|refine iB (fun h=> ?_) fun h=> ?_|refine⟨by omega,?_⟩|fail
 ·exact aJ a _ rfl rfl (jC (sq (by omega)).symm)
 (refine aH.loop (α:={k:Nat//k<=all.length/\(∀i,i<k->1<=i->bR (inR · (all.getD i default)) l=bR (inR · (all.getD 0 default)) l)}) (fun u=>en [(6,dI u.1),(5,dI (bR (inR · (all.getD 0 default)) l)),(1,dS (all.map aG)),(0,dS (l.map c7))]) (fun _=>.nil) _ (fun u=>all.length-u.1) ⟨1,by omega,(by intros;first|trivial|omega)⟩ (aS (akA _) (by repeat' first|exact C1|refine xqI rfl rfl ?_|fail)) ?_);(rintro⟨k,e,hinv⟩ f b);repeat' first| (first|apply vI|apply U2 hl)<;>(simp only[go_sem];try simp (disch:=omega) only[Iw])|refine iB (fun h=> ?_) fun h=> ?_|refine⟨by omega,?_⟩|fail
 ·exact aJ a _ rfl rfl (jC (TC (i:=k) (by omega) (by omega)).symm)
 · (refine b _ _ _ ⟨k+1,by omega,bT hinv (fun _=>by omega)⟩ (by omega) (by(try dsimp only);omega) (aS (akA _) (by repeat' first|exact C1|refine xqI rfl rfl ?_|fail)))
 ·exact aJ a _ rfl rfl (jC (YN (by omega) (fun i hi=>hinv i (by omega))).symm)
theorem O1{q:Req}(h:K (dB (wrM q)) H nx):an3 vX [dA (dK q)] H nx K:=by
 refine aC.pure (args0:=[dA (dK q)]) (R:=fun a=>a=dB (wrM q)) ?_ rfl (aE ⟨aD rfl,trivial⟩) (fun r hr=>hr▸h);clear h;refine aM.mk Tryz.func288 (by kernel_rfl) ey rfl fun Q b=> ?_;unfold r9;repeat' first| (first|apply vI|refine Y6 (fun h=> ?_) fun h=> ?_)<;>(simp only[go_sem])|fail
 all_goals first|with_reducible refine aJ b _ rfl rfl ?_|skip
 all_goals unfold wrM
 all_goals first|exact rL (by omega)|exact uE (by omega)|exact j9 (by omega)|rfl
theorem PH{many:Int}{wrap:Bool}(h:K (dS ((bN addr many wrap).map aG)) H nx):an3 vR [dI addr,dI many,dB wrap] H nx K:=by
 refine aC.fresh (R:=fun g=>g=dS ((bN addr many wrap).map aG)) ?_ rfl (fun r hr=>hr▸h);clear h;refine aM.mk Tryz.func250 (by kernel_rfl) jz rfl fun Q e=> ?_;unfold sA;repeat' first| (first|apply vI|apply an)<;>(simp only[go_sem])|refine iB (fun h=> ?_) fun h=> ?_|fail
 ·exact JX e (dS []) _ rfl L7 rfl (by simp[bN,h])
 have a:=Classical.not_not.1 h;obtain⟨i,o,q,s,t,j,v,w⟩:=lv a;clear h;rw[j];refine⟨i,?_⟩;rw[IntWalk.i64_in (addr-_) (by omega)];repeat' first|apply vI<;>(simp only[go_sem])|fail
 refine aH.aaX 1 (α:={p:Nat×Nat//p.1<=many.toNat/\p.1<=p.2}) (fun b u=>en [(9,dI u.1.1),(8,dI (addr-addr%many)),(7,dO 1 b u.1.1 u.1.2),(2,dB wrap),(1,dI many),(0,dI addr)])
  (fun b u=>hp [(b,⟨1,u.1.2,((List.range u.1.1).map (bAt addr many wrap)).map aG⟩)]) (fun u=>many.toNat-u.1.1) ⟨(0,0),by omega,by omega⟩ (by(refine mZ [1] (by omega) (by repeat' first|exact C1|refine xqI rfl rfl ?_|refine xqO (by omega) rfl rfl (by rfl) ?_|fail) ⟨⟨by simp,by simp[sgL],_,rfl,dX (aW bG _) rfl rfl⟩,trivial⟩ (by simp[sgL]))) ?_
 rintro⟨⟨k,cap⟩,l,hc⟩ x c;dsimp only at l hc;by_cases d:k<many.toNat
 ·obtain⟨y,z,m⟩:=Dm a k d;repeat' first|apply vI<;>(simp only[go_sem];try simp (disch:=omega) only[Iw])|apply vT (by omega)| (with_reducible first|refine fun(cap:Nat) (f:_<=cap)=> ?_|refine fun(n:_<=cap)=> ?_)| ((refine L0 (fun h=> ?_) (fun h=> ?_))<;>try subst h)|refine⟨by omega,?_⟩|fail
  ·refine c _ _ _ ⟨(k+1,cap),by omega,by omega⟩ (by omega) (by dsimp only;omega) (by(refine mZ [31] (by omega) (by repeat' first|exact C1|refine xqI rfl rfl ?_|refine xqO (by omega) rfl rfl (by rfl) ?_|fail) ⟨⟨by simp,by simp[sgL],_,rfl,dX (aW bG _) (congrArg _ (wb (by simp only[bAt,if_true];exact m))) rfl⟩,trivial⟩ (by simp[sgL])))
  ·refine c _ _ _ ⟨(k+1,cap),by omega,by omega⟩ (by omega) (by dsimp only;omega) (by(refine mZ [25] (by omega) (by repeat' first|exact C1|refine xqI rfl rfl ?_|refine xqO (by omega) rfl rfl (by rfl) ?_|fail) ⟨⟨by simp,by simp[sgL],_,rfl,dX (aW bG _) (congrArg _ (wb rfl)) rfl⟩,trivial⟩ (by simp[sgL])))
 ·repeat' first|apply vI<;>(simp only[go_sem])|apply vF (by omega)|fail
  ·refine JX e (dS _) _ rfl (SW bG rfl (by simp) (by simpa using hc) trivial) rfl ?_;have:k=many.toNat:=(by omega);subst this;simp[bN,a]
theorem sX(l:List Rng)(f:FuncId)(caps:List D1)(p:Rng->Bool)(hl:l.length<2^40)(hc:caps.all D1.fV=true)(j: ∀x∈l,∀(H:aA) (nx:Nat) (K:an4),K (dB (p x)) H nx->an3 f (dA (c7 x)::caps.map fun d=>.one (.c d)) H nx K):
 an3 cF [dS (l.map c7),.one (.c (.clo f caps))] .nil 0 fun r _ _=>r.plain=true/\r=dI (bR p l):=by
 refine aM.mk Tryz.func337 (by kernel_rfl) rJ rfl fun Q g=> ?_
 unfold cZ
 repeat' first|apply vI<;>(simp only[go_sem])|fail
 (refine aH.loop (α:={k:Nat//k<=l.length/\(∀i,i<k->p (l.getD i default)=false)}) (fun u=>en [(8,dI u.1),(7,dI l.length),(1,.one (.c (.clo f caps))),(0,dS (l.map c7))]) (fun _=>.nil) _ (fun u=>l.length-u.1) ⟨0,by omega,(by intros;first|trivial|omega)⟩ (aS (akA _) (by repeat' first|exact C1|refine xqI rfl rfl ?_| (with_reducible apply C2)| ((with_reducible apply C0);exact CH (by assumption))| ((with_reducible apply D0);apply CJ)|fail)) ?_);(rintro⟨k,m,hinv⟩ n b)
 by_cases e:k<l.length
 ·have a:l.getD k default∈l:=by simp[List.getD,e]
  repeat' first| (first|apply vI|apply j _ a _ _ _)<;>(simp only[go_sem];try simp (disch:=omega) only[Iw])|apply vT (by omega)| ((refine L0 (fun h=> ?_) (fun h=> ?_))<;>try subst h)|refine⟨by omega,?_⟩|fail
  ·refine aJ g _ rfl rfl (jC (ak3 (F8 (by omega) (by assumption) hinv)))
  · (refine b _ _ _ ⟨k+1,by omega,bT hinv (by assumption)⟩ (by omega) (by(try dsimp only);omega) (aS (akA _) (by repeat' first|exact C1|refine xqI rfl rfl ?_| (with_reducible apply C2)| ((with_reducible apply C0);exact CH (by assumption))| ((with_reducible apply D0);apply CJ)|fail)))
 ·repeat' first|apply vI<;>(simp only[go_sem])|apply vF (by omega)|fail
  ·refine aJ g _ rfl rfl (jC (ak3 (s8 fun i hi=>hinv i (by omega))))
variable{f:FuncId}{caps caps0:List D1}{d:D}
theorem jY{p:Rng->Bool}(hl:l.length<2^40)(hc:caps.all D1.fV=true)(a:CvD H (fun _=>True) id 0 (dS (l.map c7)) d)(b:CvD H (fun _=>True) id 0 (.one (.c (.clo f caps))) (.one (.c (.clo f caps0))))(e: ∀x∈l,∀(H:aA) (nx:Nat) (K:an4),K (dB (p x)) H nx->an3 f (dA (c7 x)::caps.map fun d=>.one (.c d)) H nx K)
 (h:K (dI (bR p l)) H nx):an3 cF [d,.one (.c (.clo f caps0))] H nx K:=
 (sX l f caps p hl hc e).pure rfl (aE ⟨a,b,trivial⟩) fun r hr=>hr▸h
theorem pV(l:List Rng)(f:FuncId)(caps:List D1)(p:Rng->Bool)(hl:l.length<2^40)(hc:caps.all D1.fV=true)(a: ∀x∈l,∀(H:aA) (nx:Nat) (K:an4),K (dB (p x)) H nx->an3 f (dA (c7 x)::caps.map fun d=>.one (.c d)) H nx K):
 an3 cN [dS (l.map c7),.one (.c (.clo f caps))] .nil 0 fun r _ _=>r.plain=true/\r=dB (decide (0<=bR p l)):=by
 refine aM.mk Tryz.func323 (by kernel_rfl) pL rfl fun Q b=> ?_
 unfold cL
 repeat' first| (first|apply vI|refine jY hl hc (aD rfl) (pO hc) a ?_)<;>(simp only[go_sem])|fail
 all_goals exact aJ b _ rfl rfl rfl
theorem pU{p:Rng->Bool}(hl:l.length<2^40)(hc:caps.all D1.fV=true)(a:CvD H (fun _=>True) id 0 (dS (l.map c7)) d)(b:CvD H (fun _=>True) id 0 (.one (.c (.clo f caps))) (.one (.c (.clo f caps0))))(e: ∀x∈l,∀(H:aA) (nx:Nat) (K:an4),K (dB (p x)) H nx->an3 f (dA (c7 x)::caps.map fun d=>.one (.c d)) H nx K)
 (h:K (dB (decide (0<=bR p l))) H nx):an3 cN [d,.one (.c (.clo f caps0))] H nx K:=
 (pV l f caps p hl hc e).pure rfl (aE ⟨a,b,trivial⟩) fun r hr=>hr▸h
theorem GR(l:List Int)(f:FuncId)(caps:List D1)(p:Int->Bool)(hl:l.length<2^40)(hc:caps.all D1.fV=true)(j: ∀x∈l,∀(H:aA) (nx:Nat) (K:an4),K (dB (p x)) H nx->an3 f (dI x::caps.map fun d=>.one (.c d)) H nx K):
 an3 gU [dS (l.map aG),.one (.c (.clo f caps))] .nil 0 fun r _ _=>r.plain=true/\r=dI (bR p l):=by
 refine aM.mk Tryz.func286 (by kernel_rfl) FA rfl fun Q g=> ?_
 unfold gE
 repeat' first|apply vI<;>(simp only[go_sem])|fail
 (refine aH.loop (α:={k:Nat//k<=l.length/\(∀i,i<k->p (l.getD i default)=false)}) (fun u=>en [(8,dI u.1),(7,dI l.length),(1,.one (.c (.clo f caps))),(0,dS (l.map aG))]) (fun _=>.nil) _ (fun u=>l.length-u.1) ⟨0,by omega,(by intros;first|trivial|omega)⟩ (aS (akA _) (by repeat' first|exact C1|refine xqI rfl rfl ?_| (with_reducible apply C2)| ((with_reducible apply C0);exact CH (by assumption))| ((with_reducible apply D0);apply CJ)|fail)) ?_);(rintro⟨k,m,hinv⟩ n b)
 by_cases e:k<l.length
 ·have a:l.getD k default∈l:=by simp[List.getD,e]
  repeat' first| (first|apply vI|apply j _ a _ _ _)<;>(simp only[go_sem];try simp (disch:=omega) only[Iw])|apply vT (by omega)| ((refine L0 (fun h=> ?_) (fun h=> ?_))<;>try subst h)|refine⟨by omega,?_⟩|fail
  ·refine aJ g _ rfl rfl (jC (ak3 (F8 (by omega) (by assumption) hinv)))
  · (refine b _ _ _ ⟨k+1,by omega,bT hinv (by assumption)⟩ (by omega) (by(try dsimp only);omega) (aS (akA _) (by repeat' first|exact C1|refine xqI rfl rfl ?_| (with_reducible apply C2)| ((with_reducible apply C0);exact CH (by assumption))| ((with_reducible apply D0);apply CJ)|fail)))
 ·repeat' first|apply vI<;>(simp only[go_sem])|apply vF (by omega)|fail
  ·refine aJ g _ rfl rfl (jC (ak3 (s8 fun i hi=>hinv i (by omega))))
theorem GW{l:List Int}{p:Int->Bool}(hl:l.length<2^40)(hc:caps.all D1.fV=true)(a:CvD H (fun _=>True) id 0 (dS (l.map aG)) d)(b:CvD H (fun _=>True) id 0 (.one (.c (.clo f caps))) (.one (.c (.clo f caps0))))(e: ∀x∈l,∀(H:aA) (nx:Nat) (K:an4),K (dB (p x)) H nx->an3 f (dI x::caps.map fun d=>.one (.c d)) H nx K)
 (h:K (dI (bR p l)) H nx):an3 gU [d,.one (.c (.clo f caps0))] H nx K:=
 (GR l f caps p hl hc e).pure rfl (aE ⟨a,b,trivial⟩) fun r hr=>hr▸h
theorem BE(l:List Int)(f:FuncId)(caps:List D1)(p:Int->Bool)(hl:l.length<2^40)(hc:caps.all D1.fV=true)(a: ∀x∈l,∀(H:aA) (nx:Nat) (K:an4),K (dB (p x)) H nx->an3 f (dI x::caps.map fun d=>.one (.c d)) H nx K):
 an3 cC [dS (l.map aG),.one (.c (.clo f caps))] .nil 0 fun r _ _=>r.plain=true/\r=dB (decide (0<=bR p l)):=by
 refine aM.mk Tryz.func201 (by kernel_rfl) AO rfl fun Q b=> ?_
 unfold fC
 repeat' first| (first|apply vI|refine GW hl hc (aD rfl) (pO hc) a ?_)<;>(simp only[go_sem])|fail
 all_goals exact aJ b _ rfl rfl rfl
theorem fJ{l:List Int}{p:Int->Bool}(hl:l.length<2^40)(hc:caps.all D1.fV=true)(a:CvD H (fun _=>True) id 0 (dS (l.map aG)) d)(b:CvD H (fun _=>True) id 0 (.one (.c (.clo f caps))) (.one (.c (.clo f caps0))))(e: ∀x∈l,∀(H:aA) (nx:Nat) (K:an4),K (dB (p x)) H nx->an3 f (dI x::caps.map fun d=>.one (.c d)) H nx K)
 (h:K (dB (decide (0<=bR p l))) H nx):an3 cC [d,.one (.c (.clo f caps0))] H nx K:=
 (BE l f caps p hl hc e).pure rfl (aE ⟨a,b,trivial⟩) fun r hr=>hr▸h
theorem xN(l:List Req)(f:FuncId)(caps:List D1)(p:Req->Bool)(hl:l.length<2^40)(hc:caps.all D1.fV=true)(j: ∀x∈l,∀(H:aA) (nx:Nat) (K:an4),K (dB (p x)) H nx->an3 f (dA (dK x)::caps.map fun d=>.one (.c d)) H nx K):
 an3 eI [dS (l.map dK),.one (.c (.clo f caps))] .nil 0 fun r _ _=>r.plain=true/\r=dI (bR p l):=by
 refine aM.mk Tryz.func326 (by kernel_rfl) wQ rfl fun Q g=> ?_
 unfold eG
 repeat' first|apply vI<;>(simp only[go_sem])|fail
 (refine aH.loop (α:={k:Nat//k<=l.length/\(∀i,i<k->p (l.getD i default)=false)}) (fun u=>en [(8,dI u.1),(7,dI l.length),(1,.one (.c (.clo f caps))),(0,dS (l.map dK))]) (fun _=>.nil) _ (fun u=>l.length-u.1) ⟨0,by omega,(by intros;first|trivial|omega)⟩ (aS (akA _) (by repeat' first|exact C1|refine xqI rfl rfl ?_| (with_reducible apply C2)| ((with_reducible apply C0);exact CH (by assumption))| ((with_reducible apply D0);apply CJ)|fail)) ?_);(rintro⟨k,m,hinv⟩ n b)
 by_cases e:k<l.length
 ·have a:l.getD k default∈l:=by simp[List.getD,e]
  repeat' first| (first|apply vI|apply j _ a _ _ _)<;>(simp only[go_sem];try simp (disch:=omega) only[Iw])|apply vT (by omega)| ((refine L0 (fun h=> ?_) (fun h=> ?_))<;>try subst h)|refine⟨by omega,?_⟩|fail
  ·refine aJ g _ rfl rfl (jC (ak3 (F8 (by omega) (by assumption) hinv)))
  · (refine b _ _ _ ⟨k+1,by omega,bT hinv (by assumption)⟩ (by omega) (by(try dsimp only);omega) (aS (akA _) (by repeat' first|exact C1|refine xqI rfl rfl ?_| (with_reducible apply C2)| ((with_reducible apply C0);exact CH (by assumption))| ((with_reducible apply D0);apply CJ)|fail)))
 ·repeat' first|apply vI<;>(simp only[go_sem])|apply vF (by omega)|fail
  ·refine aJ g _ rfl rfl (jC (ak3 (s8 fun i hi=>hinv i (by omega))))
theorem xL{l:List Req}{p:Req->Bool}(hl:l.length<2^40)(hc:caps.all D1.fV=true)(a:CvD H (fun _=>True) id 0 (dS (l.map dK)) d)(b:CvD H (fun _=>True) id 0 (.one (.c (.clo f caps))) (.one (.c (.clo f caps0))))(e: ∀x∈l,∀(H:aA) (nx:Nat) (K:an4),K (dB (p x)) H nx->an3 f (dA (dK x)::caps.map fun d=>.one (.c d)) H nx K)
 (h:K (dI (bR p l)) H nx):an3 eI [d,.one (.c (.clo f caps0))] H nx K:=
 (xN l f caps p hl hc e).pure rfl (aE ⟨a,b,trivial⟩) fun r hr=>hr▸h
theorem tU(l:List Req)(f:FuncId)(caps:List D1)(p:Req->Bool)(hl:l.length<2^40)(hc:caps.all D1.fV=true)(a: ∀x∈l,∀(H:aA) (nx:Nat) (K:an4),K (dB (p x)) H nx->an3 f (dA (dK x)::caps.map fun d=>.one (.c d)) H nx K):
 an3 dN [dS (l.map dK),.one (.c (.clo f caps))] .nil 0 fun r _ _=>r.plain=true/\r=dB (decide (0<=bR p l)):=by
 refine aM.mk Tryz.func275 (by kernel_rfl) sC rfl fun Q b=> ?_
 unfold dC
 repeat' first| (first|apply vI|refine xL hl hc (aD rfl) (pO hc) a ?_)<;>(simp only[go_sem])|fail
 all_goals exact aJ b _ rfl rfl rfl
theorem tV{l:List Req}{p:Req->Bool}(hl:l.length<2^40)(hc:caps.all D1.fV=true)(a:CvD H (fun _=>True) id 0 (dS (l.map dK)) d)(b:CvD H (fun _=>True) id 0 (.one (.c (.clo f caps))) (.one (.c (.clo f caps0))))(e: ∀x∈l,∀(H:aA) (nx:Nat) (K:an4),K (dB (p x)) H nx->an3 f (dA (dK x)::caps.map fun d=>.one (.c d)) H nx K)
 (h:K (dB (decide (0<=bR p l))) H nx):an3 dN [d,.one (.c (.clo f caps0))] H nx K:=
 (tU l f caps p hl hc e).pure rfl (aE ⟨a,b,trivial⟩) fun r hr=>hr▸h
theorem uL(l:List (List Req))(f:FuncId)(caps:List D1)(p:(List Req)->Bool)(hl:l.length<2^40)(hc:caps.all D1.fV=true)(j: ∀x∈l,∀(H:aA) (nx:Nat) (K:an4),K (dB (p x)) H nx->an3 f (dS (x.map dK)::caps.map fun d=>.one (.c d)) H nx K):
 an3 dV [dS (l.map mW),.one (.c (.clo f caps))] .nil 0 fun r _ _=>r.plain=true/\r=dI (bR p l):=by
 refine aM.mk Tryz.func325 (by kernel_rfl) tY rfl fun Q g=> ?_
 unfold dJ
 repeat' first|apply vI<;>(simp only[go_sem])|fail
 (refine aH.loop (α:={k:Nat//k<=l.length/\(∀i,i<k->p (l.getD i default)=false)}) (fun u=>en [(8,dI u.1),(7,dI l.length),(1,.one (.c (.clo f caps))),(0,dS (l.map mW))]) (fun _=>.nil) _ (fun u=>l.length-u.1) ⟨0,by omega,(by intros;first|trivial|omega)⟩ (aS (akA _) (by repeat' first|exact C1|refine xqI rfl rfl ?_| (with_reducible apply C2)| ((with_reducible apply C0);exact CH (by assumption))| ((with_reducible apply D0);apply CJ)|fail)) ?_);(rintro⟨k,m,hinv⟩ n b)
 by_cases e:k<l.length
 ·have a:l.getD k default∈l:=by simp[List.getD,e]
  repeat' first| (first|apply vI|apply j _ a _ _ _)<;>(simp only[go_sem];try simp (disch:=omega) only[Iw])|apply vT (by omega)| ((refine L0 (fun h=> ?_) (fun h=> ?_))<;>try subst h)|refine⟨by omega,?_⟩|fail
  ·refine aJ g _ rfl rfl (jC (ak3 (F8 (by omega) (by assumption) hinv)))
  · (refine b _ _ _ ⟨k+1,by omega,bT hinv (by assumption)⟩ (by omega) (by(try dsimp only);omega) (aS (akA _) (by repeat' first|exact C1|refine xqI rfl rfl ?_| (with_reducible apply C2)| ((with_reducible apply C0);exact CH (by assumption))| ((with_reducible apply D0);apply CJ)|fail)))
 ·repeat' first|apply vI<;>(simp only[go_sem])|apply vF (by omega)|fail
  ·refine aJ g _ rfl rfl (jC (ak3 (s8 fun i hi=>hinv i (by omega))))
theorem uX{l:List (List Req)}{p:(List Req)->Bool}(hl:l.length<2^40)(hc:caps.all D1.fV=true)(a:CvD H (fun _=>True) id 0 (dS (l.map mW)) d)(b:CvD H (fun _=>True) id 0 (.one (.c (.clo f caps))) (.one (.c (.clo f caps0))))(e: ∀x∈l,∀(H:aA) (nx:Nat) (K:an4),K (dB (p x)) H nx->an3 f (dS (x.map dK)::caps.map fun d=>.one (.c d)) H nx K)
 (h:K (dI (bR p l)) H nx):an3 dV [d,.one (.c (.clo f caps0))] H nx K:=
 (uL l f caps p hl hc e).pure rfl (aE ⟨a,b,trivial⟩) fun r hr=>hr▸h
theorem rF(l:List (List Req))(f:FuncId)(caps:List D1)(p:(List Req)->Bool)(hl:l.length<2^40)(hc:caps.all D1.fV=true)(a: ∀x∈l,∀(H:aA) (nx:Nat) (K:an4),K (dB (p x)) H nx->an3 f (dS (x.map dK)::caps.map fun d=>.one (.c d)) H nx K):
 an3 cX [dS (l.map mW),.one (.c (.clo f caps))] .nil 0 fun r _ _=>r.plain=true/\r=dB (decide (0<=bR p l)):=by
 refine aM.mk Tryz.func273 (by kernel_rfl) q9 rfl fun Q b=> ?_
 unfold cT
 repeat' first| (first|apply vI|refine uX hl hc (aD rfl) (pO hc) a ?_)<;>(simp only[go_sem])|fail
 all_goals exact aJ b _ rfl rfl rfl
theorem rS{l:List (List Req)}{p:(List Req)->Bool}(hl:l.length<2^40)(hc:caps.all D1.fV=true)(a:CvD H (fun _=>True) id 0 (dS (l.map mW)) d)(b:CvD H (fun _=>True) id 0 (.one (.c (.clo f caps))) (.one (.c (.clo f caps0))))(e: ∀x∈l,∀(H:aA) (nx:Nat) (K:an4),K (dB (p x)) H nx->an3 f (dS (x.map dK)::caps.map fun d=>.one (.c d)) H nx K)
 (h:K (dB (decide (0<=bR p l))) H nx):an3 cX [d,.one (.c (.clo f caps0))] H nx K:=
 (rF l f caps p hl hc e).pure rfl (aE ⟨a,b,trivial⟩) fun r hr=>hr▸h
theorem fu{r:Rng}(h:K (dB (inR r addr)) H nx):an3 BH [dA (c7 r),.one (.c (.eT [cI addr]))] H nx K:=by
 refine aC.pure (args0:=[dA (c7 r),.one (.c (.eT [cI addr]))]) (R:=fun a=>a=dB (inR r addr)) ?_ rfl (aE ⟨aD rfl,aD rfl,trivial⟩) (fun r hr=>hr▸h);clear h;refine aM.mk Tryz.func338 (by kernel_rfl) da rfl fun Q b=> ?_;unfold qG;repeat' first| (first|apply vI|apply cO)<;>(simp only[go_sem])|fail
 all_goals first|with_reducible refine aJ b _ rfl rfl ?_|skip
 all_goals exact rL alY
theorem yp(hl:l.length<2^40)(h:K (dI (bR (inR · addr) l)) H nx):an3 IK [dS (l.map c7),dI addr] H nx K:=by
 refine aC.pure (args0:=[dS (l.map c7),dI addr]) (R:=fun a=>a=dI (bR (inR · addr) l)) ?_ rfl (aE ⟨aD rfl,aD rfl,trivial⟩) (fun r hr=>hr▸h);clear h;refine aM.mk Tryz.func316 (by kernel_rfl) oz rfl fun Q b=> ?_;unfold wB;repeat' first| (first|apply vI|refine jY (caps:=[.eT [cI addr]]) (p:=(inR · addr)) hl rfl (aD rfl) (ri ⟨JU rfl trivial rfl rfl rfl,trivial⟩) (fun x _ H nx K h=>fu h) ?_)<;>(simp only[go_sem])|fail
 all_goals first|with_reducible refine aJ b _ rfl rfl ?_|skip
 all_goals first|rfl|exact jC (by omega)
theorem yb{q:Rng}{r:Rng}(h:K (dB (Cb q r)) H nx):an3 I8 [dA (c7 q),.one (.c (.eT (c7 r)))] H nx K:=by
 refine aC.pure (args0:=[dA (c7 q),.one (.c (.eT (c7 r)))]) (R:=fun a=>a=dB (Cb q r)) ?_ rfl (aE ⟨aD rfl,aD rfl,trivial⟩) (fun r hr=>hr▸h);clear h;refine aM.mk Tryz.func324 (by kernel_rfl) pb rfl fun Q b=> ?_;unfold vH;repeat' first| (first|apply vI|refine Y6 (fun h=> ?_) fun h=> ?_)<;>(simp only[go_sem])|fail
 all_goals first|with_reducible refine aJ b _ rfl rfl ?_|skip
 all_goals unfold Cb
 all_goals first|exact rL (by omega)|exact uE (by omega)|exact j9 (by omega)
theorem Gc(hl:l.length<2^40)(h:K (dB (decide (B1 l))) H nx):an3 N0 [dS (l.map c7)] H nx K:=by
 refine aC.pure (args0:=[dS (l.map c7)]) (R:=fun e=>e=dB (decide (B1 l))) ?_ rfl (aE ⟨aD rfl,trivial⟩) (fun r hr=>hr▸h);clear h;refine aM.mk Tryz.func271 (by kernel_rfl) zf rfl fun Q d=> ?_;unfold CM;repeat' first|apply vI<;>(simp only[go_sem])|fail
 (refine aH.loop (α:={k:Nat//k<=l.length/\(∀i,i<k->vj l i)}) (fun u=>en [(7,dI u.1),(6,dI l.length),(5,dS (l.map c7)),(0,dS (l.map c7))]) (fun _=>.nil) _ (fun u=>l.length-u.1) ⟨0,by omega,(by intros;first|trivial|omega)⟩ (aS (akA _) (by repeat' first|exact C1|refine xqI rfl rfl ?_|fail)) ?_);(rintro⟨k,f,hinv⟩ g a);by_cases b:k<l.length
 ·repeat' first| (first|apply vI|refine Y6 (fun h=> ?_) fun h=> ?_|apply cO| (refine pU (l:=l.take k) (caps:=[.eT (c7 (l.getD k default))]) (p:=fun q=>Cb q (l.getD k default)) (by simp;omega) rfl (aD rfl) (ri ⟨JU rfl trivial rfl rfl rfl,trivial⟩) (fun x _ H nx K h=>yb h) ?_))<;>(simp only[go_sem];try simp (disch:=omega) only[Iw])|apply vT (by omega)|refine iB (fun h=> ?_) fun h=> ?_|refine⟨by omega,?_⟩|fail
  all_goals first
   | (refine aJ d _ rfl rfl (j9 fun hm=> ?_);have:=(hm.2 k b);unfold vj HD at this;omega)
   | (refine a _ _ _ ⟨k+1,by omega,bT hinv (by unfold vj HD;omega)⟩ (by omega) (by(try dsimp only);omega) (aS (akA _) (by repeat' first|exact C1|refine xqI rfl rfl ?_|fail)))
 ·repeat' first|apply vI<;>(simp only[go_sem])|apply vF (by omega)|fail
  have c:k=l.length:=by omega
  subst c;exact aJ d _ rfl rfl (rL ⟨fun h=>⟨h,hinv⟩,fun h=>h.1⟩)
theorem jG{q:Req}(h:K (dB (wrM q)) H nx):an3 jJ [dA (dK q)] H nx K:=by
 refine aC.pure (args0:=[dA (dK q)]) (R:=fun a=>a=dB (wrM q)) ?_ rfl (aE ⟨aD rfl,trivial⟩) (fun r hr=>hr▸h);clear h;refine aM.mk Tryz.func299 (by kernel_rfl) PW rfl fun Q b=> ?_;unfold lH;repeat' first| (first|apply vI|refine Y6 (fun h=> ?_) fun h=> ?_)<;>(simp only[go_sem])|fail
 all_goals first|with_reducible refine aJ b _ rfl rfl ?_|skip
 all_goals unfold wrM
 all_goals first|exact rL (by omega)|exact uE (by omega)|exact j9 (by omega)|rfl
theorem ZW(h:K (dB (decide (¬(0<=n/\n<=65535)))) H nx):an3 yR [dI n] H nx K:=by
 refine aC.pure (args0:=[dI n]) (R:=fun a=>a=dB (decide (¬(0<=n/\n<=65535)))) ?_ rfl (aE ⟨aD rfl,trivial⟩) (fun r hr=>hr▸h);clear h;refine aM.mk Tryz.func339 (by kernel_rfl) W9 rfl fun Q b=> ?_;unfold oV;repeat' first| (first|apply vI|apply zg)<;>(simp only[go_sem])|fail
 all_goals first|with_reducible refine aJ b _ rfl rfl ?_|skip
 all_goals first|exact rL (by omega)|exact uE (by omega)|exact j9 (by omega)|rfl
theorem sv(h:K (dB (decide (¬(-1<=n/\n<=63)))) H nx):an3 IY [dI n] H nx K:=by
 refine aC.pure (args0:=[dI n]) (R:=fun a=>a=dB (decide (¬(-1<=n/\n<=63)))) ?_ rfl (aE ⟨aD rfl,trivial⟩) (fun r hr=>hr▸h);clear h;refine aM.mk Tryz.func279 (by kernel_rfl) py rfl fun Q b=> ?_;unfold vJ;repeat' first| (first|apply vI|apply cO)<;>(simp only[go_sem])|fail
 all_goals first|with_reducible refine aJ b _ rfl rfl ?_|skip
 all_goals first|exact rL (by omega)|exact uE (by omega)|exact j9 (by omega)|rfl
theorem xk(h:K (dB (decide (¬(0<=n/\n<=3)))) H nx):an3 IN [dI n] H nx K:=by
 refine aC.pure (args0:=[dI n]) (R:=fun a=>a=dB (decide (¬(0<=n/\n<=3)))) ?_ rfl (aE ⟨aD rfl,trivial⟩) (fun r hr=>hr▸h);clear h;refine aM.mk Tryz.func272 (by kernel_rfl) nk rfl fun Q b=> ?_;unfold u9;repeat' first| (first|apply vI|apply cO)<;>(simp only[go_sem])|fail
 all_goals first|with_reducible refine aJ b _ rfl rfl ?_|skip
 all_goals first|exact rL (by omega)|exact uE (by omega)|exact j9 (by omega)|rfl
theorem yi(h:K (dB (decide (¬(0<=n/\n<=3)))) H nx):an3 II [dI n] H nx K:=by
 refine aC.pure (args0:=[dI n]) (R:=fun a=>a=dB (decide (¬(0<=n/\n<=3)))) ?_ rfl (aE ⟨aD rfl,trivial⟩) (fun r hr=>hr▸h);clear h;refine aM.mk Tryz.func328 (by kernel_rfl) mz rfl fun Q b=> ?_;unfold wF;repeat' first| (first|apply vI|apply cO)<;>(simp only[go_sem])|fail
 all_goals first|with_reducible refine aJ b _ rfl rfl ?_|skip
 all_goals first|exact rL (by omega)|exact uE (by omega)|exact j9 (by omega)|rfl
theorem E1{l:List Int}(hl:l.length<2^40){b:D}(a:CvD H (fun _=>True) id 0 (dS (l.map aG)) b)(h:K (dB (decide (All l 0 65535))) H nx):an3 pP [b] H nx K:=by
 refine aC.pure (args0:=[dS (l.map aG)]) (R:=fun c=>c=dB (decide (All l 0 65535))) ?_ rfl (aE ⟨a,trivial⟩) (fun r hr=>hr▸h);clear h;refine aM.mk Tryz.func327 (by kernel_rfl) ib rfl fun Q d=> ?_;unfold sH;repeat' first| (first|apply vI|refine fJ (caps:=[]) (p:=fun x=>decide (¬(0<=x/\x<=65535))) hl rfl (aD rfl) (pO rfl) (fun x _ H nx K h=>ZW h) ?_)<;>(simp only[go_sem])|fail
 all_goals first|with_reducible refine aJ d _ rfl rfl ?_|skip
 all_goals exact rL aw.symm
theorem Ef{l:List Int}(hl:l.length<2^40){b:D}(a:CvD H (fun _=>True) id 0 (dA [.isl (l.map aG)]) b)(h:K (dB (decide ((l.length:Int)=64/\All l 0 65535))) H nx):an3 OF [b] H nx K:=by
 refine aC.pure (args0:=[dA [.isl (l.map aG)]]) (R:=fun c=>c=dB (decide ((l.length:Int)=64/\All l 0 65535))) ?_ rfl (aE ⟨a,trivial⟩) (fun r hr=>hr▸h);clear h;refine aM.mk Tryz.func278 (by kernel_rfl) Aa rfl fun Q d=> ?_;unfold CZ;repeat' first| (first|apply vI|refine Y6 (fun h=> ?_) fun h=> ?_|refine E1 hl (aD rfl) ?_)<;>(simp only[go_sem])|fail
 all_goals first|with_reducible refine aJ d _ rfl rfl ?_|skip
 all_goals first|exact j9 (by grind)|exact rL (by grind)
theorem GY{w:List Int}{u:List Int}(hw:w.length<2^40)(hu:u.length<2^40){b:D}(a:CvD H (fun _=>True) id 0 (dA [.isl (w.map aG),.isl (u.map aG)]) b)(h:K (dB (decide (rH w u))) H nx):an3 GA [b] H nx K:=by
 refine aC.pure (args0:=[dA [.isl (w.map aG),.isl (u.map aG)]]) (R:=fun c=>c=dB (decide (rH w u))) ?_ rfl (aE ⟨a,trivial⟩) (fun r hr=>hr▸h);clear h;refine aM.mk Tryz.func195 (by kernel_rfl) Ag rfl fun Q d=> ?_;unfold B3;repeat' first| (first|apply vI|refine Y6 (fun h=> ?_) fun h=> ?_|refine Ef hw (aD rfl) ?_|refine fJ (l:=u) (caps:=[]) (p:=fun x=>decide (¬(-1<=x/\x<=63))) hu rfl (aD rfl) (pO rfl) (fun x _ H nx K h=>sv h) ?_)<;>(simp only[go_sem])|fail
 all_goals first|with_reducible refine aJ d _ rfl rfl ?_|skip
 all_goals first|exact j9 (by unfold rH;rw[aw (lo:=-1)];grind)|exact rL (by unfold rH;rw[aw (lo:=-1)];grind)
theorem Ew{q:Req}(b:q.data.length<2^40)(hl:q.lanes.length<2^40)(h:K (dB (decide (fZ q))) H nx):an3 NY [dA (dK q)] H nx K:=by
 refine aC.pure (args0:=[dA (dK q)]) (R:=fun c=>c=dB (decide (fZ q))) ?_ rfl (aE ⟨aD rfl,trivial⟩) (fun r hr=>hr▸h);clear h;refine aM.mk Tryz.func277 (by kernel_rfl) Bl rfl fun Q a=> ?_;unfold CY;repeat' first| (first|apply vI|refine Y6 (fun h=> ?_) fun h=> ?_|apply cO|apply jG|apply OB|refine E1 b (aD rfl) ?_|refine fJ (l:=q.lanes) (caps:=[]) (p:=fun x=>decide (¬(0<=x/\x<=3))) hl rfl (aD rfl) (pO rfl) (fun x _ H nx K h=>yi h) ?_)<;>(simp only[go_sem])| ((refine L0 (fun h=> ?_) (fun h=> ?_))<;>try subst h)|fail
 all_goals first|with_reducible refine aJ a _ rfl rfl ?_|skip
 all_goals
  have e:=@aw q.lanes 0 3
  have d:wrM q=true↔(q.kind=2\/q.kind=4):=by simp[wrM]
  clear a
  first|exact j9 (by unfold fZ HH;grind)|exact uE (by unfold fZ HH;grind)|exact rL (by unfold fZ HH;grind)
theorem jn{q:Req}(a:q.data.length<2^40)(hl:q.lanes.length<2^40)(h:K (dB (decide (¬fZ q))) H nx):an3 B0 [dA (dK q)] H nx K:=by
 refine aC.pure (args0:=[dA (dK q)]) (R:=fun b=>b=dB (decide (¬fZ q))) ?_ rfl (aE ⟨aD rfl,trivial⟩) (fun r hr=>hr▸h);clear h;refine aM.mk Tryz.func276 (by kernel_rfl) bw rfl fun Q c=> ?_;unfold qN;repeat' first| (first|apply vI|apply Ew a hl)<;>(simp only[go_sem])|fail
 all_goals first|with_reducible refine aJ c _ rfl rfl ?_|skip
 all_goals first|exact rL (by omega)|exact uE (by omega)|exact j9 (by omega)|rfl
theorem so{p:Prog}(hp:p.length<2^40)(a: ∀q∈p,q.data.length<2^40/\q.lanes.length<2^40)(h:K (dB (decide (¬vA p))) H nx):an3 HQ [dS (p.map dK)] H nx K:=by
 refine aC.pure (args0:=[dS (p.map dK)]) (R:=fun c=>c=dB (decide (¬vA p))) ?_ rfl (aE ⟨aD rfl,trivial⟩) (fun r hr=>hr▸h);clear h;refine aM.mk Tryz.func274 (by kernel_rfl) nv rfl fun Q d=> ?_;unfold wE;repeat' first| (first|apply vI|refine Y6 (fun h=> ?_) fun h=> ?_|refine tV (l:=p) (caps:=[]) (p:=fun q=>decide (¬fZ q)) hp rfl (aD rfl) (pO rfl) (fun x b H nx K h=>jn (a x b).1 (a x b).2 h) ?_)<;>(simp only[go_sem])|fail
 all_goals first|with_reducible refine aJ d _ rfl rfl ?_|skip
 all_goals first|exact uE (by unfold vA;grind)|exact j9 (by unfold vA;grind)|exact rL (by unfold vA;grind)
theorem OG{c:Cfg}(hc:OJ c)(h:K (dB (decide (bI c))) H nx):an3 OK [dA (cD c)] H nx K:=by
 refine aC.pure (args0:=[dA (cD c)]) (R:=fun b=>b=dB (decide (bI c))) ?_ rfl (aE ⟨aD rfl,trivial⟩) (fun r hr=>hr▸h);clear h;refine aM.mk Tryz.func194 (by kernel_rfl) Bp rfl fun Q d=> ?_;unfold CL;repeat' first| (first|apply vI|refine Y6 (fun h=> ?_) fun h=> ?_|apply Gc hc.map|refine fJ (l:=c.lat) (caps:=[]) (p:=fun x=>decide (¬(0<=x/\x<=3))) hc.lat rfl (aD rfl) (pO rfl) (fun x _ H nx K h=>xk h) ?_|refine rS (l:=c.b7) (caps:=[]) (p:=fun q=>decide (¬vA q)) hc.b7 rfl (aD rfl) (pO rfl) (fun x a H nx K h=>so (hc.prog x a) (hc.req x a) h) ?_)<;>(simp only[go_sem])|fail
 all_goals first|with_reducible refine aJ d _ rfl rfl ?_|skip
 all_goals
  have e:=@aw c.lat 0 3
  first|exact uE (by unfold bI;grind)|exact j9 (by unfold bI;grind)|exact rL (by unfold bI;grind)
theorem gM{c:Cfg}{who:Int}(hp:c.b7.length=3)(a:rI c who n)(h:K (dI (bO c who n).id) H nx):an3 iU [dA (cD c),dI who,dI n] H nx K:=by
 refine aC.pure (args0:=[dA (cD c),dI who,dI n]) (R:=fun b=>b=dI (bO c who n).id) ?_ rfl (aE ⟨aD rfl,aD rfl,aD rfl,trivial⟩) (fun r hr=>hr▸h);clear h;refine aM.mk Tryz.func280 (by kernel_rfl) cj rfl fun Q d=> ?_;unfold qP;obtain⟨e,f,g⟩:=a;repeat' first|apply vI<;>(simp only[go_sem])|refine⟨by omega,?_⟩|fail
 all_goals first|with_reducible refine aJ d _ rfl rfl ?_|skip
 all_goals first|rfl|exact jC (by omega)
end
attribute [go_sem] akI
section
variable{H:aA}{nx:Nat}{K:an4}
theorem ny{a:Int}(h:K (dB false) H nx):an3 vV [dI a] H nx K:=by
 refine aC.pure (args0:=[dI a]) (R:=fun b=>b=dB false) ?_ rfl (aE ⟨aD rfl,trivial⟩) (fun r hr=>hr▸h);clear h;refine aM.mk Tryz.func305 (by kernel_rfl) ks rfl fun Q c=> ?_;unfold tA;repeat' first|apply vI<;>(simp only[go_sem])|fail
 all_goals first|with_reducible refine aJ c _ rfl rfl ?_|skip
 all_goals first|rfl|simp
def Ao(a b:Int):Int:=if a<b then-1 else if a>b then 1 else 0
theorem dj{a:Int}{b:Int}(h:K (dI (Ao a b)) H nx):an3 qU [dI a,dI b] H nx K:=by
 refine aC.pure (args0:=[dI a,dI b]) (R:=fun c=>c=dI (Ao a b)) ?_ rfl (aE ⟨aD rfl,aD rfl,trivial⟩) (fun r hr=>hr▸h);clear h;refine aM.mk Tryz.func227 (by kernel_rfl) W2 rfl fun Q d=> ?_;unfold oJ;repeat' first| (first|apply vI|apply ny)<;>(simp only[go_sem])|refine iB (fun h=> ?_) fun h=> ?_|fail
 all_goals first|with_reducible refine aJ d _ rfl rfl ?_|skip
 all_goals exact jC (by unfold Ao;grind)
def orI(a b:Int):Int:=if a≠0 then a else b
theorem Gb{a:Int}{b:Int}{e:D}(c:CvD H (fun _=>True) id 0 (dS [aG a,aG b]) e)(h:K (dI (orI a b)) H nx):an3 NQ [e] H nx K:=by
 refine aC.pure (args0:=[dS [aG a,aG b]]) (R:=fun j=>j=dI (orI a b)) ?_ rfl (aE ⟨c,trivial⟩) (fun r hr=>hr▸h);clear h;refine aM.mk Tryz.func226 (by kernel_rfl) Aj rfl fun Q f=> ?_;unfold DC;obtain⟨l,hl⟩: ∃l,l=[a,b]:=⟨_,rfl⟩
 have he:[aG a,aG b]=l.map aG:=by rw[hl];rfl
 have hlen:l.length=2:=by rw[hl];rfl
 rw[he];repeat' first|apply vI<;>(simp only[go_sem])|fail
 (refine aH.loop (α:={k:Nat//k<=2/\(∀i,i<k->l.getD i default=0)}) (fun u=>en [(8,dI u.1),(7,dI 2),(6,dS (l.map aG)),(3,dI 0)]) (fun _=>.nil) _ (fun u=>2-u.1) ⟨0,by omega,(by intros;first|trivial|omega)⟩ (aS (akA _) (by repeat' first|exact C1|refine xqI rfl rfl ?_|refine xqV rfl (by omega) ?_|fail)) ?_);(rintro⟨k,g,hinv⟩ o d);by_cases m:k<2
 ·repeat' first|apply vI<;>(simp only[go_sem];try simp (disch:=omega) only[Iw])|apply vT (by omega)|refine iB (fun h=> ?_) fun h=> ?_|refine⟨by omega,?_⟩|fail
  ·refine aJ f (dI _) rfl rfl (jC ?_);have g:k=0\/k=1:=(by omega);have n:=hinv 0;rcases g with rfl|rfl<;>simp[hl,List.getD] at* <;>simp_all [orI]
  · (refine d _ _ _ ⟨k+1,by omega,bT hinv (by omega)⟩ (by omega) (by(try dsimp only);omega) (aS (akA _) (by repeat' first|exact C1|refine xqI rfl rfl ?_|fail)))
 ·repeat' first|apply vI<;>(simp only[go_sem])|apply vF (by omega)|fail
  refine aJ f (dI _) rfl rfl (jC ?_);have n:=hinv 0 (by omega);have p:=hinv 1 (by omega);simp[hl,List.getD] at* <;>simp_all [orI]
def Le(a b:Job):Int:=orI (Ao a.who b.who) (Ao a.n b.n)
theorem S1{a b:Job}:Le a b<0↔fP a b=true:=by rw[uU];unfold Le orI Ao;grind
theorem HM{a:Job}{b:Job}(h:K (dI (Le a b)) H nx):an3 b9 [dA (aP a),dA (aP b)] H nx K:=by
 refine aC.pure (args0:=[dA (aP a),dA (aP b)]) (R:=fun c=>c=dI (Le a b)) ?_ rfl (aE ⟨aD rfl,aD rfl,trivial⟩) (fun r hr=>hr▸h);clear h;refine aM.mk Tryz.func136 (by kernel_rfl) UE rfl fun Q d=> ?_;unfold nA;repeat' first| (first|apply vI|apply dj|refine Gb (ru (rows:=[aG (Ao a.who b.who),aG (Ao a.n b.n)]) (aW bG [Ao a.who b.who,Ao a.n b.n]) rfl trivial rfl rfl rfl (akA 2)) ?_)<;>(simp only[go_sem])|fail
 all_goals first|with_reducible refine aJ d _ rfl rfl ?_|skip
 all_goals first|rfl|exact jC (by omega)
theorem MG(l:List Int)(hl:l.length<2^21):an3 jS [dS (l.map aG)] (hp []) 0
 fun r H' e=>∃cap,l.length<=cap/\e=1/\H'=hp [(0,⟨1,cap,l.map aG⟩)]/\r=dO 1 0 l.length cap:=by
 refine aM.mk Tryz.func262 (by kernel_rfl) LD rfl fun Q c=> ?_
 unfold jB
 refine aH.seq (aH.kd 1 ?_)
 repeat' first|apply vI<;>(simp only[go_sem])|refine Z7 (fun h=> ?_) fun h=> ?_| (with_reducible first|refine fun(cap:Nat) (d:_<=cap)=> ?_|refine fun(f:_<=cap)=> ?_|refine fun(b:Bool)=> ?_)| ((refine L0 (fun h=> ?_) (fun h=> ?_))<;>try subst h)|refine⟨by omega,?_⟩|fail
 all_goals first
  | (have a:=akA cap
     (refine c _ _ _ _ _ 1 (dO 1 0 l.length cap) (hp [(0,⟨1,cap,l.map aG⟩)]) _ _ (.inr rfl) rfl (oE [6] (by omega) (by repeat' first|exact C1| ((with_reducible apply C0);exact CQ (by omega) rfl rfl (by rfl) rfl)| ((with_reducible apply D0);apply CJ)|fail) ⟨⟨by simp,by simp[sgL],_,rfl,dX (aW bG _) rfl rfl⟩,trivial⟩ (by simp[sgL])) ?_)
     exact⟨cap,by omega,rfl,rfl,rfl⟩)
  | (have g:l=[]:=ak9 (by omega)
     subst g
     (refine c _ _ _ _ _ 1 (dO 1 0 0 0) (hp [(0,⟨1,0,([]:List Int).map aG⟩)]) _ _ (.inr rfl) rfl (oE [0] (by omega) (by repeat' first|exact C1| ((with_reducible apply C0);exact CC)| ((with_reducible apply D0);apply CJ)|fail) ⟨⟨by simp,by simp[sgL],_,rfl,dX (aW bG _) rfl rfl⟩,trivial⟩ (by simp[sgL])) ?_)
     exact⟨0,akA _,rfl,rfl,rfl⟩)
variable{l:List Int}
theorem MH(hl:l.length<2^21)(h: ∀cap,l.length<=cap->K (dO 1 nx l.length cap) (H.set nx ⟨1,cap,l.map aG⟩) (nx+1)):an3 jS [dS (l.map aG)] H nx K:=by
 refine(MG l hl).YD (l0:=[]) [] rfl ⟨aD rfl,trivial⟩ trivial (by simp) (by simp) (by simp) fun r H' f _ ⟨cap,a,b,c,d⟩=> ?_;have h:=h cap a;subst b;subst c;subst d;have e:back (tau 0 nx (nth [])) (hp [(0,⟨1,cap,l.map aG⟩)]) 1 H=H.set nx ⟨1,cap,l.map aG⟩:=by simp only[back,hp,aA.set,tau,alA,if_true,if_false,Nat.sub_zero,Nat.add_zero,Option.map_some,P9,aA.mF]
 rw[<-e] at h;exact h
theorem N2(l:List Int)(cap m:Nat)(hl:l.length<2^21)(hc:l.length<=cap):an3 kE [dO 1 0 l.length cap] (hp [(0,⟨1,m,l.map aG⟩)]) 1
 fun r H' a=>a=1/\ ∃o',H'=hp [(0,o')]/\DZ o'/\o'=⟨1,m,l.map aG⟩/\r=dO 1 0 l.length l.length:=by
 refine aM.mk Tryz.func261 (by kernel_rfl) MM rfl fun Q b=> ?_
 unfold jX
 repeat' first|apply vI<;>(simp only[go_sem])|refine⟨by omega,?_⟩|fail
 exact Q6 b (dO 1 0 l.length l.length) _ _ rfl (by repeat' first|exact C1| ((with_reducible apply C0);exact CQ (by omega) rfl rfl (by rfl) rfl)| ((with_reducible apply D0);apply CJ)|fail) rfl (eS bG _) ⟨rfl,rfl⟩
theorem ON{cap m i:Nat}(hl:l.length<2^21)(hc:l.length<=cap)(hi:i<nx)(a:H i=some ⟨1,m,l.map aG⟩)(h:K (dO 1 i l.length l.length) (H.set i ⟨1,m,l.map aG⟩) nx):
 an3 kE [dO 1 i l.length cap] H nx K:=
 (N2 l cap m hl hc).Iq i rfl (lY ⟨I2 (by omega) rfl rfl rfl rfl,trivial⟩) hi a (eS bG _) fun r o' ⟨b,c⟩=>by subst b;subst c;exact h
theorem gj(l:List Int)(hl:l.length<2^21):an3 gO [dS (l.map aG)] (hp []) 0
 fun r H' b=>∃cap,l.length<=cap/\b=1/\H'=hp [(0,⟨1,cap,l.map aG⟩)]/\r=dO 1 0 l.length l.length:=by
 refine aM.mk Tryz.func185 (by kernel_rfl) cv rfl fun Q c=> ?_
 unfold qQ
 repeat' first| (first|apply vI|refine MH hl (fun cap a=> ?_)|refine ON hl a (by omega) rfl ?_)<;>(simp only[go_sem])|fail
 (refine c _ _ _ _ _ 1 (dO 1 0 l.length l.length) (hp [(0,⟨1,cap,l.map aG⟩)]) _ _ (.inr rfl) rfl (oE [5] (by omega) (by repeat' first|exact C1| ((with_reducible apply C0);exact CQ (by omega) rfl rfl (by rfl) rfl)| ((with_reducible apply D0);apply CJ)|fail) ⟨⟨by simp,by simp[sgL],_,rfl,dX (aW bG _) rfl rfl⟩,trivial⟩ (by simp[sgL])) ?_)
 exact⟨cap,a,rfl,rfl,rfl⟩
theorem nY(hl:l.length<2^21)(h: ∀m,l.length<=m->K (dO 1 nx l.length l.length) (H.set nx ⟨1,m,l.map aG⟩) (nx+1)):an3 gO [dS (l.map aG)] H nx K:=by
 refine(gj l hl).YD (l0:=[]) [] rfl ⟨aD rfl,trivial⟩ trivial (by simp) (by simp) (by simp) fun r H' f _ ⟨cap,a,b,c,d⟩=> ?_;have h:=h cap a;subst b;subst c;subst d;have e:back (tau 0 nx (nth [])) (hp [(0,⟨1,cap,l.map aG⟩)]) 1 H=H.set nx ⟨1,cap,l.map aG⟩:=by simp only[back,hp,aA.set,tau,alA,if_true,if_false,Nat.sub_zero,Nat.add_zero,Option.map_some,P9,aA.mF]
 rw[<-e] at h;exact h
theorem QA{τ:Nat->Nat}{n m:Nat}{l:List Job}:bQ.rn τ ⟨n,m,l.map aP⟩=⟨n,m,l.map aP⟩:=by refine CS fun r hr x a=> ?_;obtain⟨y,_,rfl⟩:=akJ.1 hr;exact akR.1 (dE y).2 x a
theorem D8(l:List Job)(hl:l.length<2^21):an3 fT [dS (l.map aP)] (hp []) 0
 fun r H' e=>∃cap,l.length<=cap/\e=1/\H'=hp [(0,⟨5,cap,l.map aP⟩)]/\r=dO 5 0 l.length cap:=by
 refine aM.mk Tryz.func318 (by kernel_rfl) BR rfl fun Q c=> ?_
 unfold fM
 refine aH.seq (aH.kd 5 ?_)
 repeat' first|apply vI<;>(simp only[go_sem])|refine Z7 (fun h=> ?_) fun h=> ?_| (with_reducible first|refine fun(cap:Nat) (d:_<=cap)=> ?_|refine fun(f:_<=cap)=> ?_|refine fun(b:Bool)=> ?_)| ((refine L0 (fun h=> ?_) (fun h=> ?_))<;>try subst h)|refine⟨by omega,?_⟩|fail
 all_goals first
  | (have a:=akA cap
     (refine c _ _ _ _ _ 1 (dO 5 0 l.length cap) (hp [(0,⟨5,cap,l.map aP⟩)]) _ _ (.inr rfl) rfl (oE [6] (by omega) (by repeat' first|exact C1| ((with_reducible apply C0);exact CQ (by omega) rfl rfl (by rfl) rfl)| ((with_reducible apply D0);apply CJ)|fail) ⟨⟨by simp,by simp[sgL],_,rfl,dX (aW dE _) rfl rfl⟩,trivial⟩ (by simp[sgL])) ?_)
     exact⟨cap,by omega,rfl,rfl,rfl⟩)
  | (have g:l=[]:=ak9 (by omega)
     subst g
     (refine c _ _ _ _ _ 1 (dO 5 0 0 0) (hp [(0,⟨5,0,([]:List Job).map aP⟩)]) _ _ (.inr rfl) rfl (oE [0] (by omega) (by repeat' first|exact C1| ((with_reducible apply C0);exact CC)| ((with_reducible apply D0);apply CJ)|fail) ⟨⟨by simp,by simp[sgL],_,rfl,dX (aW dE _) rfl rfl⟩,trivial⟩ (by simp[sgL])) ?_)
     exact⟨0,akA _,rfl,rfl,rfl⟩)
theorem DX{l:List Job}(hl:l.length<2^21)(h: ∀cap,l.length<=cap->K (dO 5 nx l.length cap) (H.set nx ⟨5,cap,l.map aP⟩) (nx+1)):an3 fT [dS (l.map aP)] H nx K:=by
 refine(D8 l hl).YD (l0:=[]) [] rfl ⟨aD rfl,trivial⟩ trivial (by simp) (by simp) (by simp) fun r H' f _ ⟨cap,a,b,c,d⟩=> ?_;have h:=h cap a;subst b;subst c;subst d;have e:back (tau 0 nx (nth [])) (hp [(0,⟨5,cap,l.map aP⟩)]) 1 H=H.set nx ⟨5,cap,l.map aP⟩:=by simp only[back,hp,aA.set,tau,alA,if_true,if_false,Nat.sub_zero,Nat.add_zero,Option.map_some,QA,aA.mF]
 rw[<-e] at h;exact h
theorem E9(l:List Job)(cap m:Nat)(hl:l.length<2^21)(hc:l.length<=cap):an3 gG [dO 5 0 l.length cap] (hp [(0,⟨5,m,l.map aP⟩)]) 1
 fun r H' a=>a=1/\ ∃o',H'=hp [(0,o')]/\DZ o'/\o'=⟨5,m,l.map aP⟩/\r=dO 5 0 l.length l.length:=by
 refine aM.mk Tryz.func317 (by kernel_rfl) DQ rfl fun Q b=> ?_
 unfold fU
 repeat' first|apply vI<;>(simp only[go_sem])|refine⟨by omega,?_⟩|fail
 exact Q6 b (dO 5 0 l.length l.length) _ _ rfl (by repeat' first|exact C1| ((with_reducible apply C0);exact CQ (by omega) rfl rfl (by rfl) rfl)| ((with_reducible apply D0);apply CJ)|fail) rfl (eS dE _) ⟨rfl,rfl⟩
theorem EF{l:List Job}{cap m i:Nat}(hl:l.length<2^21)(hc:l.length<=cap)(hi:i<nx)(a:H i=some ⟨5,m,l.map aP⟩)(h:K (dO 5 i l.length l.length) (H.set i ⟨5,m,l.map aP⟩) nx):
 an3 gG [dO 5 i l.length cap] H nx K:=
 (E9 l cap m hl hc).Iq i rfl (lY ⟨I2 (by omega) rfl rfl rfl rfl,trivial⟩) hi a (eS dE _) fun r o' ⟨b,c⟩=>by subst b;subst c;exact h
theorem KF(l:List Job)(hl:l.length<2^21):an3 i9 [dS (l.map aP)] (hp []) 0
 fun r H' b=>∃cap,l.length<=cap/\b=1/\H'=hp [(0,⟨5,cap,l.map aP⟩)]/\r=dO 5 0 l.length l.length:=by
 refine aM.mk Tryz.func260 (by kernel_rfl) JJ rfl fun Q c=> ?_
 unfold iJ
 repeat' first| (first|apply vI|refine DX hl (fun cap a=> ?_)|refine EF hl a (by omega) rfl ?_)<;>(simp only[go_sem])|fail
 (refine c _ _ _ _ _ 1 (dO 5 0 l.length l.length) (hp [(0,⟨5,cap,l.map aP⟩)]) _ _ (.inr rfl) rfl (oE [5] (by omega) (by repeat' first|exact C1| ((with_reducible apply C0);exact CQ (by omega) rfl rfl (by rfl) rfl)| ((with_reducible apply D0);apply CJ)|fail) ⟨⟨by simp,by simp[sgL],_,rfl,dX (aW dE _) rfl rfl⟩,trivial⟩ (by simp[sgL])) ?_)
 exact⟨cap,a,rfl,rfl,rfl⟩
theorem LC{l:List Job}(hl:l.length<2^21)(h: ∀m,l.length<=m->K (dO 5 nx l.length l.length) (H.set nx ⟨5,m,l.map aP⟩) (nx+1)):an3 i9 [dS (l.map aP)] H nx K:=by
 refine(KF l hl).YD (l0:=[]) [] rfl ⟨aD rfl,trivial⟩ trivial (by simp) (by simp) (by simp) fun r H' f _ ⟨cap,a,b,c,d⟩=> ?_;have h:=h cap a;subst b;subst c;subst d;have e:back (tau 0 nx (nth [])) (hp [(0,⟨5,cap,l.map aP⟩)]) 1 H=H.set nx ⟨5,cap,l.map aP⟩:=by simp only[back,hp,aA.set,tau,alA,if_true,if_false,Nat.sub_zero,Nat.add_zero,Option.map_some,QA,aA.mF]
 rw[<-e] at h;exact h
theorem nu(l:List Job)(hl:l.length<2^21)(f: ∀j∈l,j.rsp.data.length<2^21):an3 iG [dS (l.map aP)] (hp []) 0
 fun r H' g=>∃cap,l.length<=cap/\g=1/\H'=hp [(0,⟨5,cap,l.map aP⟩)]/\r=dO 5 0 l.length l.length:=by
 refine aM.mk Tryz.func184 (by kernel_rfl) fe rfl fun Q h=> ?_
 unfold s9
 repeat' first| (first|apply vI|refine LC hl (fun m0 c=> ?_))<;>(simp only[go_sem])|fail
 refine aH.SJ 1 (β:=Nat) (fun b k=>en [(10,dI k),(9,dI l.length),(8,dO 5 b l.length l.length),(3,dO 5 b l.length l.length)])
  (fun b k=>hp [(b,⟨5,m0,l.map aP⟩)]) (fun k=>k<=l.length) (fun k=>l.length-k) 0 (by(refine mZ [4] (by omega) (by repeat' first|exact C1|refine xqI rfl rfl ?_|refine xqO (by omega) rfl rfl (by rfl) ?_|fail) ⟨⟨by simp,by simp[sgL],_,rfl,dX (aW dE _) rfl rfl⟩,trivial⟩ (by simp[sgL]))) (by omega) ?_
 rintro k i n d
 by_cases a:k<l.length
 ·have e:=f _ (bL a);repeat' first| (first|apply vI|refine nY e (fun m hm=> ?_))<;>(simp only[go_sem];try simp (disch:=omega) only[Iw])|apply vT (by omega)|refine⟨by omega,?_⟩|fail
  exact d _ _ _ (k+1) (by omega) (by(refine mZ [8] (by omega) (by repeat' first|exact C1|refine xqI rfl rfl ?_|refine xqO (by omega) rfl rfl (by rfl) ?_|fail) ⟨⟨by simp,by simp[sgL],_,rfl,aa8 (R:=l.map aP) (r':=aP (l.getD k default)) rfl rfl (ajS a) (fun r hr=>(aW dE l r hr).2) rfl (aQ (bZ rfl) (aQ (bZ rfl) (aQ (bZ rfl) (aQ (bZ rfl) (aQ (iN bG rfl rfl (akA _) (by simp)) iA)))))⟩,trivial⟩ (by simp[sgL]))) (by omega) (by omega)
 ·repeat' first|apply vI<;>(simp only[go_sem])|apply vF (by omega)|fail
  (refine h _ _ _ _ _ 1 (dO 5 0 l.length l.length) (hp [(0,⟨5,m0,l.map aP⟩)]) _ _ (.inr rfl) rfl (oE [8] (by omega) (by repeat' first|exact C1| ((with_reducible apply C0);exact CQ (by omega) rfl rfl (by rfl) rfl)| ((with_reducible apply D0);apply CJ)|fail) ⟨⟨by simp,by simp[sgL],_,rfl,dX (aW dE _) rfl rfl⟩,trivial⟩ (by simp[sgL])) ?_);exact⟨m0,c,rfl,rfl,rfl⟩
theorem pI{l:List Job}(hl:l.length<2^21)(a: ∀j∈l,j.rsp.data.length<2^21)(h: ∀m,l.length<=m->K (dO 5 nx l.length l.length) (H.set nx ⟨5,m,l.map aP⟩) (nx+1)):an3 iG [dS (l.map aP)] H nx K:=by
 refine(nu l hl a).YD (l0:=[]) [] rfl ⟨aD rfl,trivial⟩ trivial (by simp) (by simp) (by simp) fun r H' g _ ⟨cap,b,c,d,e⟩=> ?_;have h:=h cap b;subst c;subst d;subst e;have f:back (tau 0 nx (nth [])) (hp [(0,⟨5,cap,l.map aP⟩)]) 1 H=H.set nx ⟨5,cap,l.map aP⟩:=by simp only[back,hp,aA.set,tau,alA,if_true,if_false,Nat.sub_zero,Nat.add_zero,Option.map_some,QA,aA.mF]
 rw[<-f] at h;exact h
theorem N5(w u:List Int)(hw:w.length<2^21)(hu:u.length<2^21):an3 hZ [dA [.isl (w.map aG),.isl (u.map aG)]] (hp []) 0
 fun r H' c=>∃m0 m1,w.length<=m0/\u.length<=m1/\c=2/\H'=hp [(0,⟨1,m0,w.map aG⟩),(1,⟨1,m1,u.map aG⟩)]/\r=dA [.osl 1 0 0 w.length w.length,.osl 1 1 0 u.length u.length]:=by
 refine aM.mk Tryz.func181 (by kernel_rfl) NH rfl fun Q d=> ?_
 unfold jP
 repeat' first| (first|apply vI|refine nY hw (fun m0 a=> ?_)|refine nY hu (fun m1 b=> ?_))<;>(simp only[go_sem])|fail
 (refine d _ _ _ _ _ 2 (dA [.osl 1 0 0 w.length w.length,.osl 1 1 0 u.length u.length]) (hp [(0,⟨1,m0,w.map aG⟩),(1,⟨1,m1,u.map aG⟩)]) _ _ (.inr rfl) rfl (oE [12,13] (by omega) (by repeat' first|exact C1| ((with_reducible apply C0);exact CQ (by omega) rfl rfl (by rfl) rfl)| ((with_reducible apply D0);apply C9)|exact C3|apply C4|fail) ⟨⟨by simp,by simp[sgL],_,rfl,dX (aW bG _) rfl rfl⟩,⟨by simp,by simp[sgL],_,rfl,dX (aW bG _) rfl rfl⟩,trivial⟩ (by simp[sgL])) ?_)
 exact⟨m0,m1,a,b,rfl,rfl,rfl⟩
theorem zU{w u:List Int}(hw:w.length<2^21)(hu:u.length<2^21)(h: ∀m0 m1,w.length<=m0->u.length<=m1->K (dA [.osl 1 nx 0 w.length w.length,.osl 1 (nx+1) 0 u.length u.length]) ((H.set nx ⟨1,m0,w.map aG⟩).set (nx+1) ⟨1,m1,u.map aG⟩) (nx+2)):an3 hZ [dA [.isl (w.map aG),.isl (u.map aG)]] H nx K:=by
 refine(N5 w u hw hu).YD (l0:=[]) [] rfl ⟨aD rfl,trivial⟩ trivial (by simp) (by simp) (by simp) fun r H' g _ ⟨m0,m1,b,a,c,d,e⟩=> ?_;have h:=h m0 m1 b a;subst c;subst d;subst e;have f:back (tau 0 nx (nth [])) (hp [(0,⟨1,m0,w.map aG⟩),(1,⟨1,m1,u.map aG⟩)]) 2 H=(H.set nx ⟨1,m0,w.map aG⟩).set (nx+1) ⟨1,m1,u.map aG⟩:=by simp[back,hp,aA.set,aA.nil,tau,nth,P9,QA,aA.mF,aA.dp]
 rw[<-f] at h;exact h
def oIm(i0 i1 a b c d c0 c1 c2 e f g:Nat)(s:TSt):List D1:=[.osl 1 i0 0 s.words.length c0,.osl 1 i1 0 s.holds.length c1,.osl 1 a 0 s.asked.length c2,.osl 5 b 0 s.wait.length e,.osl 5 c 0 s.done.length f,.osl 5 d 0 s.told.length g]
theorem NL{x:Int}(hl:l.length<2^40){c:D}(a:CvD H (fun _=>True) id 0 (dS (l.map aG)) c)(h:K (dI (bR (fun y=>decide (x=y)) l)) H nx):an3 nR [c,dI x] H nx K:=by
 refine aC.pure (args0:=[dS (l.map aG),dI x]) (R:=fun e=>e=dI (bR (fun y=>decide (x=y)) l)) ?_ rfl (aE ⟨a,aD rfl,trivial⟩) (fun r hr=>hr▸h);clear h;refine aM.mk Tryz.func333 (by kernel_rfl) K3 rfl fun Q d=> ?_;unfold i7;repeat' first|apply vI<;>(simp only[go_sem])|fail
 (refine aH.loop (α:={k:Nat//k<=l.length/\(∀i,i<k->(fun y=>decide (x=y)) (l.getD i default)=false)}) (fun u=>en [(8,dI u.1),(7,dI l.length),(1,dI x),(0,dS (l.map aG))]) (fun _=>.nil) _ (fun u=>l.length-u.1) ⟨0,by omega,(by intros;first|trivial|omega)⟩ (aS (akA _) (by repeat' first|exact C1|refine xqI rfl rfl ?_|fail)) ?_);(rintro⟨k,g,hinv⟩ j b);by_cases f:k<l.length
 ·repeat' first|apply vI<;>(simp only[go_sem];try simp (disch:=omega) only[Iw])|apply vT (by omega)|refine iB (fun h=> ?_) fun h=> ?_|refine⟨by omega,?_⟩|fail
  ·refine aJ d _ rfl rfl (jC (ak3 (F8 (by omega) (decide_eq_true (by assumption)) hinv)))
  · (refine b _ _ _ ⟨k+1,by omega,bT hinv (decide_eq_false (by assumption))⟩ (by omega) (by(try dsimp only);omega) (aS (akA _) (by repeat' first|exact C1|refine xqI rfl rfl ?_|fail)))
 ·repeat' first|apply vI<;>(simp only[go_sem])|apply vF (by omega)|fail
  refine aJ d (dI _) rfl rfl (jC (ak3 (s8 fun i hi=>hinv i (by omega))))
theorem HX{x:Int}(hl:l.length<2^40){b:D}(a:CvD H (fun _=>True) id 0 (dS (l.map aG)) b)(h:K (dB (decide (x∈l))) H nx):an3 kY [b,dI x] H nx K:=by
 refine aC.pure (args0:=[dS (l.map aG),dI x]) (R:=fun c=>c=dB (decide (x∈l))) ?_ rfl (aE ⟨a,aD rfl,trivial⟩) (fun r hr=>hr▸h);clear h;refine aM.mk Tryz.func302 (by kernel_rfl) GC rfl fun Q d=> ?_;unfold gS;repeat' first| (first|apply vI|refine NL hl (aD rfl) ?_)<;>(simp only[go_sem])|fail
 all_goals first|with_reducible refine aJ d _ rfl rfl ?_|skip
 all_goals refine rL (eA.trans ⟨fun⟨y,e,he⟩=> ?_,fun h=>⟨x,h,by simp⟩⟩)
 all_goals have:=of_decide_eq_true he;subst this;exact e
theorem Ed{f:Nat->Int}{n k:Nat}{x:Int}(c:k<n)(a:x=f k):((List.range k).map f++List.replicate (n-k) (0:Int)).set k x=(List.range (k+1)).map f++List.replicate (n-(k+1)) 0:=by
 have e:n-k=(n-(k+1))+1:=by omega
 have b:((List.range k).map f).length=k:=by simp
 rw[anI,b,if_neg (anC k),al9,e,List.replicate_succ,List.set_cons_zero,amZ,akQ,akO,a];rfl
theorem pd{addr:Int}{many:Int}{wrap:Bool}(h:K (dS ((bN addr many wrap).map aG)) H nx):an3 EO [dI addr,dI many,dB wrap] H nx K:=by
 refine aC.fresh (R:=fun j=>j=dS ((bN addr many wrap).map aG)) ?_ rfl (fun r hr=>hr▸h);clear h;refine aM.mk Tryz.func332 (by kernel_rfl) ee rfl fun Q g=> ?_;unfold rX;by_cases a:t9 addr many wrap
 ·obtain⟨m,n,q,s,t,i,u,v⟩:=lv a;repeat' first| (first|apply vI|apply OB)<;>(simp only[go_sem,i,eq_true a])|refine⟨by omega,?_⟩|fail
  refine aH.SJ 1 (β:=Nat) (fun b k=>en [(18,dI k),(17,dI many),(7,dO 1 b many.toNat many.toNat),(2,dB wrap),(1,dI many),(0,dI addr)])
   (fun b k=>hp [(b,⟨1,many.toNat,((List.range k).map (bAt addr many wrap)++List.replicate (many.toNat-k) (0:Int)).map aG⟩)]) (fun k=>k<=many.toNat) (fun k=>many.toNat-k) 0 ?_ (by omega) ?_
  · (refine mZ [7] (by omega) (by repeat' first|exact C1|refine xqI rfl rfl ?_|refine xqO (by omega) rfl rfl (by rfl) ?_|refine xqV rfl (by omega) ?_|fail) ⟨⟨by simp,by simp[sgL],_,rfl,dX (aW bG _) (by simp[aG]) rfl⟩,trivial⟩ (by simp[sgL]))
  intro k w x d;have hlen:((List.range k).map (bAt addr many wrap)++List.replicate (many.toNat-k) (0:Int)).length=many.toNat:=by simp;omega
  by_cases c:k<many.toNat
  ·obtain⟨y,z,A⟩:=Dm a k c;have e:(addr+k).tmod many=(addr+k)%many:=alQ (by omega);have o:=Int.emod_lt_of_pos (addr+k) n;have p:=Int.emod_nonneg (addr+k) m;repeat' first|apply vI<;>(simp only[go_sem,i,e,ak4,hlen];try simp (disch:=omega) only[Iw])|apply vT (by omega)| ((refine L0 (fun h=> ?_) (fun h=> ?_))<;>try subst h)|refine⟨by omega,?_⟩|fail
   ·exact d _ _ _ (k+1) (by omega) (by(refine mZ [12] (by omega) (by repeat' first|exact C1|refine xqI rfl rfl ?_|refine xqO (by omega) rfl rfl (by rfl) ?_|fail) ⟨⟨by simp,by simp[sgL],_,rfl,dX (aW bG _) (congrArg _ (Ed c (by simp only[bAt,if_true])).symm) rfl⟩,trivial⟩ (by simp[sgL]))) (by omega) (by omega)
   ·exact d _ _ _ (k+1) (by omega) (by(refine mZ [12] (by omega) (by repeat' first|exact C1|refine xqI rfl rfl ?_|refine xqO (by omega) rfl rfl (by rfl) ?_|fail) ⟨⟨by simp,by simp[sgL],_,rfl,dX (aW bG _) (congrArg _ (Ed c (by simp[bAt])).symm) rfl⟩,trivial⟩ (by simp[sgL]))) (by omega) (by omega)
  ·repeat' first|apply vI<;>(simp only[go_sem])|apply vF (by omega)|fail
   have f:k=many.toNat:=(by omega);subst f;exact JX g (dS ((bN addr many wrap).map aG)) _ rfl (SW (l:=bN addr many wrap) bG (by simp[bN,a];rfl) (BJ a).symm (by rw[BJ a];omega) trivial) rfl rfl
 ·repeat' first| (first|apply vI|apply OB)<;>(simp only[go_sem,eq_false a])|fail
  exact JX g (dS []) _ rfl L7 rfl (by simp[bN,a])
theorem FK{q:Req}(h:K (dS ((bN q.addr q.many q.wrap).map aG)) H nx):an3 kB [dA (dK q)] H nx K:=by
 refine aC.fresh (R:=fun a=>a=dS ((bN q.addr q.many q.wrap).map aG)) ?_ rfl (fun r hr=>hr▸h);clear h;refine aM.mk Tryz.func300 (by kernel_rfl) QB rfl fun Q b=> ?_;unfold mK;repeat' first| (first|apply vI|apply pd)<;>(simp only[go_sem])|fail
 all_goals exact JX b (dS _) _ rfl (aD rfl) rfl rfl
theorem au{l:List Rng}{q:Req}(hl:l.length<2^40)(h:K (dI (eD l (bN q.addr q.many q.wrap))) H nx):an3 y9 [dS (l.map c7),dA (dK q)] H nx K:=by
 refine aC.pure (args0:=[dS (l.map c7),dA (dK q)]) (R:=fun g=>g=dI (eD l (bN q.addr q.many q.wrap))) ?_ rfl (aE ⟨aD rfl,aD rfl,trivial⟩) (fun r hr=>hr▸h);clear h;refine aM.mk Tryz.func253 (by kernel_rfl) Bf rfl fun Q c=> ?_;unfold DG;have j:=G4 (addr:=q.addr) (many:=q.many) (wrap:=q.wrap);repeat' first| (first|apply vI|apply FK)<;>(simp only[go_sem])|fail
 generalize bN q.addr q.many q.wrap=all at*;(refine aH.loop (α:={k:Nat//k<=all.length/\(∀i,i<k->¬bR (inR · (all.getD i default)) l<0/\bR (inR · (all.getD i default)) l=bR (inR · (all.getD 0 default)) l)}) (fun u=>en [(12,dI u.1),(11,dI all.length),(10,dS (all.map aG)),(5,dI (if u.1=0 then-1 else bR (inR · (all.getD 0 default)) l)),(0,dS (l.map c7))]) (fun _=>.nil) _ (fun u=>all.length-u.1) ⟨0,by omega,(by intros;first|trivial|omega)⟩ (aS (akA _) (by repeat' first|exact C1|refine xqI rfl rfl ?_|fail)) ?_);(rintro⟨k,m,hinv⟩ n d);by_cases b:k<all.length
 ·repeat' first| (first|apply vI|refine Y6 (fun h=> ?_) fun h=> ?_|apply yp hl)<;>(simp only[go_sem];try simp (disch:=omega) only[Iw])|apply vT (by omega)|refine iB (fun h=> ?_) fun h=> ?_|refine⟨by omega,?_⟩|fail
  ·refine aJ c (dI _) rfl rfl (jC ?_);rcases alV k with a|a
   ·subst a;have o:=ab9 (p:=(inR · (all.getD 0 default))) (l:=l);by_cases f: ∀i,i<all.length->1<=i->bR (inR · (all.getD i default)) l=bR (inR · (all.getD 0 default)) l;·rw[YN (by omega) f];omega
    ·have: ∃i,i<all.length/\ ¬bR (inR · (all.getD i default)) l=bR (inR · (all.getD 0 default)) l:=Classical.byContradiction fun hc=>f fun i hi _=>Classical.byContradiction fun e=>hc ⟨i,hi,e⟩;obtain⟨i,hi,e⟩:=this;rw[TC hi e]
   ·have:=(hinv 0 a).1;exact(TC b (by omega)).symm
  ·refine aJ c (dI _) rfl rfl (jC (TC b (fun he=> ?_)).symm);grind
  all_goals
   have heq:bR (inR · (all.getD k default)) l=bR (inR · (all.getD 0 default)) l:=by grind
   refine d _ _ _ ⟨k+1,by omega,bT hinv ⟨by omega,heq⟩⟩ (by omega) (by dsimp only;omega) (aS (akA _) ?_)
   dsimp only
   rw[if_neg (Nat.succ_ne_zero k),<-heq]
   repeat' first|exact C1|refine xqI rfl rfl ?_|fail
 ·repeat' first|apply vI<;>(simp only[go_sem])|apply vF (by omega)|fail
  refine aJ c (dI _) rfl rfl (jC ?_);by_cases a:k=0;·rw[if_pos a,sq (by omega)]
  ·rw[if_neg a,YN (by omega) (fun i hi _=>(hinv i (by omega)).2)]
theorem Od{old:Int}{new:Int}{lanes:Int}(a:0<=old/\old<=65535)(b:0<=new/\new<=65535)(e:0<=lanes/\lanes<=3)(h:K (dI (zW old new lanes)) H nx):an3 WO [dI old,dI new,dI lanes] H nx K:=by
 refine aC.pure (args0:=[dI old,dI new,dI lanes]) (R:=fun d=>d=dI (zW old new lanes)) ?_ rfl (aE ⟨aD rfl,aD rfl,aD rfl,trivial⟩) (fun r hr=>hr▸h);clear h;refine aM.mk Tryz.func301 (by kernel_rfl) Hi rfl fun Q c=> ?_;unfold JR;have hc:lanes=0\/lanes=1\/lanes=2\/lanes=3:=by omega
 rcases hc with rfl|rfl|rfl|rfl;all_goals repeat' first|apply vI<;>(simp only[go_sem])|fail
 ·exact aJ c (dI (Kz old new (Hj 0))) rfl rfl (jC (by rw[ahA];exact rb a b (by omega)))
 ·exact aJ c (dI (Kz old new (Hj 1))) rfl rfl (jC (by rw[ahB];exact rb a b (by omega)))
 ·exact aJ c (dI (Kz old new (Hj 2))) rfl rfl (jC (by rw[agH];exact rb a b (by omega)))
 ·exact aJ c (dI (Kz old new (Hj 3))) rfl rfl (jC (by rw[af1];exact rb a b (by omega)))
theorem ahE{w all:List Int}:(List.range all.length).map (fun k=>w.getD (all.getD k default).toNat default)=all.map fun a=>w.getD a.toNat default:=by
 apply anK;·simp
 ·intro i c b;simp only[akU] at b;simp[List.getD,b]
theorem adV{i0 i1 a b c d c0 c1 c2 e f g:Nat}{s:TSt}:(oIm i0 i1 a b c d c0 c1 c2 e f g s).length=6:=rfl
theorem Zs{i0 i1 a b c d c0 c1 c2 e f g:Nat}{s:TSt}:(oIm i0 i1 a b c d c0 c1 c2 e f g s).take 6=oIm i0 i1 a b c d c0 c1 c2 e f g s:=rfl
theorem Yk{i0 i1 a b c d c0 c1 c2 e f g:Nat}{s:TSt}:(oIm i0 i1 a b c d c0 c1 c2 e f g s).drop 6=[]:=rfl
theorem aaV{i0 i1 a b c d c0 c1 c2 e f g k:Nat}{s:TSt}{cs:List D1}:kK cs (k+1) (oIm i0 i1 a b c d c0 c1 c2 e f g s)=kK cs (k+1) [.osl 1 i0 0 s.words.length c0,.osl 1 i1 0 s.holds.length c1,.osl 1 a 0 s.asked.length c2,.osl 5 b 0 s.wait.length e,.osl 5 c 0 s.done.length f,.osl 5 d 0 s.told.length g]:=rfl
attribute [go_sem] adV Zs Yk aaV
end
attribute [go_sem] Ul Sr
section
variable{H:aA}{nx:Nat}{K:an4}
theorem pK{a:Job}{b:Job}(h:K (dB (fP a b)) H nx):an3 vN [dA (aP a),dA (aP b)] H nx K:=by
 refine aC.pure (args0:=[dA (aP a),dA (aP b)]) (R:=fun c=>c=dB (fP a b)) ?_ rfl (aE ⟨aD rfl,aD rfl,trivial⟩) (fun r hr=>hr▸h);clear h;refine aM.mk Tryz.func292 (by kernel_rfl) fw rfl fun Q d=> ?_;unfold tH;repeat' first| (first|apply vI|refine Y6 (fun h=> ?_) fun h=> ?_)<;>(simp only[go_sem])|fail
 all_goals first|with_reducible refine aJ d _ rfl rfl ?_|skip
 all_goals first|exact uE (by grind)|exact j9 (by grind)|exact rL (by grind)
theorem l7{l:List Job}{who:Int}{n:Int}(hl:l.length<2^40)(h:K (dI (bR (iI who n) l)) H nx):an3 xD [dS (l.map aP),dI who,dI n] H nx K:=by
 refine aC.pure (args0:=[dS (l.map aP),dI who,dI n]) (R:=fun c=>c=dI (bR (iI who n) l)) ?_ rfl (aE ⟨aD rfl,aD rfl,aD rfl,trivial⟩) (fun r hr=>hr▸h);clear h;refine aM.mk Tryz.func216 (by kernel_rfl) Fw rfl fun Q b=> ?_;unfold GG;repeat' first|apply vI<;>(simp only[go_sem])|fail
 (refine aH.loop (α:={k:Nat//k<=l.length/\(∀i,i<k->iI who n (l.getD i default)=false)}) (fun u=>en [(7,dI u.1),(2,dI n),(1,dI who),(0,dS (l.map aP))]) (fun _=>.nil) _ (fun u=>l.length-u.1) ⟨0,by omega,(by intros;first|trivial|omega)⟩ (aS (akA _) (by repeat' first|exact C1|refine xqI rfl rfl ?_|fail)) ?_);(rintro⟨k,d,hinv⟩ e a);repeat' first| (first|apply vI|refine Y6 (fun h=> ?_) fun h=> ?_)<;>(simp only[go_sem];try simp (disch:=omega) only[Iw])|refine iB (fun h=> ?_) fun h=> ?_|refine⟨by omega,?_⟩|fail
 ·refine aJ b _ rfl rfl (jC (ak3 (F8 (by omega) (decide_eq_true (by omega)) hinv)))
 · (refine a _ _ _ ⟨k+1,by omega,bT hinv (decide_eq_false (by omega))⟩ (by omega) (by(try dsimp only);omega) (aS (akA _) (by repeat' first|exact C1|refine xqI rfl rfl ?_|fail)))
 · (refine a _ _ _ ⟨k+1,by omega,bT hinv (decide_eq_false (by omega))⟩ (by omega) (by(try dsimp only);omega) (aS (akA _) (by repeat' first|exact C1|refine xqI rfl rfl ?_|fail)))
 ·refine aJ b _ rfl rfl (jC (ak3 (s8 fun i hi=>hinv i (by omega))))
theorem cm(l:List Job)(j:Job)(hl:l.length<2^21):an3 pG [dS (l.map aP),dA (aP j)] .nil 0 fun r _ v=>v=0/\r.imm=true/\r=dS ((wP l j).map aP):=by
 refine aM.mk Tryz.func217 (by kernel_rfl) zy rfl fun Q s=> ?_;unfold C8;generalize n:l.findIdx (fP j)=f;repeat' first|apply vI<;>(simp only[go_sem])|fail
 refine aH.aaX 1 (α:={p:Nat×Nat//p.1<=l.length/\(KU l j f p.1).length<=p.2}) (fun b u=>en [(7,dI u.1.1),(6,dB (decide (f<u.1.1))),(5,dO 5 b (KU l j f u.1.1).length u.1.2),(3,.one (.c (.eT (aP j)))),(0,dS (l.map aP))])
  (fun b u=>hp [(b,⟨5,u.1.2,(KU l j f u.1.1).map aP⟩)]) (fun u=>l.length-u.1.1) ⟨(0,0),by omega,by simp[KU]⟩ (by(refine mZ [2] (by omega) (by repeat' first|exact C1|refine xqI rfl rfl ?_|refine xqO (by omega) rfl rfl (by rfl) ?_| (with_reducible apply C2)| ((with_reducible apply D0);exact CI rfl (by simp) rfl rfl rfl)|fail) ⟨⟨by simp,by simp[sgL],_,rfl,dX (aW dE _) rfl rfl⟩,trivial⟩ (by simp[sgL]))) ?_
 rintro⟨⟨k,cap⟩,t,hc⟩ x d;dsimp only at t hc;have hlen:=Wk (j:=j) (f:=f) t;by_cases a:k<l.length
 ·have m:=fun e:k<=f=>ad4 (j:=j) a (n▸e);rw[n] at m;repeat' first| (first|apply vI|refine Y6 (fun h=> ?_) fun h=> ?_|apply pK)<;>(simp only[go_sem];try simp (disch:=omega) only[Iw])|apply vT (by omega)| (with_reducible first|refine fun(cap:Nat) (g:_<=cap)=> ?_|refine fun(o:_<=cap)=> ?_)| ((refine L0 (fun h=> ?_) (fun h=> ?_))<;>try subst h)|refine⟨by omega,?_⟩|fail
  ·have H:=ab2 (j:=j) a (show k=f from (m (by omega)).1 (by assumption));have i:=congrArg List.length H;simp only[akG,List.length_cons,List.length_nil] at i;have e:=(m (by omega)).1 (by assumption);(refine d _ _ _ ⟨(k+1,cap),by omega,by dsimp only;omega⟩ (by omega) (by(try dsimp only);omega) (by(refine mZ [33] (by omega) (by repeat' first|exact C1|refine xqI rfl rfl ?_|refine xqO (by omega) rfl rfl (by first|rfl|omega) ?_| (with_reducible apply C2)| ((with_reducible apply C0);(exact CG (by((try dsimp only);exact dbT (by omega))) rfl))| ((with_reducible apply D0);apply CJ)|fail) ⟨⟨by simp,by simp[sgL],_,rfl,dX (aW dE _) (congrArg _ H) rfl⟩,trivial⟩ (by simp[sgL]))))
  ·have w: ¬k=f:=fun he=>by have:=(m (by omega)).2 he;simp_all
   have H:=aeM (j:=j) a (show k<f by omega);have i:=congrArg List.length H;simp only[akG,List.length_cons,List.length_nil] at i;(refine d _ _ _ ⟨(k+1,cap),by omega,by dsimp only;omega⟩ (by omega) (by(try dsimp only);omega) (by(refine mZ [27] (by omega) (by repeat' first|exact C1|refine xqI rfl rfl ?_|refine xqO (by omega) rfl rfl (by first|rfl|omega) ?_| (with_reducible apply C2)| ((with_reducible apply C0);(exact CG (by((try dsimp only);exact dbE (by omega))) rfl))| ((with_reducible apply D0);apply CJ)|fail) ⟨⟨by simp,by simp[sgL],_,rfl,dX (aW dE _) (congrArg _ H) rfl⟩,trivial⟩ (by simp[sgL]))))
  ·have H:=adU (j:=j) a (show f<k by omega);have i:=congrArg List.length H;simp only[akG,List.length_cons,List.length_nil] at i;(refine d _ _ _ ⟨(k+1,cap),by omega,by dsimp only;omega⟩ (by omega) (by(try dsimp only);omega) (by(refine mZ [27] (by omega) (by repeat' first|exact C1|refine xqI rfl rfl ?_|refine xqO (by omega) rfl rfl (by first|rfl|omega) ?_| (with_reducible apply C2)| ((with_reducible apply C0);(exact CG (by((try dsimp only);exact dbE (by omega))) rfl))| ((with_reducible apply D0);apply CJ)|fail) ⟨⟨by simp,by simp[sgL],_,rfl,dX (aW dE _) (congrArg _ H) rfl⟩,trivial⟩ (by simp[sgL]))))
 ·have q:k=l.length:=by omega
  subst q;subst n;repeat' first|apply vI<;>(simp only[go_sem])|apply vF (by omega)|refine iB (fun h=> ?_) fun h=> ?_| (with_reducible first|refine fun(cap:Nat) (g:_<=cap)=> ?_|refine fun(o:_<=cap)=> ?_)|refine⟨by omega,?_⟩|fail
  ·exact JX s (dS _) _ rfl (SW (l:=KU l j _ l.length++[j]) dE rfl (by simp) (by simp;omega) trivial) rfl (by rw[Tt (by omega)])
  ·exact JX s (dS _) _ rfl (SW (l:=KU l j _ l.length) dE rfl (by simp) (by omega) trivial) rfl (by rw[abA (by omega)])
theorem Ec{l:List Job}{j:Job}(hl:l.length<2^21)(h:K (dS ((wP l j).map aP)) H nx):an3 pG [dS (l.map aP),dA (aP j)] H nx K:=(cm l j hl).fresh rfl (fun r hr=>hr▸h)
theorem jy(l:List Ev)(cap m:Nat)(hl:l.length<2^21)(hc:l.length<=cap):an3 eQ [dO 3 0 l.length cap] (hp [(0,⟨3,m,l.map eEv⟩)]) 1
 fun r H' a=>a=1/\ ∃o',H'=hp [(0,o')]/\DZ o'/\o'=⟨3,m,l.map eEv⟩/\r=dO 3 0 l.length l.length:=by
 refine aM.mk Tryz.func98 (by kernel_rfl) xO rfl fun Q b=> ?_
 unfold eK
 repeat' first|apply vI<;>(simp only[go_sem])|refine⟨by omega,?_⟩|fail
 exact Q6 b (dO 3 0 l.length l.length) _ _ rfl (by repeat' first|exact C1| ((with_reducible apply C0);exact CQ (by omega) rfl rfl (by rfl) rfl)| ((with_reducible apply D0);apply CJ)|fail) rfl (eS Ms _) ⟨rfl,rfl⟩
theorem Vq{l:List Ev}{cap m i:Nat}(hl:l.length<2^21)(hc:l.length<=cap)(hi:i<nx)(a:H i=some ⟨3,m,l.map eEv⟩)(h:K (dO 3 i l.length l.length) (H.set i ⟨3,m,l.map eEv⟩) nx):
 an3 eQ [dO 3 i l.length cap] H nx K:=
 (jy l cap m hl hc).Iq i rfl (lY ⟨I2 (by omega) rfl rfl rfl rfl,trivial⟩) hi a (eS Ms _) fun r o' ⟨b,c⟩=>by subst b;subst c;exact h
end
end Go.Proofs.YtlncecohbakleaaGreat
