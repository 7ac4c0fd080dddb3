/- Texts laid together by a program: rules, contracts and the walk that leads to the law. -/
import Derived.Test.YtlncecohbakleaaGreatPS6
import Derived.Test.YtlncecohbakleaaGreatPS5
import Derived.Test.YtlncecohbakleaaGreatPS4
set_option linter.unusedVariables false
set_option linter.unusedSimpArgs false
set_option linter.unusedSectionVars false
set_option maxRecDepth 100000
set_option maxHeartbeats 8000000
namespace Go.Proofs.YtlncecohbakleaaGreat
open Go Go.AM
attribute [local irreducible] aM wv aB vd wvH
section
variable{H:aA}{nx:Nat}{K:bNX}
theorem agS(n lo up:Int):bNW cQ [boP n,boP lo,boP up] .nil 0 fun a _ _=>a.plain=true/\a=dB (decide (lo<=n/\n<=up)):=by
 refine aN.mk Tryz.func112 (by kernel_rfl) acJ rfl fun Q b=> ?_;unfold JX;repeat' first| (first|apply bn1|refine bpL (fun h=> ?_) fun h=> ?_)<;>(simp only[go_sem])|fail
 all_goals first|with_reducible refine aZ b _ rfl rfl ?_|skip
 all_goals first|exact pD (by omega)|exact q9 (by omega)|exact j7 (by omega)|rfl
variable{n:Int}
theorem fE{lo:Int}{up:Int}(h:K (dB (decide (lo<=n/\n<=up))) H nx):bNW cQ [boP n,boP lo,boP up] H nx K:=(agS n lo up).pure rfl (aI ⟨aE rfl,aE rfl,aE rfl,trivial⟩) (fun r hr=>hr▸h)
theorem aBC{lo:Int}{up:Int}(h:K (dB (decide (lo<=n/\n<=up))) H nx):bNW y2 [boP n,boP lo,boP up] H nx K:=by
 refine aB.pure (args0:=[boP n,boP lo,boP up]) (R:=fun a=>a=dB (decide (lo<=n/\n<=up))) ?_ rfl (aI ⟨aE rfl,aE rfl,aE rfl,trivial⟩) (fun r hr=>hr▸h);clear h;refine aN.mk Tryz.func203 (by kernel_rfl) aD3 rfl fun Q b=> ?_;unfold aBW;repeat' first| (first|apply bn1|refine bpL (fun h=> ?_) fun h=> ?_)<;>(simp only[go_sem])|fail
 all_goals first|with_reducible refine aZ b _ rfl rfl ?_|skip
 all_goals first|exact pD (by omega)|exact q9 (by omega)|exact j7 (by omega)|rfl
theorem OC(n:Int):bNW jA [boP n] .nil 0 fun a _ _=>a.plain=true/\a=dB (decide (0<=n/\n<=2)):=by
 refine aN.mk Tryz.func281 (by kernel_rfl) MB rfl fun Q b=> ?_;unfold sZ;repeat' first| (first|apply bn1|apply fE)<;>(simp only[go_sem])|fail
 all_goals first|with_reducible refine aZ b _ rfl rfl ?_|skip
 all_goals first|exact pD (by omega)|exact q9 (by omega)|exact j7 (by omega)|rfl
theorem oR(h:K (dB (decide (0<=n/\n<=2))) H nx):bNW jA [boP n] H nx K:=(OC n).pure rfl (aI ⟨aE rfl,trivial⟩) (fun r hr=>hr▸h)
theorem U5(h:K (dB (decide (0<=n/\n<=65535))) H nx):bNW tR [boP n] H nx K:=by
 refine aB.pure (args0:=[boP n]) (R:=fun a=>a=dB (decide (0<=n/\n<=65535))) ?_ rfl (aI ⟨aE rfl,trivial⟩) (fun r hr=>hr▸h);clear h;refine aN.mk Tryz.func340 (by kernel_rfl) SV rfl fun Q b=> ?_;unfold yN;repeat' first| (first|apply bn1|apply fE)<;>(simp only[go_sem])|fail
 all_goals first|with_reducible refine aZ b _ rfl rfl ?_|skip
 all_goals first|exact pD (by omega)|exact q9 (by omega)|exact j7 (by omega)|rfl
variable{addr:Int}
theorem wS{many:Int}{wrap:Bool}(h:K (dB (decide (o7 addr many wrap))) H nx):bNW nI [boP addr,boP many,dB wrap] H nx K:=by
 refine aB.pure (args0:=[boP addr,boP many,dB wrap]) (R:=fun a=>a=dB (decide (o7 addr many wrap))) ?_ rfl (aI ⟨aE rfl,aE rfl,aE rfl,trivial⟩) (fun r hr=>hr▸h);clear h;refine aN.mk Tryz.func104 (by kernel_rfl) VH rfl fun Q b=> ?_;unfold z5;repeat' first| (first|apply bn1|refine bpL (fun h=> ?_) fun h=> ?_| (refine bpM (fun h=> ?_) (fun h=> ?_)<;>try subst h)|apply fE)<;>(simp only[go_sem];try simp (disch:=omega) only[Iw])|fail
 all_goals first|with_reducible refine aZ b _ rfl rfl ?_|skip
 all_goals unfold o7
 all_goals first|exact pD (by simp;omega)|exact q9 (by simp;omega)|exact j7 (by simp;omega)
theorem aCI{many:Int}{wrap:Bool}(h:K (dB (decide (o7 addr many wrap))) H nx):bNW aA6 [boP addr,boP many,dB wrap] H nx K:=by
 refine aB.pure (args0:=[boP addr,boP many,dB wrap]) (R:=fun a=>a=dB (decide (o7 addr many wrap))) ?_ rfl (aI ⟨aE rfl,aE rfl,aE rfl,trivial⟩) (fun r hr=>hr▸h);clear h;refine aN.mk Tryz.func314 (by kernel_rfl) aDS rfl fun Q b=> ?_;unfold aBN;repeat' first| (first|apply bn1|refine bpL (fun h=> ?_) fun h=> ?_| (refine bpM (fun h=> ?_) (fun h=> ?_)<;>try subst h)|apply aBC)<;>(simp only[go_sem];try simp (disch:=omega) only[Iw])|refine bnE (fun h=> ?_) fun h=> ?_|fail
 all_goals first|with_reducible refine aZ b _ rfl rfl ?_|skip
 all_goals unfold o7
 all_goals first|exact pD (by simp;omega)|exact q9 (by simp;omega)|exact j7 (by simp;omega)
variable{l:List Rng}
theorem aB0(hl:l.length<2^40)(h:K (boP (bK (inR · addr) l)) H nx):bNW aAX [dS (l.map eN),boP addr] H nx K:=by
 refine aB.pure (args0:=[dS (l.map eN),boP addr]) (R:=fun c=>c=boP (bK (inR · addr) l)) ?_ rfl (aI ⟨aE rfl,aE rfl,trivial⟩) (fun r hr=>hr▸h);clear h;refine aN.mk Tryz.func315 (by kernel_rfl) aDF rfl fun Q b=> ?_;unfold aBH;repeat' first|apply bn1<;>(simp only[go_sem])|fail
 (refine aM.loop (α:={k:Nat//k<=l.length/\(∀i,i<k->inR (l.getD i default) addr=false)}) (fun u=>en [(5,boP u.1),(1,boP addr),(0,dS (l.map eN))]) (fun _=>.nil) _ (fun u=>l.length-u.1) ⟨0,by omega,(by intros;first|trivial|omega)⟩ (bU (m5 _) (by repeat' first|exact bo2|refine xqI rfl rfl ?_|fail)) ?_);(rintro⟨k,d,hinv⟩ bpQ a);repeat' first| (first|apply bn1|apply aBC)<;>(simp only[go_sem];try simp (disch:=omega) only[Iw])|refine bnE (fun h=> ?_) fun h=> ?_|refine⟨by omega,?_⟩|fail
 ·refine aZ b _ rfl rfl (qA (bq3 (CU (by omega) (decide_eq_true (by omega)) hinv)))
 · (refine a _ _ _ ⟨k+1,by omega,iS hinv (decide_eq_false (by omega))⟩ (by omega) (by(try dsimp only);omega) (bU (m5 _) (by repeat' first|exact bo2|refine xqI rfl rfl ?_|fail)))
 ·refine aZ b _ rfl rfl (qA (bq3 (tI fun i hi=>hinv i (by omega))))
theorem aDG{all:List Int}(hl:l.length<2^40)(d:all.length<2^40)(h:K (boP (bV l all)) H nx):bNW aA4 [dS (l.map eN),dS (all.map aJ)] H nx K:=by
 refine aB.pure (args0:=[dS (l.map eN),dS (all.map aJ)]) (R:=fun c=>c=boP (bV l all)) ?_ rfl (aI ⟨aE rfl,aE rfl,trivial⟩) (fun r hr=>hr▸h);clear h;refine aN.mk Tryz.func249 (by kernel_rfl) aDB rfl fun Q a=> ?_;unfold aBD;repeat' first| (first|apply bn1|apply aB0 hl)<;>(simp only[go_sem])|refine bnE (fun h=> ?_) fun h=> ?_|refine⟨by omega,?_⟩|fail
 ·exact aZ a _ rfl rfl (qA (adL (by omega)).symm)
 (refine aM.loop (α:={k:Nat//k<=all.length/\(∀i,i<k->1<=i->bK (inR · (all.getD i default)) l=bK (inR · (all.getD 0 default)) l)}) (fun u=>en [(6,boP u.1),(5,boP (bK (inR · (all.getD 0 default)) l)),(1,dS (all.map aJ)),(0,dS (l.map eN))]) (fun _=>.nil) _ (fun u=>all.length-u.1) ⟨1,by omega,(by intros;first|trivial|omega)⟩ (bU (m5 _) (by repeat' first|exact bo2|refine xqI rfl rfl ?_|fail)) ?_);(rintro⟨k,e,hinv⟩ bpQ b);repeat' first| (first|apply bn1|apply aB0 hl)<;>(simp only[go_sem];try simp (disch:=omega) only[Iw])|refine bnE (fun h=> ?_) fun h=> ?_|refine⟨by omega,?_⟩|fail
 ·exact aZ a _ rfl rfl (qA (L8 (i:=k) (by omega) (by omega)).symm)
 · (refine b _ _ _ ⟨k+1,by omega,iS hinv (fun _=>by omega)⟩ (by omega) (by(try dsimp only);omega) (bU (m5 _) (by repeat' first|exact bo2|refine xqI rfl rfl ?_|fail)))
 ·exact aZ a _ rfl rfl (qA (RH (by omega) (fun i hi=>hinv i (by omega))).symm)
theorem aC2{q:Req}(h:K (dB (wrM q)) H nx):bNW aAZ [boR (eB q)] H nx K:=by
 refine aB.pure (args0:=[boR (eB q)]) (R:=fun a=>a=dB (wrM q)) ?_ rfl (aI ⟨aE rfl,trivial⟩) (fun r hr=>hr▸h);clear h;refine aN.mk Tryz.func288 (by kernel_rfl) aCS rfl fun Q b=> ?_;unfold aBB;repeat' first| (first|apply bn1|refine bpL (fun h=> ?_) fun h=> ?_)<;>(simp only[go_sem])|fail
 all_goals first|with_reducible refine aZ b _ rfl rfl ?_|skip
 all_goals unfold wrM
 all_goals first|exact pD (by omega)|exact q9 (by omega)|exact j7 (by omega)|rfl
theorem aC9{many:Int}{wrap:Bool}(h:K (dS ((bE addr many wrap).map aJ)) H nx):bNW aAY [boP addr,boP many,dB wrap] H nx K:=by
 refine aB.fresh (R:=fun g=>g=dS ((bE addr many wrap).map aJ)) ?_ rfl (fun r hr=>hr▸h);clear h;refine aN.mk Tryz.func250 (by kernel_rfl) aCP rfl fun Q e=> ?_;unfold aBA;repeat' first| (first|apply bn1|apply aCI)<;>(simp only[go_sem])|refine bnE (fun h=> ?_) fun h=> ?_|fail
 ·exact V4 e (dS []) _ rfl xG rfl (by simp[bE,h])
 have a:=Classical.not_not.1 h;obtain⟨bpR,m,bpS,bpT,bpU,bpV,bpW,bpX⟩:=aaA a;clear h;rw[bpV];refine⟨bpR,?_⟩;rw[IntWalk.i64_in (addr-_) (by omega)];repeat' first|apply bn1<;>(simp only[go_sem])|fail
 refine aM.ar4 1 (α:={p:Nat×Nat//p.1<=many.toNat/\p.1<=p.2}) (fun b u=>en [(9,boP u.1.1),(8,boP (addr-addr%many)),(7,boQ 1 b u.1.1 u.1.2),(2,dB wrap),(1,boP many),(0,boP addr)])
  (fun b u=>hp [(b,⟨1,u.1.2,((List.range u.1.1).map (bAt addr many wrap)).map aJ⟩)]) (fun u=>many.toNat-u.1.1) ⟨(0,0),by omega,by omega⟩ (by(refine cR [1] (by omega) (by repeat' first|exact bo2|refine xqI rfl rfl ?_|refine xqO (by omega) rfl rfl (by rfl) ?_|fail) ⟨⟨by simp,by simp[sgL],_,rfl,bP (aG bF _) rfl rfl⟩,trivial⟩ (by simp[sgL]))) ?_
 rintro⟨⟨k,cap⟩,i,hc⟩ bpQ c;dsimp only at i hc;by_cases d:k<many.toNat
 ·obtain⟨n,o,j⟩:=agW a k d;repeat' first|apply bn1<;>(simp only[go_sem];try simp (disch:=omega) only[Iw])|apply bn2 (by omega)| (with_reducible first|refine fun(cap:Nat) (f:_<=cap)=> ?_|refine fun(l:_<=cap)=> ?_)| ((refine bnF (fun h=> ?_) (fun h=> ?_))<;>try subst h)|refine⟨by omega,?_⟩|fail
  ·refine c _ _ _ ⟨(k+1,cap),by omega,by omega⟩ (by omega) (by dsimp only;omega) (by(refine cR [31] (by omega) (by repeat' first|exact bo2|refine xqI rfl rfl ?_|refine xqO (by omega) rfl rfl (by rfl) ?_|fail) ⟨⟨by simp,by simp[sgL],_,rfl,bP (aG bF _) (congrArg _ (aDH (by simp only[bAt,if_true];exact j))) rfl⟩,trivial⟩ (by simp[sgL])))
  ·refine c _ _ _ ⟨(k+1,cap),by omega,by omega⟩ (by omega) (by dsimp only;omega) (by(refine cR [25] (by omega) (by repeat' first|exact bo2|refine xqI rfl rfl ?_|refine xqO (by omega) rfl rfl (by rfl) ?_|fail) ⟨⟨by simp,by simp[sgL],_,rfl,bP (aG bF _) (congrArg _ (aDH rfl)) rfl⟩,trivial⟩ (by simp[sgL])))
 ·repeat' first|apply bn1<;>(simp only[go_sem])|apply bn3 (by omega)|fail
  ·refine V4 e (dS _) _ rfl (yP bF rfl (by simp) (by simpa using hc) trivial) rfl ?_;have:k=many.toNat:=(by omega);subst this;simp[bE,a]
theorem nC(l:List Rng)(f:FuncId)(caps:List D1)(p:Rng->Bool)(hl:l.length<2^40)(hc:caps.all D1.dQ=true)(j: ∀x∈l,∀(H:aA) (nx:Nat) (K:bNX),K (dB (p x)) H nx->bNW f (boR (eN x)::caps.map fun d=>.one (.c d)) H nx K):
 bNW bR [dS (l.map eN),.one (.c (.clo f caps))] .nil 0 fun r _ _=>r.plain=true/\r=boP (bK p l):=by
 refine aN.mk Tryz.func337 (by kernel_rfl) mU rfl fun Q g=> ?_
 unfold dM
 repeat' first|apply bn1<;>(simp only[go_sem])|fail
 (refine aM.loop (α:={k:Nat//k<=l.length/\(∀i,i<k->p (l.getD i default)=false)}) (fun u=>en [(8,boP u.1),(7,boP l.length),(1,.one (.c (.clo f caps))),(0,dS (l.map eN))]) (fun _=>.nil) _ (fun u=>l.length-u.1) ⟨0,by omega,(by intros;first|trivial|omega)⟩ (bU (m5 _) (by repeat' first|exact bo2|refine xqI rfl rfl ?_| (with_reducible apply bo3)| ((with_reducible apply bo0);exact bpG (by assumption))| ((with_reducible apply bo1);apply bo7)|fail)) ?_);(rintro⟨k,m,hinv⟩ bpQ b)
 by_cases e:k<l.length
 ·have a:l.getD k default∈l:=by simp[List.getD,e]
  repeat' first| (first|apply bn1|apply j _ a _ _ _)<;>(simp only[go_sem];try simp (disch:=omega) only[Iw])|apply bn2 (by omega)| ((refine bnF (fun h=> ?_) (fun h=> ?_))<;>try subst h)|refine⟨by omega,?_⟩|fail
  ·refine aZ g _ rfl rfl (qA (bq3 (CU (by omega) (by assumption) hinv)))
  · (refine b _ _ _ ⟨k+1,by omega,iS hinv (by assumption)⟩ (by omega) (by(try dsimp only);omega) (bU (m5 _) (by repeat' first|exact bo2|refine xqI rfl rfl ?_| (with_reducible apply bo3)| ((with_reducible apply bo0);exact bpG (by assumption))| ((with_reducible apply bo1);apply bo7)|fail)))
 ·repeat' first|apply bn1<;>(simp only[go_sem])|apply bn3 (by omega)|fail
  ·refine aZ g _ rfl rfl (qA (bq3 (tI fun i hi=>hinv i (by omega))))
variable{f:FuncId}{caps caps0:List D1}{d:D}
theorem gS{p:Rng->Bool}(hl:l.length<2^40)(hc:caps.all D1.dQ=true)(a:CvD H (fun _=>True) id 0 (dS (l.map eN)) d)(b:CvD H (fun _=>True) id 0 (.one (.c (.clo f caps))) (.one (.c (.clo f caps0))))(e: ∀x∈l,∀(H:aA) (nx:Nat) (K:bNX),K (dB (p x)) H nx->bNW f (boR (eN x)::caps.map fun d=>.one (.c d)) H nx K)
 (h:K (boP (bK p l)) H nx):bNW bR [d,.one (.c (.clo f caps0))] H nx K:=
 (nC l f caps p hl hc e).pure rfl (aI ⟨a,b,trivial⟩) fun r hr=>hr▸h
theorem lO(l:List Rng)(f:FuncId)(caps:List D1)(p:Rng->Bool)(hl:l.length<2^40)(hc:caps.all D1.dQ=true)(a: ∀x∈l,∀(H:aA) (nx:Nat) (K:bNX),K (dB (p x)) H nx->bNW f (boR (eN x)::caps.map fun d=>.one (.c d)) H nx K):
 bNW bX [dS (l.map eN),.one (.c (.clo f caps))] .nil 0 fun r _ _=>r.plain=true/\r=dB (decide (0<=bK p l)):=by
 refine aN.mk Tryz.func323 (by kernel_rfl) lH rfl fun Q b=> ?_
 unfold cY
 repeat' first| (first|apply bn1|refine gS hl hc (aE rfl) (kC hc) a ?_)<;>(simp only[go_sem])|fail
 all_goals exact aZ b _ rfl rfl rfl
theorem lN{p:Rng->Bool}(hl:l.length<2^40)(hc:caps.all D1.dQ=true)(a:CvD H (fun _=>True) id 0 (dS (l.map eN)) d)(b:CvD H (fun _=>True) id 0 (.one (.c (.clo f caps))) (.one (.c (.clo f caps0))))(e: ∀x∈l,∀(H:aA) (nx:Nat) (K:bNX),K (dB (p x)) H nx->bNW f (boR (eN x)::caps.map fun d=>.one (.c d)) H nx K)
 (h:K (dB (decide (0<=bK p l))) H nx):bNW bX [d,.one (.c (.clo f caps0))] H nx K:=
 (lO l f caps p hl hc e).pure rfl (aI ⟨a,b,trivial⟩) fun r hr=>hr▸h
theorem wN(l:List Int)(f:FuncId)(caps:List D1)(p:Int->Bool)(hl:l.length<2^40)(hc:caps.all D1.dQ=true)(j: ∀x∈l,∀(H:aA) (nx:Nat) (K:bNX),K (dB (p x)) H nx->bNW f (boP x::caps.map fun d=>.one (.c d)) H nx K):
 bNW fF [dS (l.map aJ),.one (.c (.clo f caps))] .nil 0 fun r _ _=>r.plain=true/\r=boP (bK p l):=by
 refine aN.mk Tryz.func286 (by kernel_rfl) vL rfl fun Q g=> ?_
 unfold gX
 repeat' first|apply bn1<;>(simp only[go_sem])|fail
 (refine aM.loop (α:={k:Nat//k<=l.length/\(∀i,i<k->p (l.getD i default)=false)}) (fun u=>en [(8,boP u.1),(7,boP l.length),(1,.one (.c (.clo f caps))),(0,dS (l.map aJ))]) (fun _=>.nil) _ (fun u=>l.length-u.1) ⟨0,by omega,(by intros;first|trivial|omega)⟩ (bU (m5 _) (by repeat' first|exact bo2|refine xqI rfl rfl ?_| (with_reducible apply bo3)| ((with_reducible apply bo0);exact bpG (by assumption))| ((with_reducible apply bo1);apply bo7)|fail)) ?_);(rintro⟨k,m,hinv⟩ bpQ b)
 by_cases e:k<l.length
 ·have a:l.getD k default∈l:=by simp[List.getD,e]
  repeat' first| (first|apply bn1|apply j _ a _ _ _)<;>(simp only[go_sem];try simp (disch:=omega) only[Iw])|apply bn2 (by omega)| ((refine bnF (fun h=> ?_) (fun h=> ?_))<;>try subst h)|refine⟨by omega,?_⟩|fail
  ·refine aZ g _ rfl rfl (qA (bq3 (CU (by omega) (by assumption) hinv)))
  · (refine b _ _ _ ⟨k+1,by omega,iS hinv (by assumption)⟩ (by omega) (by(try dsimp only);omega) (bU (m5 _) (by repeat' first|exact bo2|refine xqI rfl rfl ?_| (with_reducible apply bo3)| ((with_reducible apply bo0);exact bpG (by assumption))| ((with_reducible apply bo1);apply bo7)|fail)))
 ·repeat' first|apply bn1<;>(simp only[go_sem])|apply bn3 (by omega)|fail
  ·refine aZ g _ rfl rfl (qA (bq3 (tI fun i hi=>hinv i (by omega))))
theorem wO{l:List Int}{p:Int->Bool}(hl:l.length<2^40)(hc:caps.all D1.dQ=true)(a:CvD H (fun _=>True) id 0 (dS (l.map aJ)) d)(b:CvD H (fun _=>True) id 0 (.one (.c (.clo f caps))) (.one (.c (.clo f caps0))))(e: ∀x∈l,∀(H:aA) (nx:Nat) (K:bNX),K (dB (p x)) H nx->bNW f (boP x::caps.map fun d=>.one (.c d)) H nx K)
 (h:K (boP (bK p l)) H nx):bNW fF [d,.one (.c (.clo f caps0))] H nx K:=
 (wN l f caps p hl hc e).pure rfl (aI ⟨a,b,trivial⟩) fun r hr=>hr▸h
theorem sR(l:List Int)(f:FuncId)(caps:List D1)(p:Int->Bool)(hl:l.length<2^40)(hc:caps.all D1.dQ=true)(a: ∀x∈l,∀(H:aA) (nx:Nat) (K:bNX),K (dB (p x)) H nx->bNW f (boP x::caps.map fun d=>.one (.c d)) H nx K):
 bNW bN [dS (l.map aJ),.one (.c (.clo f caps))] .nil 0 fun r _ _=>r.plain=true/\r=dB (decide (0<=bK p l)):=by
 refine aN.mk Tryz.func201 (by kernel_rfl) rV rfl fun Q b=> ?_
 unfold fX
 repeat' first| (first|apply bn1|refine wO hl hc (aE rfl) (kC hc) a ?_)<;>(simp only[go_sem])|fail
 all_goals exact aZ b _ rfl rfl rfl
theorem d8{l:List Int}{p:Int->Bool}(hl:l.length<2^40)(hc:caps.all D1.dQ=true)(a:CvD H (fun _=>True) id 0 (dS (l.map aJ)) d)(b:CvD H (fun _=>True) id 0 (.one (.c (.clo f caps))) (.one (.c (.clo f caps0))))(e: ∀x∈l,∀(H:aA) (nx:Nat) (K:bNX),K (dB (p x)) H nx->bNW f (boP x::caps.map fun d=>.one (.c d)) H nx K)
 (h:K (dB (decide (0<=bK p l))) H nx):bNW bN [d,.one (.c (.clo f caps0))] H nx K:=
 (sR l f caps p hl hc e).pure rfl (aI ⟨a,b,trivial⟩) fun r hr=>hr▸h
theorem qH(l:List Req)(f:FuncId)(caps:List D1)(p:Req->Bool)(hl:l.length<2^40)(hc:caps.all D1.dQ=true)(j: ∀x∈l,∀(H:aA) (nx:Nat) (K:bNX),K (dB (p x)) H nx->bNW f (boR (eB x)::caps.map fun d=>.one (.c d)) H nx K):
 bNW dC [dS (l.map eB),.one (.c (.clo f caps))] .nil 0 fun r _ _=>r.plain=true/\r=boP (bK p l):=by
 refine aN.mk Tryz.func326 (by kernel_rfl) pF rfl fun Q g=> ?_
 unfold eV
 repeat' first|apply bn1<;>(simp only[go_sem])|fail
 (refine aM.loop (α:={k:Nat//k<=l.length/\(∀i,i<k->p (l.getD i default)=false)}) (fun u=>en [(8,boP u.1),(7,boP l.length),(1,.one (.c (.clo f caps))),(0,dS (l.map eB))]) (fun _=>.nil) _ (fun u=>l.length-u.1) ⟨0,by omega,(by intros;first|trivial|omega)⟩ (bU (m5 _) (by repeat' first|exact bo2|refine xqI rfl rfl ?_| (with_reducible apply bo3)| ((with_reducible apply bo0);exact bpG (by assumption))| ((with_reducible apply bo1);apply bo7)|fail)) ?_);(rintro⟨k,m,hinv⟩ bpQ b)
 by_cases e:k<l.length
 ·have a:l.getD k default∈l:=by simp[List.getD,e]
  repeat' first| (first|apply bn1|apply j _ a _ _ _)<;>(simp only[go_sem];try simp (disch:=omega) only[Iw])|apply bn2 (by omega)| ((refine bnF (fun h=> ?_) (fun h=> ?_))<;>try subst h)|refine⟨by omega,?_⟩|fail
  ·refine aZ g _ rfl rfl (qA (bq3 (CU (by omega) (by assumption) hinv)))
  · (refine b _ _ _ ⟨k+1,by omega,iS hinv (by assumption)⟩ (by omega) (by(try dsimp only);omega) (bU (m5 _) (by repeat' first|exact bo2|refine xqI rfl rfl ?_| (with_reducible apply bo3)| ((with_reducible apply bo0);exact bpG (by assumption))| ((with_reducible apply bo1);apply bo7)|fail)))
 ·repeat' first|apply bn1<;>(simp only[go_sem])|apply bn3 (by omega)|fail
  ·refine aZ g _ rfl rfl (qA (bq3 (tI fun i hi=>hinv i (by omega))))
theorem qC{l:List Req}{p:Req->Bool}(hl:l.length<2^40)(hc:caps.all D1.dQ=true)(a:CvD H (fun _=>True) id 0 (dS (l.map eB)) d)(b:CvD H (fun _=>True) id 0 (.one (.c (.clo f caps))) (.one (.c (.clo f caps0))))(e: ∀x∈l,∀(H:aA) (nx:Nat) (K:bNX),K (dB (p x)) H nx->bNW f (boR (eB x)::caps.map fun d=>.one (.c d)) H nx K)
 (h:K (boP (bK p l)) H nx):bNW dC [d,.one (.c (.clo f caps0))] H nx K:=
 (qH l f caps p hl hc e).pure rfl (aI ⟨a,b,trivial⟩) fun r hr=>hr▸h
theorem nT(l:List Req)(f:FuncId)(caps:List D1)(p:Req->Bool)(hl:l.length<2^40)(hc:caps.all D1.dQ=true)(a: ∀x∈l,∀(H:aA) (nx:Nat) (K:bNX),K (dB (p x)) H nx->bNW f (boR (eB x)::caps.map fun d=>.one (.c d)) H nx K):
 bNW cN [dS (l.map eB),.one (.c (.clo f caps))] .nil 0 fun r _ _=>r.plain=true/\r=dB (decide (0<=bK p l)):=by
 refine aN.mk Tryz.func275 (by kernel_rfl) nA rfl fun Q b=> ?_
 unfold dX
 repeat' first| (first|apply bn1|refine qC hl hc (aE rfl) (kC hc) a ?_)<;>(simp only[go_sem])|fail
 all_goals exact aZ b _ rfl rfl rfl
theorem nW{l:List Req}{p:Req->Bool}(hl:l.length<2^40)(hc:caps.all D1.dQ=true)(a:CvD H (fun _=>True) id 0 (dS (l.map eB)) d)(b:CvD H (fun _=>True) id 0 (.one (.c (.clo f caps))) (.one (.c (.clo f caps0))))(e: ∀x∈l,∀(H:aA) (nx:Nat) (K:bNX),K (dB (p x)) H nx->bNW f (boR (eB x)::caps.map fun d=>.one (.c d)) H nx K)
 (h:K (dB (decide (0<=bK p l))) H nx):bNW cN [d,.one (.c (.clo f caps0))] H nx K:=
 (nT l f caps p hl hc e).pure rfl (aI ⟨a,b,trivial⟩) fun r hr=>hr▸h
theorem oH(l:List (List Req))(f:FuncId)(caps:List D1)(p:(List Req)->Bool)(hl:l.length<2^40)(hc:caps.all D1.dQ=true)(j: ∀x∈l,∀(H:aA) (nx:Nat) (K:bNX),K (dB (p x)) H nx->bNW f (dS (x.map eB)::caps.map fun d=>.one (.c d)) H nx K):
 bNW cT [dS (l.map jR),.one (.c (.clo f caps))] .nil 0 fun r _ _=>r.plain=true/\r=boP (bK p l):=by
 refine aN.mk Tryz.func325 (by kernel_rfl) nQ rfl fun Q g=> ?_
 unfold eD
 repeat' first|apply bn1<;>(simp only[go_sem])|fail
 (refine aM.loop (α:={k:Nat//k<=l.length/\(∀i,i<k->p (l.getD i default)=false)}) (fun u=>en [(8,boP u.1),(7,boP l.length),(1,.one (.c (.clo f caps))),(0,dS (l.map jR))]) (fun _=>.nil) _ (fun u=>l.length-u.1) ⟨0,by omega,(by intros;first|trivial|omega)⟩ (bU (m5 _) (by repeat' first|exact bo2|refine xqI rfl rfl ?_| (with_reducible apply bo3)| ((with_reducible apply bo0);exact bpG (by assumption))| ((with_reducible apply bo1);apply bo7)|fail)) ?_);(rintro⟨k,m,hinv⟩ bpQ b)
 by_cases e:k<l.length
 ·have a:l.getD k default∈l:=by simp[List.getD,e]
  repeat' first| (first|apply bn1|apply j _ a _ _ _)<;>(simp only[go_sem];try simp (disch:=omega) only[Iw])|apply bn2 (by omega)| ((refine bnF (fun h=> ?_) (fun h=> ?_))<;>try subst h)|refine⟨by omega,?_⟩|fail
  ·refine aZ g _ rfl rfl (qA (bq3 (CU (by omega) (by assumption) hinv)))
  · (refine b _ _ _ ⟨k+1,by omega,iS hinv (by assumption)⟩ (by omega) (by(try dsimp only);omega) (bU (m5 _) (by repeat' first|exact bo2|refine xqI rfl rfl ?_| (with_reducible apply bo3)| ((with_reducible apply bo0);exact bpG (by assumption))| ((with_reducible apply bo1);apply bo7)|fail)))
 ·repeat' first|apply bn1<;>(simp only[go_sem])|apply bn3 (by omega)|fail
  ·refine aZ g _ rfl rfl (qA (bq3 (tI fun i hi=>hinv i (by omega))))
theorem oN{l:List (List Req)}{p:(List Req)->Bool}(hl:l.length<2^40)(hc:caps.all D1.dQ=true)(a:CvD H (fun _=>True) id 0 (dS (l.map jR)) d)(b:CvD H (fun _=>True) id 0 (.one (.c (.clo f caps))) (.one (.c (.clo f caps0))))(e: ∀x∈l,∀(H:aA) (nx:Nat) (K:bNX),K (dB (p x)) H nx->bNW f (dS (x.map eB)::caps.map fun d=>.one (.c d)) H nx K)
 (h:K (boP (bK p l)) H nx):bNW cT [d,.one (.c (.clo f caps0))] H nx K:=
 (oH l f caps p hl hc e).pure rfl (aI ⟨a,b,trivial⟩) fun r hr=>hr▸h
theorem mJ(l:List (List Req))(f:FuncId)(caps:List D1)(p:(List Req)->Bool)(hl:l.length<2^40)(hc:caps.all D1.dQ=true)(a: ∀x∈l,∀(H:aA) (nx:Nat) (K:bNX),K (dB (p x)) H nx->bNW f (dS (x.map eB)::caps.map fun d=>.one (.c d)) H nx K):
 bNW cF [dS (l.map jR),.one (.c (.clo f caps))] .nil 0 fun r _ _=>r.plain=true/\r=dB (decide (0<=bK p l)):=by
 refine aN.mk Tryz.func273 (by kernel_rfl) l6 rfl fun Q b=> ?_
 unfold dG
 repeat' first| (first|apply bn1|refine oN hl hc (aE rfl) (kC hc) a ?_)<;>(simp only[go_sem])|fail
 all_goals exact aZ b _ rfl rfl rfl
theorem mS{l:List (List Req)}{p:(List Req)->Bool}(hl:l.length<2^40)(hc:caps.all D1.dQ=true)(a:CvD H (fun _=>True) id 0 (dS (l.map jR)) d)(b:CvD H (fun _=>True) id 0 (.one (.c (.clo f caps))) (.one (.c (.clo f caps0))))(e: ∀x∈l,∀(H:aA) (nx:Nat) (K:bNX),K (dB (p x)) H nx->bNW f (dS (x.map eB)::caps.map fun d=>.one (.c d)) H nx K)
 (h:K (dB (decide (0<=bK p l))) H nx):bNW cF [d,.one (.c (.clo f caps0))] H nx K:=
 (mJ l f caps p hl hc e).pure rfl (aI ⟨a,b,trivial⟩) fun r hr=>hr▸h
theorem NC{r:Rng}(h:K (dB (inR r addr)) H nx):bNW nJ [boR (eN r),.one (.c (.fQ [cI addr]))] H nx K:=by
 refine aB.pure (args0:=[boR (eN r),.one (.c (.fQ [cI addr]))]) (R:=fun a=>a=dB (inR r addr)) ?_ rfl (aI ⟨aE rfl,aE rfl,trivial⟩) (fun r hr=>hr▸h);clear h;refine aN.mk Tryz.func338 (by kernel_rfl) J5 rfl fun Q b=> ?_;unfold rO;repeat' first| (first|apply bn1|apply fE)<;>(simp only[go_sem])|fail
 all_goals first|with_reducible refine aZ b _ rfl rfl ?_|skip
 all_goals exact pD brL
theorem SX(hl:l.length<2^40)(h:K (boP (bK (inR · addr) l)) H nx):bNW qX [dS (l.map eN),boP addr] H nx K:=by
 refine aB.pure (args0:=[dS (l.map eN),boP addr]) (R:=fun a=>a=boP (bK (inR · addr) l)) ?_ rfl (aI ⟨aE rfl,aE rfl,trivial⟩) (fun r hr=>hr▸h);clear h;refine aN.mk Tryz.func316 (by kernel_rfl) N7 rfl fun Q b=> ?_;unfold u5;repeat' first| (first|apply bn1|refine gS (caps:=[.fQ [cI addr]]) (p:=(inR · addr)) hl rfl (aE rfl) (PR ⟨zE rfl trivial rfl rfl rfl,trivial⟩) (fun x _ H nx K h=>NC h) ?_)<;>(simp only[go_sem])|fail
 all_goals first|with_reducible refine aZ b _ rfl rfl ?_|skip
 all_goals first|rfl|exact qA (by omega)
theorem RE{q:Rng}{r:Rng}(h:K (dB (aaM q r)) H nx):bNW rE [boR (eN q),.one (.c (.fQ (eN r)))] H nx K:=by
 refine aB.pure (args0:=[boR (eN q),.one (.c (.fQ (eN r)))]) (R:=fun a=>a=dB (aaM q r)) ?_ rfl (aI ⟨aE rfl,aE rfl,trivial⟩) (fun r hr=>hr▸h);clear h;refine aN.mk Tryz.func324 (by kernel_rfl) OP rfl fun Q b=> ?_;unfold u3;repeat' first| (first|apply bn1|refine bpL (fun h=> ?_) fun h=> ?_)<;>(simp only[go_sem])|fail
 all_goals first|with_reducible refine aZ b _ rfl rfl ?_|skip
 all_goals unfold aaM
 all_goals first|exact pD (by omega)|exact q9 (by omega)|exact j7 (by omega)
theorem YK(hl:l.length<2^40)(h:K (dB (decide (DH l))) H nx):bNW wR [dS (l.map eN)] H nx K:=by
 refine aB.pure (args0:=[dS (l.map eN)]) (R:=fun e=>e=dB (decide (DH l))) ?_ rfl (aI ⟨aE rfl,trivial⟩) (fun r hr=>hr▸h);clear h;refine aN.mk Tryz.func271 (by kernel_rfl) VT rfl fun Q d=> ?_;unfold zQ;repeat' first|apply bn1<;>(simp only[go_sem])|fail
 (refine aM.loop (α:={k:Nat//k<=l.length/\(∀i,i<k->V9 l i)}) (fun u=>en [(7,boP u.1),(6,boP l.length),(5,dS (l.map eN)),(0,dS (l.map eN))]) (fun _=>.nil) _ (fun u=>l.length-u.1) ⟨0,by omega,(by intros;first|trivial|omega)⟩ (bU (m5 _) (by repeat' first|exact bo2|refine xqI rfl rfl ?_|fail)) ?_);(rintro⟨k,f,hinv⟩ bpQ a);by_cases b:k<l.length
 ·repeat' first| (first|apply bn1|refine bpL (fun h=> ?_) fun h=> ?_|apply fE| (refine lN (l:=l.take k) (caps:=[.fQ (eN (l.getD k default))]) (p:=fun q=>aaM q (l.getD k default)) (by simp;omega) rfl (aE rfl) (PR ⟨zE rfl trivial rfl rfl rfl,trivial⟩) (fun x _ H nx K h=>RE h) ?_))<;>(simp only[go_sem];try simp (disch:=omega) only[Iw])|apply bn2 (by omega)|refine bnE (fun h=> ?_) fun h=> ?_|refine⟨by omega,?_⟩|fail
  all_goals first
   | (refine aZ d _ rfl rfl (j7 fun hm=> ?_);have:=(hm.2 k b);unfold V9 SF at this;omega)
   | (refine a _ _ _ ⟨k+1,by omega,iS hinv (by unfold V9 SF;omega)⟩ (by omega) (by(try dsimp only);omega) (bU (m5 _) (by repeat' first|exact bo2|refine xqI rfl rfl ?_|fail)))
 ·repeat' first|apply bn1<;>(simp only[go_sem])|apply bn3 (by omega)|fail
  have c:k=l.length:=by omega
  subst c;exact aZ d _ rfl rfl (pD ⟨fun h=>⟨h,hinv⟩,fun h=>h.1⟩)
theorem gH{q:Req}(h:K (dB (wrM q)) H nx):bNW eY [boR (eB q)] H nx K:=by
 refine aB.pure (args0:=[boR (eB q)]) (R:=fun a=>a=dB (wrM q)) ?_ rfl (aI ⟨aE rfl,trivial⟩) (fun r hr=>hr▸h);clear h;refine aN.mk Tryz.func299 (by kernel_rfl) D4 rfl fun Q b=> ?_;unfold lM;repeat' first| (first|apply bn1|refine bpL (fun h=> ?_) fun h=> ?_)<;>(simp only[go_sem])|fail
 all_goals first|with_reducible refine aZ b _ rfl rfl ?_|skip
 all_goals unfold wrM
 all_goals first|exact pD (by omega)|exact q9 (by omega)|exact j7 (by omega)|rfl
theorem LA(h:K (dB (decide (¬(0<=n/\n<=65535)))) H nx):bNW lX [boP n] H nx K:=by
 refine aB.pure (args0:=[boP n]) (R:=fun a=>a=dB (decide (¬(0<=n/\n<=65535)))) ?_ rfl (aI ⟨aE rfl,trivial⟩) (fun r hr=>hr▸h);clear h;refine aN.mk Tryz.func339 (by kernel_rfl) JH rfl fun Q b=> ?_;unfold o8;repeat' first| (first|apply bn1|apply U5)<;>(simp only[go_sem])|fail
 all_goals first|with_reducible refine aZ b _ rfl rfl ?_|skip
 all_goals first|exact pD (by omega)|exact q9 (by omega)|exact j7 (by omega)|rfl
theorem S7(h:K (dB (decide (¬(-1<=n/\n<=63)))) H nx):bNW rC [boP n] H nx K:=by
 refine aB.pure (args0:=[boP n]) (R:=fun a=>a=dB (decide (¬(-1<=n/\n<=63)))) ?_ rfl (aI ⟨aE rfl,trivial⟩) (fun r hr=>hr▸h);clear h;refine aN.mk Tryz.func279 (by kernel_rfl) OJ rfl fun Q b=> ?_;unfold vO;repeat' first| (first|apply bn1|apply fE)<;>(simp only[go_sem])|fail
 all_goals first|with_reducible refine aZ b _ rfl rfl ?_|skip
 all_goals first|exact pD (by omega)|exact q9 (by omega)|exact j7 (by omega)|rfl
theorem QA(h:K (dB (decide (¬(0<=n/\n<=3)))) H nx):bNW qK [boP n] H nx K:=by
 refine aB.pure (args0:=[boP n]) (R:=fun a=>a=dB (decide (¬(0<=n/\n<=3)))) ?_ rfl (aI ⟨aE rfl,trivial⟩) (fun r hr=>hr▸h);clear h;refine aN.mk Tryz.func272 (by kernel_rfl) OL rfl fun Q b=> ?_;unfold vK;repeat' first| (first|apply bn1|apply fE)<;>(simp only[go_sem])|fail
 all_goals first|with_reducible refine aZ b _ rfl rfl ?_|skip
 all_goals first|exact pD (by omega)|exact q9 (by omega)|exact j7 (by omega)|rfl
theorem S5(h:K (dB (decide (¬(0<=n/\n<=3)))) H nx):bNW rT [boP n] H nx K:=by
 refine aB.pure (args0:=[boP n]) (R:=fun a=>a=dB (decide (¬(0<=n/\n<=3)))) ?_ rfl (aI ⟨aE rfl,trivial⟩) (fun r hr=>hr▸h);clear h;refine aN.mk Tryz.func328 (by kernel_rfl) N5 rfl fun Q b=> ?_;unfold vC;repeat' first| (first|apply bn1|apply fE)<;>(simp only[go_sem])|fail
 all_goals first|with_reducible refine aZ b _ rfl rfl ?_|skip
 all_goals first|exact pD (by omega)|exact q9 (by omega)|exact j7 (by omega)|rfl
theorem vG{l:List Int}(hl:l.length<2^40){b:D}(a:CvD H (fun _=>True) id 0 (dS (l.map aJ)) b)(h:K (dB (decide (All l 0 65535))) H nx):bNW jB [b] H nx K:=by
 refine aB.pure (args0:=[dS (l.map aJ)]) (R:=fun c=>c=dB (decide (All l 0 65535))) ?_ rfl (aI ⟨a,trivial⟩) (fun r hr=>hr▸h);clear h;refine aN.mk Tryz.func327 (by kernel_rfl) L9 rfl fun Q d=> ?_;unfold sO;repeat' first| (first|apply bn1|refine d8 (caps:=[]) (p:=fun x=>decide (¬(0<=x/\x<=65535))) hl rfl (aE rfl) (kC rfl) (fun x _ H nx K h=>LA h) ?_)<;>(simp only[go_sem])|fail
 all_goals first|with_reducible refine aZ d _ rfl rfl ?_|skip
 all_goals exact pD KP.symm
theorem X0{l:List Int}(hl:l.length<2^40){b:D}(a:CvD H (fun _=>True) id 0 (boR [.isl (l.map aJ)]) b)(h:K (dB (decide ((l.length:Int)=64/\All l 0 65535))) H nx):bNW wP [b] H nx K:=by
 refine aB.pure (args0:=[boR [.isl (l.map aJ)]]) (R:=fun c=>c=dB (decide ((l.length:Int)=64/\All l 0 65535))) ?_ rfl (aI ⟨a,trivial⟩) (fun r hr=>hr▸h);clear h;refine aN.mk Tryz.func278 (by kernel_rfl) T7 rfl fun Q d=> ?_;unfold AK;repeat' first| (first|apply bn1|refine bpL (fun h=> ?_) fun h=> ?_|refine vG hl (aE rfl) ?_)<;>(simp only[go_sem])|fail
 all_goals first|with_reducible refine aZ d _ rfl rfl ?_|skip
 all_goals first|exact j7 (by grind)|exact pD (by grind)
theorem JZ{w:List Int}{u:List Int}(hw:w.length<2^40)(hu:u.length<2^40){b:D}(a:CvD H (fun _=>True) id 0 (boR [.isl (w.map aJ),.isl (u.map aJ)]) b)(h:K (dB (decide (JS w u))) H nx):bNW rG [b] H nx K:=by
 refine aB.pure (args0:=[boR [.isl (w.map aJ),.isl (u.map aJ)]]) (R:=fun c=>c=dB (decide (JS w u))) ?_ rfl (aI ⟨a,trivial⟩) (fun r hr=>hr▸h);clear h;refine aN.mk Tryz.func195 (by kernel_rfl) U4 rfl fun Q d=> ?_;unfold z3;repeat' first| (first|apply bn1|refine bpL (fun h=> ?_) fun h=> ?_|refine X0 hw (aE rfl) ?_|refine d8 (l:=u) (caps:=[]) (p:=fun x=>decide (¬(-1<=x/\x<=63))) hu rfl (aE rfl) (kC rfl) (fun x _ H nx K h=>S7 h) ?_)<;>(simp only[go_sem])|fail
 all_goals first|with_reducible refine aZ d _ rfl rfl ?_|skip
 all_goals first|exact j7 (by unfold JS;rw[KP (lo:=-1)];grind)|exact pD (by unfold JS;rw[KP (lo:=-1)];grind)
theorem W2{q:Req}(b:q.data.length<2^40)(hl:q.g6.length<2^40)(h:K (dB (decide (dH q))) H nx):bNW wD [boR (eB q)] H nx K:=by
 refine aB.pure (args0:=[boR (eB q)]) (R:=fun c=>c=dB (decide (dH q))) ?_ rfl (aI ⟨aE rfl,trivial⟩) (fun r hr=>hr▸h);clear h;refine aN.mk Tryz.func277 (by kernel_rfl) UO rfl fun Q a=> ?_;unfold zP;repeat' first| (first|apply bn1|refine bpL (fun h=> ?_) fun h=> ?_|apply fE|apply gH|apply wS|refine vG b (aE rfl) ?_|refine d8 (l:=q.g6) (caps:=[]) (p:=fun x=>decide (¬(0<=x/\x<=3))) hl rfl (aE rfl) (kC rfl) (fun x _ H nx K h=>S5 h) ?_)<;>(simp only[go_sem])| ((refine bnF (fun h=> ?_) (fun h=> ?_))<;>try subst h)|fail
 all_goals first|with_reducible refine aZ a _ rfl rfl ?_|skip
 all_goals
  have e:=@KP q.g6 0 3
  have d:wrM q=true↔(q.kind=2\/q.kind=4):=by simp[wrM]
  clear a
  first|exact j7 (by unfold dH n5;grind)|exact q9 (by unfold dH n5;grind)|exact pD (by unfold dH n5;grind)
theorem M0{q:Req}(a:q.data.length<2^40)(hl:q.g6.length<2^40)(h:K (dB (decide (¬dH q))) H nx):bNW nH [boR (eB q)] H nx K:=by
 refine aB.pure (args0:=[boR (eB q)]) (R:=fun b=>b=dB (decide (¬dH q))) ?_ rfl (aI ⟨aE rfl,trivial⟩) (fun r hr=>hr▸h);clear h;refine aN.mk Tryz.func276 (by kernel_rfl) J8 rfl fun Q c=> ?_;unfold rM;repeat' first| (first|apply bn1|apply W2 a hl)<;>(simp only[go_sem])|fail
 all_goals first|with_reducible refine aZ c _ rfl rfl ?_|skip
 all_goals first|exact pD (by omega)|exact q9 (by omega)|exact j7 (by omega)|rfl
theorem Q6{p:Prog}(hp:p.length<2^40)(a: ∀q∈p,q.data.length<2^40/\q.g6.length<2^40)(h:K (dB (decide (¬mV p))) H nx):bNW rR [dS (p.map eB)] H nx K:=by
 refine aB.pure (args0:=[dS (p.map eB)]) (R:=fun c=>c=dB (decide (¬mV p))) ?_ rfl (aI ⟨aE rfl,trivial⟩) (fun r hr=>hr▸h);clear h;refine aN.mk Tryz.func274 (by kernel_rfl) OD rfl fun Q d=> ?_;unfold u6;repeat' first| (first|apply bn1|refine bpL (fun h=> ?_) fun h=> ?_|refine nW (l:=p) (caps:=[]) (p:=fun q=>decide (¬dH q)) hp rfl (aE rfl) (kC rfl) (fun x b H nx K h=>M0 (a x b).1 (a x b).2 h) ?_)<;>(simp only[go_sem])|fail
 all_goals first|with_reducible refine aZ d _ rfl rfl ?_|skip
 all_goals first|exact q9 (by unfold mV;grind)|exact j7 (by unfold mV;grind)|exact pD (by unfold mV;grind)
theorem W6{c:Cfg}(hc:jO c)(h:K (dB (decide (aQ c))) H nx):bNW wF [boR (cU c)] H nx K:=by
 refine aB.pure (args0:=[boR (cU c)]) (R:=fun b=>b=dB (decide (aQ c))) ?_ rfl (aI ⟨aE rfl,trivial⟩) (fun r hr=>hr▸h);clear h;refine aN.mk Tryz.func194 (by kernel_rfl) T6 rfl fun Q d=> ?_;unfold z4;repeat' first| (first|apply bn1|refine bpL (fun h=> ?_) fun h=> ?_|apply YK hc.map|refine d8 (l:=c.lat) (caps:=[]) (p:=fun x=>decide (¬(0<=x/\x<=3))) hc.lat rfl (aE rfl) (kC rfl) (fun x _ H nx K h=>QA h) ?_|refine mS (l:=c.cP) (caps:=[]) (p:=fun q=>decide (¬mV q)) hc.cP rfl (aE rfl) (kC rfl) (fun x a H nx K h=>Q6 (hc.prog x a) (hc.req x a) h) ?_)<;>(simp only[go_sem])|fail
 all_goals first|with_reducible refine aZ d _ rfl rfl ?_|skip
 all_goals
  have e:=@KP c.lat 0 3
  first|exact q9 (by unfold aQ;grind)|exact j7 (by unfold aQ;grind)|exact pD (by unfold aQ;grind)
theorem iJ{c:Cfg}{who:Int}(hp:c.cP.length=3)(a:oA c who n)(h:K (boP (bT c who n).id) H nx):bNW fB [boR (cU c),boP who,boP n] H nx K:=by
 refine aB.pure (args0:=[boR (cU c),boP who,boP n]) (R:=fun b=>b=boP (bT c who n).id) ?_ rfl (aI ⟨aE rfl,aE rfl,aE rfl,trivial⟩) (fun r hr=>hr▸h);clear h;refine aN.mk Tryz.func280 (by kernel_rfl) KU rfl fun Q d=> ?_;unfold rD;obtain⟨e,f,g⟩:=a;repeat' first|apply bn1<;>(simp only[go_sem])|refine⟨by omega,?_⟩|fail
 all_goals first|with_reducible refine aZ d _ rfl rfl ?_|skip
 all_goals first|rfl|exact qA (by omega)
end
attribute [go_sem] Y5
section
variable{H:aA}{nx:Nat}{K:bNX}
theorem PG{a:Int}(h:K (dB false) H nx):bNW lG [boP a] H nx K:=by
 refine aB.pure (args0:=[boP a]) (R:=fun b=>b=dB false) ?_ rfl (aI ⟨aE rfl,trivial⟩) (fun r hr=>hr▸h);clear h;refine aN.mk Tryz.func305 (by kernel_rfl) M6 rfl fun Q c=> ?_;unfold sW;repeat' first|apply bn1<;>(simp only[go_sem])|fail
 all_goals first|with_reducible refine aZ c _ rfl rfl ?_|skip
 all_goals first|rfl|simp
def UI(a b:Int):Int:=if a<b then-1 else if a>b then 1 else 0
theorem KI{a:Int}{b:Int}(h:K (boP (UI a b)) H nx):bNW jC [boP a,boP b] H nx K:=by
 refine aB.pure (args0:=[boP a,boP b]) (R:=fun c=>c=boP (UI a b)) ?_ rfl (aI ⟨aE rfl,aE rfl,trivial⟩) (fun r hr=>hr▸h);clear h;refine aN.mk Tryz.func227 (by kernel_rfl) JD rfl fun Q d=> ?_;unfold pI;repeat' first| (first|apply bn1|apply PG)<;>(simp only[go_sem])|refine bnE (fun h=> ?_) fun h=> ?_|fail
 all_goals first|with_reducible refine aZ d _ rfl rfl ?_|skip
 all_goals exact qA (by unfold UI;grind)
def orI(a b:Int):Int:=if a≠0 then a else b
theorem WX{a:Int}{b:Int}{e:D}(c:CvD H (fun _=>True) id 0 (dS [aJ a,aJ b]) e)(h:K (boP (orI a b)) H nx):bNW wC [e] H nx K:=by
 refine aB.pure (args0:=[dS [aJ a,aJ b]]) (R:=fun j=>j=boP (orI a b)) ?_ rfl (aI ⟨c,trivial⟩) (fun r hr=>hr▸h);clear h;refine aN.mk Tryz.func226 (by kernel_rfl) UR rfl fun Q f=> ?_;unfold z6;obtain⟨l,hl⟩: ∃l,l=[a,b]:=⟨_,rfl⟩
 have he:[aJ a,aJ b]=l.map aJ:=by rw[hl];rfl
 have hlen:l.length=2:=by rw[hl];rfl
 rw[he];repeat' first|apply bn1<;>(simp only[go_sem])|fail
 (refine aM.loop (α:={k:Nat//k<=2/\(∀i,i<k->l.getD i default=0)}) (fun u=>en [(8,boP u.1),(7,boP 2),(6,dS (l.map aJ)),(3,boP 0)]) (fun _=>.nil) _ (fun u=>2-u.1) ⟨0,by omega,(by intros;first|trivial|omega)⟩ (bU (m5 _) (by repeat' first|exact bo2|refine xqI rfl rfl ?_|refine xqV rfl (by omega) ?_|fail)) ?_);(rintro⟨k,g,hinv⟩ bpQ d);by_cases m:k<2
 ·repeat' first|apply bn1<;>(simp only[go_sem];try simp (disch:=omega) only[Iw])|apply bn2 (by omega)|refine bnE (fun h=> ?_) fun h=> ?_|refine⟨by omega,?_⟩|fail
  ·refine aZ f (boP _) rfl rfl (qA ?_);have g:k=0\/k=1:=(by omega);have n:=hinv 0;rcases g with rfl|rfl<;>simp[hl,List.getD] at* <;>simp_all [orI]
  · (refine d _ _ _ ⟨k+1,by omega,iS hinv (by omega)⟩ (by omega) (by(try dsimp only);omega) (bU (m5 _) (by repeat' first|exact bo2|refine xqI rfl rfl ?_|fail)))
 ·repeat' first|apply bn1<;>(simp only[go_sem])|apply bn3 (by omega)|fail
  refine aZ f (boP _) rfl rfl (qA ?_);have n:=hinv 0 (by omega);have o:=hinv 1 (by omega);simp[hl,List.getD] at* <;>simp_all [orI]
def ad5(a b:Job):Int:=orI (UI a.who b.who) (UI a.n b.n)
theorem E7{a b:Job}:ad5 a b<0↔uL a b=true:=by rw[qL];unfold ad5 orI UI;grind
theorem xM{a:Job}{b:Job}(h:K (boP (ad5 a b)) H nx):bNW bJ [boR (aS a),boR (aS b)] H nx K:=by
 refine aB.pure (args0:=[boR (aS a),boR (aS b)]) (R:=fun c=>c=boP (ad5 a b)) ?_ rfl (aI ⟨aE rfl,aE rfl,trivial⟩) (fun r hr=>hr▸h);clear h;refine aN.mk Tryz.func136 (by kernel_rfl) HE rfl fun Q d=> ?_;unfold nP;repeat' first| (first|apply bn1|apply KI|refine WX (DJ (rows:=[aJ (UI a.who b.who),aJ (UI a.n b.n)]) (aG bF [UI a.who b.who,UI a.n b.n]) rfl trivial rfl rfl rfl (m5 2)) ?_)<;>(simp only[go_sem])|fail
 all_goals first|with_reducible refine aZ d _ rfl rfl ?_|skip
 all_goals first|rfl|exact qA (by omega)
theorem BI(l:List Int)(hl:l.length<2^21):bNW gO [dS (l.map aJ)] (hp []) 0
 fun r H' e=>∃cap,l.length<=cap/\e=1/\H'=hp [(0,⟨1,cap,l.map aJ⟩)]/\r=boQ 1 0 l.length cap:=by
 refine aN.mk Tryz.func262 (by kernel_rfl) AB rfl fun Q c=> ?_
 unfold jL
 refine aM.seq (aM.EJ 1 ?_)
 repeat' first|apply bn1<;>(simp only[go_sem])|refine bpI (fun h=> ?_) fun h=> ?_| (with_reducible first|refine fun(cap:Nat) (d:_<=cap)=> ?_|refine fun(f:_<=cap)=> ?_|refine fun(b:Bool)=> ?_)| ((refine bnF (fun h=> ?_) (fun h=> ?_))<;>try subst h)|refine⟨by omega,?_⟩|fail
 all_goals first
  | (have a:=m5 cap
     (refine c _ _ _ _ _ 1 (boQ 1 0 l.length cap) (hp [(0,⟨1,cap,l.map aJ⟩)]) _ _ (.inr rfl) rfl (fU [6] (by omega) (by repeat' first|exact bo2| ((with_reducible apply bo0);exact bpB (by omega) rfl rfl (by rfl) rfl)| ((with_reducible apply bo1);apply bo7)|fail) ⟨⟨by simp,by simp[sgL],_,rfl,bP (aG bF _) rfl rfl⟩,trivial⟩ (by simp[sgL])) ?_)
     exact⟨cap,by omega,rfl,rfl,rfl⟩)
  | (have g:l=[]:=CE (by omega)
     subst g
     (refine c _ _ _ _ _ 1 (boQ 1 0 0 0) (hp [(0,⟨1,0,([]:List Int).map aJ⟩)]) _ _ (.inr rfl) rfl (fU [0] (by omega) (by repeat' first|exact bo2| ((with_reducible apply bo0);exact bpA)| ((with_reducible apply bo1);apply bo7)|fail) ⟨⟨by simp,by simp[sgL],_,rfl,bP (aG bF _) rfl rfl⟩,trivial⟩ (by simp[sgL])) ?_)
     exact⟨0,m5 _,rfl,rfl,rfl⟩)
variable{l:List Int}
theorem A1(hl:l.length<2^21)(h: ∀cap,l.length<=cap->K (boQ 1 nx l.length cap) (H.set nx ⟨1,cap,l.map aJ⟩) (nx+1)):bNW gO [dS (l.map aJ)] H nx K:=by
 refine(BI l hl).AF (l0:=[]) [] rfl ⟨aE rfl,trivial⟩ trivial (by simp) (by simp) (by simp) fun r H' e _ ⟨cap,bqB,a,b,c⟩=> ?_;have h:=h cap bqB;subst a;subst b;subst c;have d:back (tau 0 nx (nth [])) (hp [(0,⟨1,cap,l.map aJ⟩)]) 1 H=H.set nx ⟨1,cap,l.map aJ⟩:=by simp only[back,hp,aA.set,tau,bq2,if_true,if_false,Nat.sub_zero,Nat.add_zero,Option.map_some,uB,aA.eL]
 rw[<-d] at h;exact h
theorem B2(l:List Int)(cap m:Nat)(hl:l.length<2^21)(hc:l.length<=cap):bNW iD [boQ 1 0 l.length cap] (hp [(0,⟨1,m,l.map aJ⟩)]) 1
 fun r H' a=>a=1/\ ∃o',H'=hp [(0,o')]/\C7 o'/\o'=⟨1,m,l.map aJ⟩/\r=boQ 1 0 l.length l.length:=by
 refine aN.mk Tryz.func261 (by kernel_rfl) A6 rfl fun Q b=> ?_
 unfold kB
 repeat' first|apply bn1<;>(simp only[go_sem])|refine⟨by omega,?_⟩|fail
 exact lA b (boQ 1 0 l.length l.length) _ _ rfl (by repeat' first|exact bo2| ((with_reducible apply bo0);exact bpB (by omega) rfl rfl (by rfl) rfl)| ((with_reducible apply bo1);apply bo7)|fail) rfl (oB bF _) ⟨rfl,rfl⟩
theorem BY{cap m i:Nat}(hl:l.length<2^21)(hc:l.length<=cap)(hi:i<nx)(a:H i=some ⟨1,m,l.map aJ⟩)(h:K (boQ 1 i l.length l.length) (H.set i ⟨1,m,l.map aJ⟩) nx):
 bNW iD [boQ 1 i l.length cap] H nx K:=
 (B2 l cap m hl hc).OU i rfl (gW ⟨qS (by omega) rfl rfl rfl rfl,trivial⟩) hi a (oB bF _) fun r o' ⟨b,c⟩=>by subst b;subst c;exact h
theorem NI(l:List Int)(hl:l.length<2^21):bNW eX [dS (l.map aJ)] (hp []) 0
 fun r H' b=>∃cap,l.length<=cap/\b=1/\H'=hp [(0,⟨1,cap,l.map aJ⟩)]/\r=boQ 1 0 l.length l.length:=by
 refine aN.mk Tryz.func185 (by kernel_rfl) KH rfl fun Q c=> ?_
 unfold rI
 repeat' first| (first|apply bn1|refine A1 hl (fun cap a=> ?_)|refine BY hl a (by omega) rfl ?_)<;>(simp only[go_sem])|fail
 (refine c _ _ _ _ _ 1 (boQ 1 0 l.length l.length) (hp [(0,⟨1,cap,l.map aJ⟩)]) _ _ (.inr rfl) rfl (fU [5] (by omega) (by repeat' first|exact bo2| ((with_reducible apply bo0);exact bpB (by omega) rfl rfl (by rfl) rfl)| ((with_reducible apply bo1);apply bo7)|fail) ⟨⟨by simp,by simp[sgL],_,rfl,bP (aG bF _) rfl rfl⟩,trivial⟩ (by simp[sgL])) ?_)
 exact⟨cap,a,rfl,rfl,rfl⟩
theorem kH(hl:l.length<2^21)(h: ∀m,l.length<=m->K (boQ 1 nx l.length l.length) (H.set nx ⟨1,m,l.map aJ⟩) (nx+1)):bNW eX [dS (l.map aJ)] H nx K:=by
 refine(NI l hl).AF (l0:=[]) [] rfl ⟨aE rfl,trivial⟩ trivial (by simp) (by simp) (by simp) fun r H' e _ ⟨cap,bqB,a,b,c⟩=> ?_;have h:=h cap bqB;subst a;subst b;subst c;have d:back (tau 0 nx (nth [])) (hp [(0,⟨1,cap,l.map aJ⟩)]) 1 H=H.set nx ⟨1,cap,l.map aJ⟩:=by simp only[back,hp,aA.set,tau,bq2,if_true,if_false,Nat.sub_zero,Nat.add_zero,Option.map_some,uB,aA.eL]
 rw[<-d] at h;exact h
theorem BB{τ:Nat->Nat}{n m:Nat}{l:List Job}:bA.rn τ ⟨n,m,l.map aS⟩=⟨n,m,l.map aS⟩:=by refine rF fun r hr x a=> ?_;obtain⟨y,_,rfl⟩:=CF.1 hr;exact w2.1 (dZ y).2 x a
theorem uW(l:List Job)(hl:l.length<2^21):bNW eG [dS (l.map aS)] (hp []) 0
 fun r H' e=>∃cap,l.length<=cap/\e=1/\H'=hp [(0,⟨5,cap,l.map aS⟩)]/\r=boQ 5 0 l.length cap:=by
 refine aN.mk Tryz.func318 (by kernel_rfl) sU rfl fun Q c=> ?_
 unfold gC
 refine aM.seq (aM.EJ 5 ?_)
 repeat' first|apply bn1<;>(simp only[go_sem])|refine bpI (fun h=> ?_) fun h=> ?_| (with_reducible first|refine fun(cap:Nat) (d:_<=cap)=> ?_|refine fun(f:_<=cap)=> ?_|refine fun(b:Bool)=> ?_)| ((refine bnF (fun h=> ?_) (fun h=> ?_))<;>try subst h)|refine⟨by omega,?_⟩|fail
 all_goals first
  | (have a:=m5 cap
     (refine c _ _ _ _ _ 1 (boQ 5 0 l.length cap) (hp [(0,⟨5,cap,l.map aS⟩)]) _ _ (.inr rfl) rfl (fU [6] (by omega) (by repeat' first|exact bo2| ((with_reducible apply bo0);exact bpB (by omega) rfl rfl (by rfl) rfl)| ((with_reducible apply bo1);apply bo7)|fail) ⟨⟨by simp,by simp[sgL],_,rfl,bP (aG dZ _) rfl rfl⟩,trivial⟩ (by simp[sgL])) ?_)
     exact⟨cap,by omega,rfl,rfl,rfl⟩)
  | (have g:l=[]:=CE (by omega)
     subst g
     (refine c _ _ _ _ _ 1 (boQ 5 0 0 0) (hp [(0,⟨5,0,([]:List Job).map aS⟩)]) _ _ (.inr rfl) rfl (fU [0] (by omega) (by repeat' first|exact bo2| ((with_reducible apply bo0);exact bpA)| ((with_reducible apply bo1);apply bo7)|fail) ⟨⟨by simp,by simp[sgL],_,rfl,bP (aG dZ _) rfl rfl⟩,trivial⟩ (by simp[sgL])) ?_)
     exact⟨0,m5 _,rfl,rfl,rfl⟩)
theorem t0{l:List Job}(hl:l.length<2^21)(h: ∀cap,l.length<=cap->K (boQ 5 nx l.length cap) (H.set nx ⟨5,cap,l.map aS⟩) (nx+1)):bNW eG [dS (l.map aS)] H nx K:=by
 refine(uW l hl).AF (l0:=[]) [] rfl ⟨aE rfl,trivial⟩ trivial (by simp) (by simp) (by simp) fun r H' e _ ⟨cap,bqB,a,b,c⟩=> ?_;have h:=h cap bqB;subst a;subst b;subst c;have d:back (tau 0 nx (nth [])) (hp [(0,⟨5,cap,l.map aS⟩)]) 1 H=H.set nx ⟨5,cap,l.map aS⟩:=by simp only[back,hp,aA.set,tau,bq2,if_true,if_false,Nat.sub_zero,Nat.add_zero,Option.map_some,BB,aA.eL]
 rw[<-d] at h;exact h
theorem vP(l:List Job)(cap m:Nat)(hl:l.length<2^21)(hc:l.length<=cap):bNW eS [boQ 5 0 l.length cap] (hp [(0,⟨5,m,l.map aS⟩)]) 1
 fun r H' a=>a=1/\ ∃o',H'=hp [(0,o')]/\C7 o'/\o'=⟨5,m,l.map aS⟩/\r=boQ 5 0 l.length l.length:=by
 refine aN.mk Tryz.func317 (by kernel_rfl) uF rfl fun Q b=> ?_
 unfold gI
 repeat' first|apply bn1<;>(simp only[go_sem])|refine⟨by omega,?_⟩|fail
 exact lA b (boQ 5 0 l.length l.length) _ _ rfl (by repeat' first|exact bo2| ((with_reducible apply bo0);exact bpB (by omega) rfl rfl (by rfl) rfl)| ((with_reducible apply bo1);apply bo7)|fail) rfl (oB dZ _) ⟨rfl,rfl⟩
theorem vN{l:List Job}{cap m i:Nat}(hl:l.length<2^21)(hc:l.length<=cap)(hi:i<nx)(a:H i=some ⟨5,m,l.map aS⟩)(h:K (boQ 5 i l.length l.length) (H.set i ⟨5,m,l.map aS⟩) nx):
 bNW eS [boQ 5 i l.length cap] H nx K:=
 (vP l cap m hl hc).OU i rfl (gW ⟨qS (by omega) rfl rfl rfl rfl,trivial⟩) hi a (oB dZ _) fun r o' ⟨b,c⟩=>by subst b;subst c;exact h
theorem zN(l:List Job)(hl:l.length<2^21):bNW gG [dS (l.map aS)] (hp []) 0
 fun r H' b=>∃cap,l.length<=cap/\b=1/\H'=hp [(0,⟨5,cap,l.map aS⟩)]/\r=boQ 5 0 l.length l.length:=by
 refine aN.mk Tryz.func260 (by kernel_rfl) yR rfl fun Q c=> ?_
 unfold i6
 repeat' first| (first|apply bn1|refine t0 hl (fun cap a=> ?_)|refine vN hl a (by omega) rfl ?_)<;>(simp only[go_sem])|fail
 (refine c _ _ _ _ _ 1 (boQ 5 0 l.length l.length) (hp [(0,⟨5,cap,l.map aS⟩)]) _ _ (.inr rfl) rfl (fU [5] (by omega) (by repeat' first|exact bo2| ((with_reducible apply bo0);exact bpB (by omega) rfl rfl (by rfl) rfl)| ((with_reducible apply bo1);apply bo7)|fail) ⟨⟨by simp,by simp[sgL],_,rfl,bP (aG dZ _) rfl rfl⟩,trivial⟩ (by simp[sgL])) ?_)
 exact⟨cap,a,rfl,rfl,rfl⟩
theorem z7{l:List Job}(hl:l.length<2^21)(h: ∀m,l.length<=m->K (boQ 5 nx l.length l.length) (H.set nx ⟨5,m,l.map aS⟩) (nx+1)):bNW gG [dS (l.map aS)] H nx K:=by
 refine(zN l hl).AF (l0:=[]) [] rfl ⟨aE rfl,trivial⟩ trivial (by simp) (by simp) (by simp) fun r H' e _ ⟨cap,bqB,a,b,c⟩=> ?_;have h:=h cap bqB;subst a;subst b;subst c;have d:back (tau 0 nx (nth [])) (hp [(0,⟨5,cap,l.map aS⟩)]) 1 H=H.set nx ⟨5,cap,l.map aS⟩:=by simp only[back,hp,aA.set,tau,bq2,if_true,if_false,Nat.sub_zero,Nat.add_zero,Option.map_some,BB,aA.eL]
 rw[<-d] at h;exact h
theorem O0(l:List Job)(hl:l.length<2^21)(f: ∀j∈l,j.rsp.data.length<2^21):bNW eO [dS (l.map aS)] (hp []) 0
 fun r H' g=>∃cap,l.length<=cap/\g=1/\H'=hp [(0,⟨5,cap,l.map aS⟩)]/\r=boQ 5 0 l.length l.length:=by
 refine aN.mk Tryz.func184 (by kernel_rfl) MI rfl fun Q h=> ?_
 unfold tD
 repeat' first| (first|apply bn1|refine z7 hl (fun m0 c=> ?_))<;>(simp only[go_sem])|fail
 refine aM.sG 1 (β:=Nat) (fun b k=>en [(10,boP k),(9,boP l.length),(8,boQ 5 b l.length l.length),(3,boQ 5 b l.length l.length)])
  (fun b k=>hp [(b,⟨5,m0,l.map aS⟩)]) (fun k=>k<=l.length) (fun k=>l.length-k) 0 (by(refine cR [4] (by omega) (by repeat' first|exact bo2|refine xqI rfl rfl ?_|refine xqO (by omega) rfl rfl (by rfl) ?_|fail) ⟨⟨by simp,by simp[sgL],_,rfl,bP (aG dZ _) rfl rfl⟩,trivial⟩ (by simp[sgL]))) (by omega) ?_
 rintro k i bpQ d
 by_cases a:k<l.length
 ·have e:=f _ (cC a);repeat' first| (first|apply bn1|refine kH e (fun m hm=> ?_))<;>(simp only[go_sem];try simp (disch:=omega) only[Iw])|apply bn2 (by omega)|refine⟨by omega,?_⟩|fail
  exact d _ _ _ (k+1) (by omega) (by(refine cR [8] (by omega) (by repeat' first|exact bo2|refine xqI rfl rfl ?_|refine xqO (by omega) rfl rfl (by rfl) ?_|fail) ⟨⟨by simp,by simp[sgL],_,rfl,ak7 (R:=l.map aS) (r':=aS (l.getD k default)) rfl rfl (atN a) (fun r hr=>(aG dZ l r hr).2) rfl (aH (bB rfl) (aH (bB rfl) (aH (bB rfl) (aH (bB rfl) (aH (bW bF rfl rfl (m5 _) (by simp)) eP)))))⟩,trivial⟩ (by simp[sgL]))) (by omega) (by omega)
 ·repeat' first|apply bn1<;>(simp only[go_sem])|apply bn3 (by omega)|fail
  (refine h _ _ _ _ _ 1 (boQ 5 0 l.length l.length) (hp [(0,⟨5,m0,l.map aS⟩)]) _ _ (.inr rfl) rfl (fU [8] (by omega) (by repeat' first|exact bo2| ((with_reducible apply bo0);exact bpB (by omega) rfl rfl (by rfl) rfl)| ((with_reducible apply bo1);apply bo7)|fail) ⟨⟨by simp,by simp[sgL],_,rfl,bP (aG dZ _) rfl rfl⟩,trivial⟩ (by simp[sgL])) ?_);exact⟨m0,c,rfl,rfl,rfl⟩
theorem gY{l:List Job}(hl:l.length<2^21)(a: ∀j∈l,j.rsp.data.length<2^21)(h: ∀m,l.length<=m->K (boQ 5 nx l.length l.length) (H.set nx ⟨5,m,l.map aS⟩) (nx+1)):bNW eO [dS (l.map aS)] H nx K:=by
 refine(O0 l hl a).AF (l0:=[]) [] rfl ⟨aE rfl,trivial⟩ trivial (by simp) (by simp) (by simp) fun r H' f _ ⟨cap,bqB,b,c,d⟩=> ?_;have h:=h cap bqB;subst b;subst c;subst d;have e:back (tau 0 nx (nth [])) (hp [(0,⟨5,cap,l.map aS⟩)]) 1 H=H.set nx ⟨5,cap,l.map aS⟩:=by simp only[back,hp,aA.set,tau,bq2,if_true,if_false,Nat.sub_zero,Nat.add_zero,Option.map_some,BB,aA.eL]
 rw[<-e] at h;exact h
theorem B1(w u:List Int)(hw:w.length<2^21)(hu:u.length<2^21):bNW fL [boR [.isl (w.map aJ),.isl (u.map aJ)]] (hp []) 0
 fun r H' c=>∃m0 m1,w.length<=m0/\u.length<=m1/\c=2/\H'=hp [(0,⟨1,m0,w.map aJ⟩),(1,⟨1,m1,u.map aJ⟩)]/\r=boR [.osl 1 0 0 w.length w.length,.osl 1 1 0 u.length u.length]:=by
 refine aN.mk Tryz.func181 (by kernel_rfl) BE rfl fun Q d=> ?_
 unfold kI
 repeat' first| (first|apply bn1|refine kH hw (fun m0 a=> ?_)|refine kH hu (fun m1 b=> ?_))<;>(simp only[go_sem])|fail
 (refine d _ _ _ _ _ 2 (boR [.osl 1 0 0 w.length w.length,.osl 1 1 0 u.length u.length]) (hp [(0,⟨1,m0,w.map aJ⟩),(1,⟨1,m1,u.map aJ⟩)]) _ _ (.inr rfl) rfl (fU [12,13] (by omega) (by repeat' first|exact bo2| ((with_reducible apply bo0);exact bpB (by omega) rfl rfl (by rfl) rfl)| ((with_reducible apply bo1);apply bo6)|exact bo4|apply bo5|fail) ⟨⟨by simp,by simp[sgL],_,rfl,bP (aG bF _) rfl rfl⟩,⟨by simp,by simp[sgL],_,rfl,bP (aG bF _) rfl rfl⟩,trivial⟩ (by simp[sgL])) ?_)
 exact⟨m0,m1,a,b,rfl,rfl,rfl⟩
theorem qN{w u:List Int}(hw:w.length<2^21)(hu:u.length<2^21)(h: ∀m0 m1,w.length<=m0->u.length<=m1->K (boR [.osl 1 nx 0 w.length w.length,.osl 1 (nx+1) 0 u.length u.length]) ((H.set nx ⟨1,m0,w.map aJ⟩).set (nx+1) ⟨1,m1,u.map aJ⟩) (nx+2)):bNW fL [boR [.isl (w.map aJ),.isl (u.map aJ)]] H nx K:=by
 refine(B1 w u hw hu).AF (l0:=[]) [] rfl ⟨aE rfl,trivial⟩ trivial (by simp) (by simp) (by simp) fun r H' f _ ⟨m0,m1,bqB,a,b,c,d⟩=> ?_;have h:=h m0 m1 bqB a;subst b;subst c;subst d;have e:back (tau 0 nx (nth [])) (hp [(0,⟨1,m0,w.map aJ⟩),(1,⟨1,m1,u.map aJ⟩)]) 2 H=(H.set nx ⟨1,m0,w.map aJ⟩).set (nx+1) ⟨1,m1,u.map aJ⟩:=by simp[back,hp,aA.set,aA.nil,tau,nth,uB,BB,aA.eL,aA.yI]
 rw[<-e] at h;exact h
def oIm(i0 bO6 bO7 bPV bPW bPX c0 bPB c2 bPO bPY bPZ:Nat)(s:TSt):List D1:=[.osl 1 i0 0 s.words.length c0,.osl 1 bO6 0 s.holds.length bPB,.osl 1 bO7 0 s.asked.length c2,.osl 5 bPV 0 s.wait.length bPO,.osl 5 bPW 0 s.done.length bPY,.osl 5 bPX 0 s.told.length bPZ]
theorem BG{x:Int}(hl:l.length<2^40){c:D}(a:CvD H (fun _=>True) id 0 (dS (l.map aJ)) c)(h:K (boP (bK (fun y=>decide (x=y)) l)) H nx):bNW gN [c,boP x] H nx K:=by
 refine aB.pure (args0:=[dS (l.map aJ),boP x]) (R:=fun e=>e=boP (bK (fun y=>decide (x=y)) l)) ?_ rfl (aI ⟨a,aE rfl,trivial⟩) (fun r hr=>hr▸h);clear h;refine aN.mk Tryz.func333 (by kernel_rfl) zS rfl fun Q d=> ?_;unfold jQ;repeat' first|apply bn1<;>(simp only[go_sem])|fail
 (refine aM.loop (α:={k:Nat//k<=l.length/\(∀i,i<k->(fun y=>decide (x=y)) (l.getD i default)=false)}) (fun u=>en [(8,boP u.1),(7,boP l.length),(1,boP x),(0,dS (l.map aJ))]) (fun _=>.nil) _ (fun u=>l.length-u.1) ⟨0,by omega,(by intros;first|trivial|omega)⟩ (bU (m5 _) (by repeat' first|exact bo2|refine xqI rfl rfl ?_|fail)) ?_);(rintro⟨k,g,hinv⟩ bpQ b);by_cases f:k<l.length
 ·repeat' first|apply bn1<;>(simp only[go_sem];try simp (disch:=omega) only[Iw])|apply bn2 (by omega)|refine bnE (fun h=> ?_) fun h=> ?_|refine⟨by omega,?_⟩|fail
  ·refine aZ d _ rfl rfl (qA (bq3 (CU (by omega) (decide_eq_true (by assumption)) hinv)))
  · (refine b _ _ _ ⟨k+1,by omega,iS hinv (decide_eq_false (by assumption))⟩ (by omega) (by(try dsimp only);omega) (bU (m5 _) (by repeat' first|exact bo2|refine xqI rfl rfl ?_|fail)))
 ·repeat' first|apply bn1<;>(simp only[go_sem])|apply bn3 (by omega)|fail
  refine aZ d (boP _) rfl rfl (qA (bq3 (tI fun i hi=>hinv i (by omega))))
theorem x8{x:Int}(hl:l.length<2^40){b:D}(a:CvD H (fun _=>True) id 0 (dS (l.map aJ)) b)(h:K (dB (decide (x∈l))) H nx):bNW fK [b,boP x] H nx K:=by
 refine aB.pure (args0:=[dS (l.map aJ),boP x]) (R:=fun c=>c=dB (decide (x∈l))) ?_ rfl (aI ⟨a,aE rfl,trivial⟩) (fun r hr=>hr▸h);clear h;refine aN.mk Tryz.func302 (by kernel_rfl) wI rfl fun Q d=> ?_;unfold iC;repeat' first| (first|apply bn1|refine BG hl (aE rfl) ?_)<;>(simp only[go_sem])|fail
 all_goals first|with_reducible refine aZ d _ rfl rfl ?_|skip
 all_goals refine pD (cH.trans ⟨fun⟨y,e,he⟩=> ?_,fun h=>⟨x,h,by simp⟩⟩)
 all_goals have:=of_decide_eq_true he;subst this;exact e
theorem XT{f:Nat->Int}{n k:Nat}{x:Int}(c:k<n)(a:x=f k):((List.range k).map f++List.replicate (n-k) (0:Int)).set k x=(List.range (k+1)).map f++List.replicate (n-(k+1)) 0:=by
 have e:n-k=(n-(k+1))+1:=by omega
 have b:((List.range k).map f).length=k:=by simp
 rw[bsB,b,if_neg (br6 k),brJ,e,List.replicate_succ,List.set_cons_zero,brP,bqX,C0,a];rfl
theorem OQ{addr:Int}{many:Int}{wrap:Bool}(h:K (dS ((bE addr many wrap).map aJ)) H nx):bNW oS [boP addr,boP many,dB wrap] H nx K:=by
 refine aB.fresh (R:=fun i=>i=dS ((bE addr many wrap).map aJ)) ?_ rfl (fun r hr=>hr▸h);clear h;refine aN.mk Tryz.func332 (by kernel_rfl) L6 rfl fun Q g=> ?_;unfold s6;by_cases a:o7 addr many wrap
 ·obtain⟨bpR,j,bpS,bpT,bpU,bpV,bpW,bpX⟩:=aaA a;repeat' first| (first|apply bn1|apply wS)<;>(simp only[go_sem,bpV,eq_true a])|refine⟨by omega,?_⟩|fail
  refine aM.sG 1 (β:=Nat) (fun b k=>en [(18,boP k),(17,boP many),(7,boQ 1 b many.toNat many.toNat),(2,dB wrap),(1,boP many),(0,boP addr)])
   (fun b k=>hp [(b,⟨1,many.toNat,((List.range k).map (bAt addr many wrap)++List.replicate (many.toNat-k) (0:Int)).map aJ⟩)]) (fun k=>k<=many.toNat) (fun k=>many.toNat-k) 0 ?_ (by omega) ?_
  · (refine cR [7] (by omega) (by repeat' first|exact bo2|refine xqI rfl rfl ?_|refine xqO (by omega) rfl rfl (by rfl) ?_|refine xqV rfl (by omega) ?_|fail) ⟨⟨by simp,by simp[sgL],_,rfl,bP (aG bF _) (by simp[aJ]) rfl⟩,trivial⟩ (by simp[sgL]))
  intro k o bpQ d;have hlen:((List.range k).map (bAt addr many wrap)++List.replicate (many.toNat-k) (0:Int)).length=many.toNat:=by simp;omega
  by_cases c:k<many.toNat
  ·obtain⟨p,q,s⟩:=agW a k c;have e:(addr+k).tmod many=(addr+k)%many:=brF (by omega);have m:=Int.emod_lt_of_pos (addr+k) j;have n:=Int.emod_nonneg (addr+k) bpR;repeat' first|apply bn1<;>(simp only[go_sem,bpV,e,bq1,hlen];try simp (disch:=omega) only[Iw])|apply bn2 (by omega)| ((refine bnF (fun h=> ?_) (fun h=> ?_))<;>try subst h)|refine⟨by omega,?_⟩|fail
   ·exact d _ _ _ (k+1) (by omega) (by(refine cR [12] (by omega) (by repeat' first|exact bo2|refine xqI rfl rfl ?_|refine xqO (by omega) rfl rfl (by rfl) ?_|fail) ⟨⟨by simp,by simp[sgL],_,rfl,bP (aG bF _) (congrArg _ (XT c (by simp only[bAt,if_true])).symm) rfl⟩,trivial⟩ (by simp[sgL]))) (by omega) (by omega)
   ·exact d _ _ _ (k+1) (by omega) (by(refine cR [12] (by omega) (by repeat' first|exact bo2|refine xqI rfl rfl ?_|refine xqO (by omega) rfl rfl (by rfl) ?_|fail) ⟨⟨by simp,by simp[sgL],_,rfl,bP (aG bF _) (congrArg _ (XT c (by simp[bAt])).symm) rfl⟩,trivial⟩ (by simp[sgL]))) (by omega) (by omega)
  ·repeat' first|apply bn1<;>(simp only[go_sem])|apply bn3 (by omega)|fail
   have f:k=many.toNat:=(by omega);subst f;exact V4 g (dS ((bE addr many wrap).map aJ)) _ rfl (yP (l:=bE addr many wrap) bF (by simp[bE,a];rfl) (DF a).symm (by rw[DF a];omega) trivial) rfl rfl
 ·repeat' first| (first|apply bn1|apply wS)<;>(simp only[go_sem,eq_false a])|fail
  exact V4 g (dS []) _ rfl xG rfl (by simp[bE,a])
theorem vY{q:Req}(h:K (dS ((bE q.addr q.many q.wrap).map aJ)) H nx):bNW fP [boR (eB q)] H nx K:=by
 refine aB.fresh (R:=fun a=>a=dS ((bE q.addr q.many q.wrap).map aJ)) ?_ rfl (fun r hr=>hr▸h);clear h;refine aN.mk Tryz.func300 (by kernel_rfl) GP rfl fun Q b=> ?_;unfold mQ;repeat' first| (first|apply bn1|apply OQ)<;>(simp only[go_sem])|fail
 all_goals exact V4 b (dS _) _ rfl (aE rfl) rfl rfl
theorem KD{l:List Rng}{q:Req}(hl:l.length<2^40)(h:K (boP (bV l (bE q.addr q.many q.wrap))) H nx):bNW mZ [dS (l.map eN),boR (eB q)] H nx K:=by
 refine aB.pure (args0:=[dS (l.map eN),boR (eB q)]) (R:=fun g=>g=boP (bV l (bE q.addr q.many q.wrap))) ?_ rfl (aI ⟨aE rfl,aE rfl,trivial⟩) (fun r hr=>hr▸h);clear h;refine aN.mk Tryz.func253 (by kernel_rfl) VF rfl fun Q c=> ?_;unfold zZ;have j:=MK (addr:=q.addr) (many:=q.many) (wrap:=q.wrap);repeat' first| (first|apply bn1|apply vY)<;>(simp only[go_sem])|fail
 generalize bE q.addr q.many q.wrap=all at*;(refine aM.loop (α:={k:Nat//k<=all.length/\(∀i,i<k->¬bK (inR · (all.getD i default)) l<0/\bK (inR · (all.getD i default)) l=bK (inR · (all.getD 0 default)) l)}) (fun u=>en [(12,boP u.1),(11,boP all.length),(10,dS (all.map aJ)),(5,boP (if u.1=0 then-1 else bK (inR · (all.getD 0 default)) l)),(0,dS (l.map eN))]) (fun _=>.nil) _ (fun u=>all.length-u.1) ⟨0,by omega,(by intros;first|trivial|omega)⟩ (bU (m5 _) (by repeat' first|exact bo2|refine xqI rfl rfl ?_|fail)) ?_);(rintro⟨k,m,hinv⟩ bpQ d);by_cases b:k<all.length
 ·repeat' first| (first|apply bn1|refine bpL (fun h=> ?_) fun h=> ?_|apply SX hl)<;>(simp only[go_sem];try simp (disch:=omega) only[Iw])|apply bn2 (by omega)|refine bnE (fun h=> ?_) fun h=> ?_|refine⟨by omega,?_⟩|fail
  ·refine aZ c (boP _) rfl rfl (qA ?_);rcases CR k with a|a
   ·subst a;have n:=aoF (p:=(inR · (all.getD 0 default))) (l:=l);by_cases f: ∀i,i<all.length->1<=i->bK (inR · (all.getD i default)) l=bK (inR · (all.getD 0 default)) l;·rw[RH (by omega) f];omega
    ·have: ∃i,i<all.length/\ ¬bK (inR · (all.getD i default)) l=bK (inR · (all.getD 0 default)) l:=Classical.byContradiction fun hc=>f fun i hi _=>Classical.byContradiction fun e=>hc ⟨i,hi,e⟩;obtain⟨i,hi,e⟩:=this;rw[L8 hi e]
   ·have:=(hinv 0 a).1;exact(L8 b (by omega)).symm
  ·refine aZ c (boP _) rfl rfl (qA (L8 b (fun he=> ?_)).symm);grind
  all_goals
   have heq:bK (inR · (all.getD k default)) l=bK (inR · (all.getD 0 default)) l:=by grind
   refine d _ _ _ ⟨k+1,by omega,iS hinv ⟨by omega,heq⟩⟩ (by omega) (by dsimp only;omega) (bU (m5 _) ?_)
   dsimp only
   rw[if_neg (Nat.succ_ne_zero k),<-heq]
   repeat' first|exact bo2|refine xqI rfl rfl ?_|fail
 ·repeat' first|apply bn1<;>(simp only[go_sem])|apply bn3 (by omega)|fail
  refine aZ c (boP _) rfl rfl (qA ?_);by_cases a:k=0;·rw[if_pos a,adL (by omega)]
  ·rw[if_neg a,RH (by omega) (fun i hi _=>(hinv i (by omega)).2)]
theorem ae5{old:Int}{new:Int}{g6:Int}(a:0<=old/\old<=65535)(b:0<=new/\new<=65535)(e:0<=g6/\g6<=3)(h:K (boP (xZ old new g6)) H nx):bNW DA [boP old,boP new,boP g6] H nx K:=by
 refine aB.pure (args0:=[boP old,boP new,boP g6]) (R:=fun d=>d=boP (xZ old new g6)) ?_ rfl (aI ⟨aE rfl,aE rfl,aE rfl,trivial⟩) (fun r hr=>hr▸h);clear h;refine aN.mk Tryz.func301 (by kernel_rfl) aaH rfl fun Q c=> ?_;unfold GM;have hc:g6=0\/g6=1\/g6=2\/g6=3:=by omega
 rcases hc with rfl|rfl|rfl|rfl;all_goals repeat' first|apply bn1<;>(simp only[go_sem])|fail
 ·exact aZ c (boP (aeN old new (aaU 0))) rfl rfl (qA (by rw[arC];exact PW a b (by omega)))
 ·exact aZ c (boP (aeN old new (aaU 1))) rfl rfl (qA (by rw[aqD];exact PW a b (by omega)))
 ·exact aZ c (boP (aeN old new (aaU 2))) rfl rfl (qA (by rw[arO];exact PW a b (by omega)))
 ·exact aZ c (boP (aeN old new (aaU 3))) rfl rfl (qA (by rw[arA];exact PW a b (by omega)))
theorem aqI{w all:List Int}:(List.range all.length).map (fun k=>w.getD (all.getD k default).toNat default)=all.map fun a=>w.getD a.toNat default:=by
 apply br2;·simp
 ·intro i c b;simp only[bqW] at b;simp[List.getD,b]
abbrev btN(n:Int):D:=.one (.c (.v (.int .u64 n)))
variable{bO6 bO7 bPV bPW bPX bPB bPO bPY bPZ:Nat}
theorem aoK{i0 c0 c2:Nat}{s:TSt}:(oIm i0 bO6 bO7 bPV bPW bPX c0 bPB c2 bPO bPY bPZ s).length=6:=rfl
theorem aj7{i0 c0 c2:Nat}{s:TSt}:(oIm i0 bO6 bO7 bPV bPW bPX c0 bPB c2 bPO bPY bPZ s).take 6=oIm i0 bO6 bO7 bPV bPW bPX c0 bPB c2 bPO bPY bPZ s:=rfl
theorem akC{i0 c0 c2:Nat}{s:TSt}:(oIm i0 bO6 bO7 bPV bPW bPX c0 bPB c2 bPO bPY bPZ s).drop 6=[]:=rfl
theorem alF{i0 c0 c2 k:Nat}{s:TSt}{cs:List D1}:iA cs (k+1) (oIm i0 bO6 bO7 bPV bPW bPX c0 bPB c2 bPO bPY bPZ s)=iA cs (k+1) [.osl 1 i0 0 s.words.length c0,.osl 1 bO6 0 s.holds.length bPB,.osl 1 bO7 0 s.asked.length c2,.osl 5 bPV 0 s.wait.length bPO,.osl 5 bPW 0 s.done.length bPY,.osl 5 bPX 0 s.told.length bPZ]:=rfl
attribute [go_sem] aoK aj7 akC alF
end
attribute [go_sem] agE ai7
section
variable{H:aA}{nx:Nat}{K:bNX}
theorem c9{a:Job}{b:Job}(h:K (dB (uL a b)) H nx):bNW aKL [boR (aS a),boR (aS b)] H nx K:=by
 refine aB.pure (args0:=[boR (aS a),boR (aS b)]) (R:=fun c=>c=dB (uL a b)) ?_ rfl (aI ⟨aE rfl,aE rfl,trivial⟩) (fun r hr=>hr▸h);clear h;refine aN.mk Tryz.func292 (by kernel_rfl) aPW rfl fun Q d=> ?_;unfold ap2;repeat' first| (first|apply bn1|refine bpL (fun h=> ?_) fun h=> ?_)<;>(simp only[go_sem])|fail
 all_goals first|with_reducible refine aZ d _ rfl rfl ?_|skip
 all_goals first|exact q9 (by grind)|exact j7 (by grind)|exact pD (by grind)
theorem aKK{l:List Job}{who:Int}{n:Int}(hl:l.length<2^40)(h:K (boP (bK (iM who n) l)) H nx):bNW aIN [dS (l.map aS),boP who,boP n] H nx K:=by
 refine aB.pure (args0:=[dS (l.map aS),boP who,boP n]) (R:=fun c=>c=boP (bK (iM who n) l)) ?_ rfl (aI ⟨aE rfl,aE rfl,aE rfl,trivial⟩) (fun r hr=>hr▸h);clear h;refine aN.mk Tryz.func216 (by kernel_rfl) aMV rfl fun Q b=> ?_;unfold aJR;repeat' first|apply bn1<;>(simp only[go_sem])|fail
 (refine aM.loop (α:={k:Nat//k<=l.length/\(∀i,i<k->iM who n (l.getD i default)=false)}) (fun u=>en [(7,boP u.1),(2,boP n),(1,boP who),(0,dS (l.map aS))]) (fun _=>.nil) _ (fun u=>l.length-u.1) ⟨0,by omega,(by intros;first|trivial|omega)⟩ (bU (m5 _) (by repeat' first|exact bo2|refine xqI rfl rfl ?_|fail)) ?_);(rintro⟨k,d,hinv⟩ bpQ a);repeat' first| (first|apply bn1|refine bpL (fun h=> ?_) fun h=> ?_)<;>(simp only[go_sem];try simp (disch:=omega) only[Iw])|refine bnE (fun h=> ?_) fun h=> ?_|refine⟨by omega,?_⟩|fail
 ·refine aZ b _ rfl rfl (qA (bq3 (CU (by omega) (decide_eq_true (by omega)) hinv)))
 · (refine a _ _ _ ⟨k+1,by omega,iS hinv (decide_eq_false (by omega))⟩ (by omega) (by(try dsimp only);omega) (bU (m5 _) (by repeat' first|exact bo2|refine xqI rfl rfl ?_|fail)))
 · (refine a _ _ _ ⟨k+1,by omega,iS hinv (decide_eq_false (by omega))⟩ (by omega) (by(try dsimp only);omega) (bU (m5 _) (by repeat' first|exact bo2|refine xqI rfl rfl ?_|fail)))
 ·refine aZ b _ rfl rfl (qA (bq3 (tI fun i hi=>hinv i (by omega))))
theorem aPM(l:List Job)(j:Job)(hl:l.length<2^21):bNW aJS [dS (l.map aS),boR (aS j)] .nil 0 fun q _ t=>t=0/\q.imm=true/\q=dS ((BM l j).map aS):=by
 refine aN.mk Tryz.func217 (by kernel_rfl) aSI rfl fun Q r=> ?_;unfold aN3;generalize m:l.findIdx (uL j)=f;repeat' first|apply bn1<;>(simp only[go_sem])|fail
 refine aM.ar4 1 (α:={p:Nat×Nat//p.1<=l.length/\(aN7 l j f p.1).length<=p.2}) (fun b u=>en [(7,boP u.1.1),(6,dB (decide (f<u.1.1))),(5,boQ 5 b (aN7 l j f u.1.1).length u.1.2),(3,.one (.c (.fQ (aS j)))),(0,dS (l.map aS))])
  (fun b u=>hp [(b,⟨5,u.1.2,(aN7 l j f u.1.1).map aS⟩)]) (fun u=>l.length-u.1.1) ⟨(0,0),by omega,by simp[aN7]⟩ (by(refine cR [2] (by omega) (by repeat' first|exact bo2|refine xqI rfl rfl ?_|refine xqO (by omega) rfl rfl (by rfl) ?_| (with_reducible apply bo3)| ((with_reducible apply bo1);exact bpH rfl (by simp) rfl rfl rfl)|fail) ⟨⟨by simp,by simp[sgL],_,rfl,bP (aG dZ _) rfl rfl⟩,trivial⟩ (by simp[sgL]))) ?_
 rintro⟨⟨k,cap⟩,s,hc⟩ bpQ d;dsimp only at s hc;have hlen:=aTU (j:=j) (f:=f) s;by_cases a:k<l.length
 ·have i:=fun e:k<=f=>aT2 (j:=j) a (m▸e);rw[m] at i;repeat' first| (first|apply bn1|refine bpL (fun h=> ?_) fun h=> ?_|apply c9)<;>(simp only[go_sem];try simp (disch:=omega) only[Iw])|apply bn2 (by omega)| (with_reducible first|refine fun(cap:Nat) (g:_<=cap)=> ?_|refine fun(n:_<=cap)=> ?_)| ((refine bnF (fun h=> ?_) (fun h=> ?_))<;>try subst h)|refine⟨by omega,?_⟩|fail
  ·have H:=aT6 (j:=j) a (show k=f from (i (by omega)).1 (by assumption));have aUT:=congrArg List.length H;simp only[t2,List.length_cons,List.length_nil] at aUT;have e:=(i (by omega)).1 (by assumption);(refine d _ _ _ ⟨(k+1,cap),by omega,by dsimp only;omega⟩ (by omega) (by(try dsimp only);omega) (by(refine cR [33] (by omega) (by repeat' first|exact bo2|refine xqI rfl rfl ?_|refine xqO (by omega) rfl rfl (by first|rfl|omega) ?_| (with_reducible apply bo3)| ((with_reducible apply bo0);(exact bpF (by((try dsimp only);exact dbT (by omega))) rfl))| ((with_reducible apply bo1);apply bo7)|fail) ⟨⟨by simp,by simp[sgL],_,rfl,bP (aG dZ _) (congrArg _ H) rfl⟩,trivial⟩ (by simp[sgL]))))
  ·have v: ¬k=f:=fun he=>by have:=(i (by omega)).2 he;simp_all
   have H:=aT3 (j:=j) a (show k<f by omega);have aUT:=congrArg List.length H;simp only[t2,List.length_cons,List.length_nil] at aUT;(refine d _ _ _ ⟨(k+1,cap),by omega,by dsimp only;omega⟩ (by omega) (by(try dsimp only);omega) (by(refine cR [27] (by omega) (by repeat' first|exact bo2|refine xqI rfl rfl ?_|refine xqO (by omega) rfl rfl (by first|rfl|omega) ?_| (with_reducible apply bo3)| ((with_reducible apply bo0);(exact bpF (by((try dsimp only);exact dbE (by omega))) rfl))| ((with_reducible apply bo1);apply bo7)|fail) ⟨⟨by simp,by simp[sgL],_,rfl,bP (aG dZ _) (congrArg _ H) rfl⟩,trivial⟩ (by simp[sgL]))))
  ·have H:=aT8 (j:=j) a (show f<k by omega);have aUT:=congrArg List.length H;simp only[t2,List.length_cons,List.length_nil] at aUT;(refine d _ _ _ ⟨(k+1,cap),by omega,by dsimp only;omega⟩ (by omega) (by(try dsimp only);omega) (by(refine cR [27] (by omega) (by repeat' first|exact bo2|refine xqI rfl rfl ?_|refine xqO (by omega) rfl rfl (by first|rfl|omega) ?_| (with_reducible apply bo3)| ((with_reducible apply bo0);(exact bpF (by((try dsimp only);exact dbE (by omega))) rfl))| ((with_reducible apply bo1);apply bo7)|fail) ⟨⟨by simp,by simp[sgL],_,rfl,bP (aG dZ _) (congrArg _ H) rfl⟩,trivial⟩ (by simp[sgL]))))
 ·have o:k=l.length:=by omega
  subst o;subst m;repeat' first|apply bn1<;>(simp only[go_sem])|apply bn3 (by omega)|refine bnE (fun h=> ?_) fun h=> ?_| (with_reducible first|refine fun(cap:Nat) (g:_<=cap)=> ?_|refine fun(n:_<=cap)=> ?_)|refine⟨by omega,?_⟩|fail
  ·exact V4 r (dS _) _ rfl (yP (l:=aN7 l j _ l.length++[j]) dZ rfl (by simp) (by simp;omega) trivial) rfl (by rw[aTO (by omega)])
  ·exact V4 r (dS _) _ rfl (yP (l:=aN7 l j _ l.length) dZ rfl (by simp) (by omega) trivial) rfl (by rw[aTW (by omega)])
theorem aS4{l:List Job}{j:Job}(hl:l.length<2^21)(h:K (dS ((BM l j).map aS)) H nx):bNW aJS [dS (l.map aS),boR (aS j)] H nx K:=(aPM l j hl).fresh rfl (fun r hr=>hr▸h)
end
end Go.Proofs.YtlncecohbakleaaGreat
