/- Texts laid together by a program: rules, contracts and the walk that leads to the law. -/
import Derived.Test.YtdkfhdmagdaceaaGreatPN6
import Derived.Test.YtdkfhdmagdaceaaGreatPN5
import Derived.Test.YtdkfhdmagdaceaaGreatPN4
import Derived.Test.YtdkfhdmagdaceaaGreatPN3
set_option linter.unusedVariables false
set_option linter.unusedSimpArgs false
set_option linter.unusedSectionVars false
set_option maxRecDepth 100000
set_option maxHeartbeats 8000000
namespace Go.Proofs.YtdkfhdmagdaceaaGreat
open Go Go.AM
attribute [local irreducible] aM wv aB vd wvH
section
variable {H : aA} {nx : Nat} {K : D → aA → Nat → Prop}
theorem agS (n lo up:Int):aB Tryz.prog cQ [boP n,boP lo,boP up] .nil 0 fun a _ _=>a.plain=true∧a=dB (decide (lo≤n∧n≤up)):=by
 refine ae0 rfl fun Q b=> ?_;unfold JX;repeat' first| (first|apply bn1|refine bpL (fun h=> ?_) fun h=> ?_)<;>(simp only[go_sem])|fail
 all_goals first|with_reducible refine aZ b _ rfl rfl ?_|skip
 all_goals first|exact pD (by omega)|exact q9 (by omega)|exact j7 (by omega)|rfl
variable{n:Int}
theorem fE{lo:Int}{up:Int} (h:K (dB (decide (lo≤n∧n≤up))) H nx):aB Tryz.prog cQ [boP n,boP lo,boP up] H nx K:=(agS n lo up).pure rfl (aI ⟨aE rfl,aE rfl,aE rfl,trivial⟩) (fun r hr=>hr▸h)
theorem aBC{lo:Int}{up:Int} (h:K (dB (decide (lo≤n∧n≤up))) H nx):aB Tryz.prog y2 [boP n,boP lo,boP up] H nx K:=by
 refine aB.pure (args0:=[boP n,boP lo,boP up]) (R:=fun a=>a=dB (decide (lo≤n∧n≤up))) ?_ rfl (aI ⟨aE rfl,aE rfl,aE rfl,trivial⟩) (fun r hr=>hr▸h);clear h;refine aD6 rfl fun Q b=> ?_;unfold aBW;repeat' first| (first|apply bn1|refine bpL (fun h=> ?_) fun h=> ?_)<;>(simp only[go_sem])|fail
 all_goals first|with_reducible refine aZ b _ rfl rfl ?_|skip
 all_goals first|exact pD (by omega)|exact q9 (by omega)|exact j7 (by omega)|rfl
theorem OC (n:Int):aB Tryz.prog jA [boP n] .nil 0 fun a _ _=>a.plain=true∧a=dB (decide (0≤n∧n≤2)):=by
 refine MZ rfl fun Q b=> ?_;unfold sZ;repeat' first| (first|apply bn1|apply fE)<;>(simp only[go_sem])|fail
 all_goals first|with_reducible refine aZ b _ rfl rfl ?_|skip
 all_goals first|exact pD (by omega)|exact q9 (by omega)|exact j7 (by omega)|rfl
theorem oR (h:K (dB (decide (0≤n∧n≤2))) H nx):aB Tryz.prog jA [boP n] H nx K:=(OC n).pure rfl (aI ⟨aE rfl,trivial⟩) (fun r hr=>hr▸h)
theorem U5 (h:K (dB (decide (0≤n∧n≤65535))) H nx):aB Tryz.prog tR [boP n] H nx K:=by
 refine aB.pure (args0:=[boP n]) (R:=fun a=>a=dB (decide (0≤n∧n≤65535))) ?_ rfl (aI ⟨aE rfl,trivial⟩) (fun r hr=>hr▸h);clear h;refine QH rfl fun Q b=> ?_;unfold yN;repeat' first| (first|apply bn1|apply fE)<;>(simp only[go_sem])|fail
 all_goals first|with_reducible refine aZ b _ rfl rfl ?_|skip
 all_goals first|exact pD (by omega)|exact q9 (by omega)|exact j7 (by omega)|rfl
variable{addr:Int}
theorem wS{many:Int}{wrap:Bool} (h:K (dB (decide (o7 addr many wrap))) H nx):aB Tryz.prog nI [boP addr,boP many,dB wrap] H nx K:=by
 refine aB.pure (args0:=[boP addr,boP many,dB wrap]) (R:=fun a=>a=dB (decide (o7 addr many wrap))) ?_ rfl (aI ⟨aE rfl,aE rfl,aE rfl,trivial⟩) (fun r hr=>hr▸h);clear h;refine VQ rfl fun Q b=> ?_;unfold z5;repeat' first| (first|apply bn1|refine bpL (fun h=> ?_) fun h=> ?_| (refine bpM (fun h=> ?_) (fun h=> ?_)<;>try subst h)|apply fE)<;>(simp only[go_sem];try simp (disch:=omega) only[Iw])|fail
 all_goals first|with_reducible refine aZ b _ rfl rfl ?_|skip
 all_goals unfold o7
 all_goals first|exact pD (by simp;omega)|exact q9 (by simp;omega)|exact j7 (by simp;omega)
theorem aCI{many:Int}{wrap:Bool} (h:K (dB (decide (o7 addr many wrap))) H nx):aB Tryz.prog aA6 [boP addr,boP many,dB wrap] H nx K:=by
 refine aB.pure (args0:=[boP addr,boP many,dB wrap]) (R:=fun a=>a=dB (decide (o7 addr many wrap))) ?_ rfl (aI ⟨aE rfl,aE rfl,aE rfl,trivial⟩) (fun r hr=>hr▸h);clear h;refine aDX rfl fun Q b=> ?_;unfold aBN;repeat' first| (first|apply bn1|refine bpL (fun h=> ?_) fun h=> ?_| (refine bpM (fun h=> ?_) (fun h=> ?_)<;>try subst h)|apply aBC)<;>(simp only[go_sem];try simp (disch:=omega) only[Iw])|refine bnE (fun h=> ?_) fun h=> ?_|fail
 all_goals first|with_reducible refine aZ b _ rfl rfl ?_|skip
 all_goals unfold o7
 all_goals first|exact pD (by simp;omega)|exact q9 (by simp;omega)|exact j7 (by simp;omega)
variable{l:List Rng}
theorem aB0 (hl:l.length<2^40) (h:K (boP (bK (inR · addr) l)) H nx):aB Tryz.prog aAX [dS (l.map eN),boP addr] H nx K:=by
 refine aB.pure (args0:=[dS (l.map eN),boP addr]) (R:=fun c=>c=boP (bK (inR · addr) l)) ?_ rfl (aI ⟨aE rfl,aE rfl,trivial⟩) (fun r hr=>hr▸h);clear h;refine aDK rfl fun Q b=> ?_;unfold aBH;repeat' first|apply bn1<;>(simp only[go_sem])|fail
 (refine aM.loop (α:={k:Nat//k≤l.length∧(∀i,i<k→inR (l.getD i default) addr=false)}) (fun u=>en [(5,boP u.1),(1,boP addr),(0,dS (l.map eN))]) (fun _=>.nil) _ (fun u=>l.length-u.1) ⟨0,by omega,(by intros;first|trivial|omega)⟩ (bU (m5 _) (by repeat' first|exact bo2|refine xqI rfl rfl ?_|fail)) ?_);(rintro⟨k,d,hinv⟩ bpQ a);repeat' first| (first|apply bn1|apply aBC)<;>(simp only[go_sem];try simp (disch:=omega) only[Iw])|refine bnE (fun h=> ?_) fun h=> ?_|refine⟨by omega,?_⟩|fail
 ·refine aZ b _ rfl rfl (qA (bq3 (CU (by omega) (decide_eq_true (by omega)) hinv)))
 · (refine a _ _ _ ⟨k+1,by omega,iS hinv (decide_eq_false (by omega))⟩ (by omega) (by(try dsimp only);omega) (bU (m5 _) (by repeat' first|exact bo2|refine xqI rfl rfl ?_|fail)))
 ·refine aZ b _ rfl rfl (qA (bq3 (tI fun i hi=>hinv i (by omega))))
theorem aDG{all:List Int} (hl:l.length<2^40) (d:all.length<2^40) (h:K (boP (bV l all)) H nx):aB Tryz.prog aA4 [dS (l.map eN),dS (all.map aJ)] H nx K:=by
 refine aB.pure (args0:=[dS (l.map eN),dS (all.map aJ)]) (R:=fun c=>c=boP (bV l all)) ?_ rfl (aI ⟨aE rfl,aE rfl,trivial⟩) (fun r hr=>hr▸h);clear h;refine aDA rfl fun Q a=> ?_;unfold aBD;repeat' first| (first|apply bn1|apply aB0 hl)<;>(simp only[go_sem])|refine bnE (fun h=> ?_) fun h=> ?_|refine⟨by omega,?_⟩|fail
 ·exact aZ a _ rfl rfl (qA (adL (by omega)).symm)
 (refine aM.loop (α:={k:Nat//k≤all.length∧(∀i,i<k→1≤i→bK (inR · (all.getD i default)) l=bK (inR · (all.getD 0 default)) l)}) (fun u=>en [(6,boP u.1),(5,boP (bK (inR · (all.getD 0 default)) l)),(1,dS (all.map aJ)),(0,dS (l.map eN))]) (fun _=>.nil) _ (fun u=>all.length-u.1) ⟨1,by omega,(by intros;first|trivial|omega)⟩ (bU (m5 _) (by repeat' first|exact bo2|refine xqI rfl rfl ?_|fail)) ?_);(rintro⟨k,e,hinv⟩ bpQ b);repeat' first| (first|apply bn1|apply aB0 hl)<;>(simp only[go_sem];try simp (disch:=omega) only[Iw])|refine bnE (fun h=> ?_) fun h=> ?_|refine⟨by omega,?_⟩|fail
 ·exact aZ a _ rfl rfl (qA (L8 (i:=k) (by omega) (by omega)).symm)
 · (refine b _ _ _ ⟨k+1,by omega,iS hinv (fun _=>by omega)⟩ (by omega) (by(try dsimp only);omega) (bU (m5 _) (by repeat' first|exact bo2|refine xqI rfl rfl ?_|fail)))
 ·exact aZ a _ rfl rfl (qA (RH (by omega) (fun i hi=>hinv i (by omega))).symm)
theorem aC2{q:Req} (h:K (dB (wrM q)) H nx):aB Tryz.prog aAZ [boR (eB q)] H nx K:=by
 refine aB.pure (args0:=[boR (eB q)]) (R:=fun a=>a=dB (wrM q)) ?_ rfl (aI ⟨aE rfl,trivial⟩) (fun r hr=>hr▸h);clear h;refine aCU rfl fun Q b=> ?_;unfold aBB;repeat' first| (first|apply bn1|refine bpL (fun h=> ?_) fun h=> ?_)<;>(simp only[go_sem])|fail
 all_goals first|with_reducible refine aZ b _ rfl rfl ?_|skip
 all_goals unfold wrM
 all_goals first|exact pD (by omega)|exact q9 (by omega)|exact j7 (by omega)|rfl
theorem aC9{many:Int}{wrap:Bool} (h:K (dS ((bE addr many wrap).map aJ)) H nx):aB Tryz.prog aAY [boP addr,boP many,dB wrap] H nx K:=by
 refine aB.fresh (R:=fun g=>g=dS ((bE addr many wrap).map aJ)) ?_ rfl (fun r hr=>hr▸h);clear h;refine aCR rfl fun Q e=> ?_;unfold aBA;repeat' first| (first|apply bn1|apply aCI)<;>(simp only[go_sem])|refine bnE (fun h=> ?_) fun h=> ?_|fail
 ·exact V4 e (dS []) _ rfl xG rfl (by simp[bE,h])
 have a:=Classical.not_not.1 h;obtain⟨bpR,m,bpS,bpT,bpU,bpV,bpW,bpX⟩:=aaA a;clear h;rw[bpV];refine⟨bpR,?_⟩;rw[IntWalk.i64_in (addr-_) (by omega)];repeat' first|apply bn1<;>(simp only[go_sem])|fail
 refine aM.ar4 1 (α:={p:Nat×Nat//p.1≤many.toNat∧p.1≤p.2}) (fun b u=>en [(9,boP u.1.1),(8,boP (addr-addr%many)),(7,boQ 1 b u.1.1 u.1.2),(2,dB wrap),(1,boP many),(0,boP addr)])
  (fun b u=>hp [(b,⟨1,u.1.2,((List.range u.1.1).map (bAt addr many wrap)).map aJ⟩)]) (fun u=>many.toNat-u.1.1) ⟨(0,0),by omega,by omega⟩ (by(refine cR [1] (by omega) (by repeat' first|exact bo2|refine xqI rfl rfl ?_|refine xqO (by omega) rfl rfl (by rfl) ?_|fail) ⟨⟨by simp,by simp[sgL],_,rfl,bP (aG bF _) rfl rfl⟩,trivial⟩ (by simp[sgL]))) ?_
 rintro⟨⟨k,cap⟩,i,hc⟩ bpQ c;dsimp only at i hc;by_cases d:k<many.toNat
 ·obtain⟨n,o,j⟩:=agW a k d;repeat' first|apply bn1<;>(simp only[go_sem];try simp (disch:=omega) only[Iw])|apply bn2 (by omega)| (with_reducible first|refine fun(cap:Nat) (f:_≤cap)=> ?_|refine fun(l:_≤cap)=> ?_)| ((refine bnF (fun h=> ?_) (fun h=> ?_))<;>try subst h)|refine⟨by omega,?_⟩|fail
  ·refine c _ _ _ ⟨(k+1,cap),by omega,by omega⟩ (by omega) (by dsimp only;omega) (by(refine cR [31] (by omega) (by repeat' first|exact bo2|refine xqI rfl rfl ?_|refine xqO (by omega) rfl rfl (by rfl) ?_|fail) ⟨⟨by simp,by simp[sgL],_,rfl,bP (aG bF _) (congrArg _ (aDH (by simp only[bAt,if_true];exact j))) rfl⟩,trivial⟩ (by simp[sgL])))
  ·refine c _ _ _ ⟨(k+1,cap),by omega,by omega⟩ (by omega) (by dsimp only;omega) (by(refine cR [25] (by omega) (by repeat' first|exact bo2|refine xqI rfl rfl ?_|refine xqO (by omega) rfl rfl (by rfl) ?_|fail) ⟨⟨by simp,by simp[sgL],_,rfl,bP (aG bF _) (congrArg _ (aDH rfl)) rfl⟩,trivial⟩ (by simp[sgL])))
 ·repeat' first|apply bn1<;>(simp only[go_sem])|apply bn3 (by omega)|fail
  ·refine V4 e (dS _) _ rfl (yP bF rfl (by simp) (by simpa using hc) trivial) rfl ?_;have:k=many.toNat:=(by omega);subst this;simp[bE,a]
theorem nC (l:List Rng) (f:FuncId) (caps:List D1) (p:Rng→Bool) (hl:l.length<2^40) (hc:caps.all D1.dQ=true) (j: ∀x∈l,∀(H:aA) (nx:Nat) (K:D→aA→Nat→Prop),K (dB (p x)) H nx→aB Tryz.prog f (boR (eN x)::caps.map fun d=>.one (.c d)) H nx K):
 aB Tryz.prog bR [dS (l.map eN),.one (.c (.clo f caps))] .nil 0 fun r _ _=>r.plain=true∧r=boP (bK p l):=by
 refine mT rfl fun Q g=> ?_
 unfold dM
 repeat' first|apply bn1<;>(simp only[go_sem])|fail
 (refine aM.loop (α:={k:Nat//k≤l.length∧(∀i,i<k→p (l.getD i default)=false)}) (fun u=>en [(8,boP u.1),(7,boP l.length),(1,.one (.c (.clo f caps))),(0,dS (l.map eN))]) (fun _=>.nil) _ (fun u=>l.length-u.1) ⟨0,by omega,(by intros;first|trivial|omega)⟩ (bU (m5 _) (by repeat' first|exact bo2|refine xqI rfl rfl ?_| (with_reducible apply bo3)| ((with_reducible apply bo0);exact bpG (by assumption))| ((with_reducible apply bo1);apply bo7)|fail)) ?_);(rintro⟨k,m,hinv⟩ bpQ b)
 by_cases e:k<l.length
 ·have a:l.getD k default∈l:=by simp[List.getD,e]
  repeat' first| (first|apply bn1|apply j _ a _ _ _)<;>(simp only[go_sem];try simp (disch:=omega) only[Iw])|apply bn2 (by omega)| ((refine bnF (fun h=> ?_) (fun h=> ?_))<;>try subst h)|refine⟨by omega,?_⟩|fail
  ·refine aZ g _ rfl rfl (qA (bq3 (CU (by omega) (by assumption) hinv)))
  · (refine b _ _ _ ⟨k+1,by omega,iS hinv (by assumption)⟩ (by omega) (by(try dsimp only);omega) (bU (m5 _) (by repeat' first|exact bo2|refine xqI rfl rfl ?_| (with_reducible apply bo3)| ((with_reducible apply bo0);exact bpG (by assumption))| ((with_reducible apply bo1);apply bo7)|fail)))
 ·repeat' first|apply bn1<;>(simp only[go_sem])|apply bn3 (by omega)|fail
  ·refine aZ g _ rfl rfl (qA (bq3 (tI fun i hi=>hinv i (by omega))))
variable{f:FuncId}{caps caps0:List D1}{d:D}
theorem gS{p:Rng→Bool} (hl:l.length<2^40) (hc:caps.all D1.dQ=true) (a:CvD H (fun _=>True) id 0 (dS (l.map eN)) d) (b:CvD H (fun _=>True) id 0 (.one (.c (.clo f caps))) (.one (.c (.clo f caps0)))) (e: ∀x∈l,∀(H:aA) (nx:Nat) (K:D→aA→Nat→Prop),K (dB (p x)) H nx→aB Tryz.prog f (boR (eN x)::caps.map fun d=>.one (.c d)) H nx K)
 (h:K (boP (bK p l)) H nx):aB Tryz.prog bR [d,.one (.c (.clo f caps0))] H nx K:=
 (nC l f caps p hl hc e).pure rfl (aI ⟨a,b,trivial⟩) fun r hr=>hr▸h
theorem lO (l:List Rng) (f:FuncId) (caps:List D1) (p:Rng→Bool) (hl:l.length<2^40) (hc:caps.all D1.dQ=true) (a: ∀x∈l,∀(H:aA) (nx:Nat) (K:D→aA→Nat→Prop),K (dB (p x)) H nx→aB Tryz.prog f (boR (eN x)::caps.map fun d=>.one (.c d)) H nx K):
 aB Tryz.prog bX [dS (l.map eN),.one (.c (.clo f caps))] .nil 0 fun r _ _=>r.plain=true∧r=dB (decide (0≤bK p l)):=by
 refine lF rfl fun Q b=> ?_
 unfold cY
 repeat' first| (first|apply bn1|refine gS hl hc (aE rfl) (kC hc) a ?_)<;>(simp only[go_sem])|fail
 all_goals exact aZ b _ rfl rfl rfl
theorem lN{p:Rng→Bool} (hl:l.length<2^40) (hc:caps.all D1.dQ=true) (a:CvD H (fun _=>True) id 0 (dS (l.map eN)) d) (b:CvD H (fun _=>True) id 0 (.one (.c (.clo f caps))) (.one (.c (.clo f caps0)))) (e: ∀x∈l,∀(H:aA) (nx:Nat) (K:D→aA→Nat→Prop),K (dB (p x)) H nx→aB Tryz.prog f (boR (eN x)::caps.map fun d=>.one (.c d)) H nx K)
 (h:K (dB (decide (0≤bK p l))) H nx):aB Tryz.prog bX [d,.one (.c (.clo f caps0))] H nx K:=
 (lO l f caps p hl hc e).pure rfl (aI ⟨a,b,trivial⟩) fun r hr=>hr▸h
theorem wN (l:List Int) (f:FuncId) (caps:List D1) (p:Int→Bool) (hl:l.length<2^40) (hc:caps.all D1.dQ=true) (j: ∀x∈l,∀(H:aA) (nx:Nat) (K:D→aA→Nat→Prop),K (dB (p x)) H nx→aB Tryz.prog f (boP x::caps.map fun d=>.one (.c d)) H nx K):
 aB Tryz.prog fF [dS (l.map aJ),.one (.c (.clo f caps))] .nil 0 fun r _ _=>r.plain=true∧r=boP (bK p l):=by
 refine uY rfl fun Q g=> ?_
 unfold gX
 repeat' first|apply bn1<;>(simp only[go_sem])|fail
 (refine aM.loop (α:={k:Nat//k≤l.length∧(∀i,i<k→p (l.getD i default)=false)}) (fun u=>en [(8,boP u.1),(7,boP l.length),(1,.one (.c (.clo f caps))),(0,dS (l.map aJ))]) (fun _=>.nil) _ (fun u=>l.length-u.1) ⟨0,by omega,(by intros;first|trivial|omega)⟩ (bU (m5 _) (by repeat' first|exact bo2|refine xqI rfl rfl ?_| (with_reducible apply bo3)| ((with_reducible apply bo0);exact bpG (by assumption))| ((with_reducible apply bo1);apply bo7)|fail)) ?_);(rintro⟨k,m,hinv⟩ bpQ b)
 by_cases e:k<l.length
 ·have a:l.getD k default∈l:=by simp[List.getD,e]
  repeat' first| (first|apply bn1|apply j _ a _ _ _)<;>(simp only[go_sem];try simp (disch:=omega) only[Iw])|apply bn2 (by omega)| ((refine bnF (fun h=> ?_) (fun h=> ?_))<;>try subst h)|refine⟨by omega,?_⟩|fail
  ·refine aZ g _ rfl rfl (qA (bq3 (CU (by omega) (by assumption) hinv)))
  · (refine b _ _ _ ⟨k+1,by omega,iS hinv (by assumption)⟩ (by omega) (by(try dsimp only);omega) (bU (m5 _) (by repeat' first|exact bo2|refine xqI rfl rfl ?_| (with_reducible apply bo3)| ((with_reducible apply bo0);exact bpG (by assumption))| ((with_reducible apply bo1);apply bo7)|fail)))
 ·repeat' first|apply bn1<;>(simp only[go_sem])|apply bn3 (by omega)|fail
  ·refine aZ g _ rfl rfl (qA (bq3 (tI fun i hi=>hinv i (by omega))))
theorem wO{l:List Int}{p:Int→Bool} (hl:l.length<2^40) (hc:caps.all D1.dQ=true) (a:CvD H (fun _=>True) id 0 (dS (l.map aJ)) d) (b:CvD H (fun _=>True) id 0 (.one (.c (.clo f caps))) (.one (.c (.clo f caps0)))) (e: ∀x∈l,∀(H:aA) (nx:Nat) (K:D→aA→Nat→Prop),K (dB (p x)) H nx→aB Tryz.prog f (boP x::caps.map fun d=>.one (.c d)) H nx K)
 (h:K (boP (bK p l)) H nx):aB Tryz.prog fF [d,.one (.c (.clo f caps0))] H nx K:=
 (wN l f caps p hl hc e).pure rfl (aI ⟨a,b,trivial⟩) fun r hr=>hr▸h
theorem sR (l:List Int) (f:FuncId) (caps:List D1) (p:Int→Bool) (hl:l.length<2^40) (hc:caps.all D1.dQ=true) (a: ∀x∈l,∀(H:aA) (nx:Nat) (K:D→aA→Nat→Prop),K (dB (p x)) H nx→aB Tryz.prog f (boP x::caps.map fun d=>.one (.c d)) H nx K):
 aB Tryz.prog bN [dS (l.map aJ),.one (.c (.clo f caps))] .nil 0 fun r _ _=>r.plain=true∧r=dB (decide (0≤bK p l)):=by
 refine r8 rfl fun Q b=> ?_
 unfold fX
 repeat' first| (first|apply bn1|refine wO hl hc (aE rfl) (kC hc) a ?_)<;>(simp only[go_sem])|fail
 all_goals exact aZ b _ rfl rfl rfl
theorem d8{l:List Int}{p:Int→Bool} (hl:l.length<2^40) (hc:caps.all D1.dQ=true) (a:CvD H (fun _=>True) id 0 (dS (l.map aJ)) d) (b:CvD H (fun _=>True) id 0 (.one (.c (.clo f caps))) (.one (.c (.clo f caps0)))) (e: ∀x∈l,∀(H:aA) (nx:Nat) (K:D→aA→Nat→Prop),K (dB (p x)) H nx→aB Tryz.prog f (boP x::caps.map fun d=>.one (.c d)) H nx K)
 (h:K (dB (decide (0≤bK p l))) H nx):aB Tryz.prog bN [d,.one (.c (.clo f caps0))] H nx K:=
 (sR l f caps p hl hc e).pure rfl (aI ⟨a,b,trivial⟩) fun r hr=>hr▸h
theorem qH (l:List Req) (f:FuncId) (caps:List D1) (p:Req→Bool) (hl:l.length<2^40) (hc:caps.all D1.dQ=true) (j: ∀x∈l,∀(H:aA) (nx:Nat) (K:D→aA→Nat→Prop),K (dB (p x)) H nx→aB Tryz.prog f (boR (eB x)::caps.map fun d=>.one (.c d)) H nx K):
 aB Tryz.prog dC [dS (l.map eB),.one (.c (.clo f caps))] .nil 0 fun r _ _=>r.plain=true∧r=boP (bK p l):=by
 refine pO rfl fun Q g=> ?_
 unfold eV
 repeat' first|apply bn1<;>(simp only[go_sem])|fail
 (refine aM.loop (α:={k:Nat//k≤l.length∧(∀i,i<k→p (l.getD i default)=false)}) (fun u=>en [(8,boP u.1),(7,boP l.length),(1,.one (.c (.clo f caps))),(0,dS (l.map eB))]) (fun _=>.nil) _ (fun u=>l.length-u.1) ⟨0,by omega,(by intros;first|trivial|omega)⟩ (bU (m5 _) (by repeat' first|exact bo2|refine xqI rfl rfl ?_| (with_reducible apply bo3)| ((with_reducible apply bo0);exact bpG (by assumption))| ((with_reducible apply bo1);apply bo7)|fail)) ?_);(rintro⟨k,m,hinv⟩ bpQ b)
 by_cases e:k<l.length
 ·have a:l.getD k default∈l:=by simp[List.getD,e]
  repeat' first| (first|apply bn1|apply j _ a _ _ _)<;>(simp only[go_sem];try simp (disch:=omega) only[Iw])|apply bn2 (by omega)| ((refine bnF (fun h=> ?_) (fun h=> ?_))<;>try subst h)|refine⟨by omega,?_⟩|fail
  ·refine aZ g _ rfl rfl (qA (bq3 (CU (by omega) (by assumption) hinv)))
  · (refine b _ _ _ ⟨k+1,by omega,iS hinv (by assumption)⟩ (by omega) (by(try dsimp only);omega) (bU (m5 _) (by repeat' first|exact bo2|refine xqI rfl rfl ?_| (with_reducible apply bo3)| ((with_reducible apply bo0);exact bpG (by assumption))| ((with_reducible apply bo1);apply bo7)|fail)))
 ·repeat' first|apply bn1<;>(simp only[go_sem])|apply bn3 (by omega)|fail
  ·refine aZ g _ rfl rfl (qA (bq3 (tI fun i hi=>hinv i (by omega))))
theorem qC{l:List Req}{p:Req→Bool} (hl:l.length<2^40) (hc:caps.all D1.dQ=true) (a:CvD H (fun _=>True) id 0 (dS (l.map eB)) d) (b:CvD H (fun _=>True) id 0 (.one (.c (.clo f caps))) (.one (.c (.clo f caps0)))) (e: ∀x∈l,∀(H:aA) (nx:Nat) (K:D→aA→Nat→Prop),K (dB (p x)) H nx→aB Tryz.prog f (boR (eB x)::caps.map fun d=>.one (.c d)) H nx K)
 (h:K (boP (bK p l)) H nx):aB Tryz.prog dC [d,.one (.c (.clo f caps0))] H nx K:=
 (qH l f caps p hl hc e).pure rfl (aI ⟨a,b,trivial⟩) fun r hr=>hr▸h
theorem nT (l:List Req) (f:FuncId) (caps:List D1) (p:Req→Bool) (hl:l.length<2^40) (hc:caps.all D1.dQ=true) (a: ∀x∈l,∀(H:aA) (nx:Nat) (K:D→aA→Nat→Prop),K (dB (p x)) H nx→aB Tryz.prog f (boR (eB x)::caps.map fun d=>.one (.c d)) H nx K):
 aB Tryz.prog cN [dS (l.map eB),.one (.c (.clo f caps))] .nil 0 fun r _ _=>r.plain=true∧r=dB (decide (0≤bK p l)):=by
 refine m7 rfl fun Q b=> ?_
 unfold dX
 repeat' first| (first|apply bn1|refine qC hl hc (aE rfl) (kC hc) a ?_)<;>(simp only[go_sem])|fail
 all_goals exact aZ b _ rfl rfl rfl
theorem nW{l:List Req}{p:Req→Bool} (hl:l.length<2^40) (hc:caps.all D1.dQ=true) (a:CvD H (fun _=>True) id 0 (dS (l.map eB)) d) (b:CvD H (fun _=>True) id 0 (.one (.c (.clo f caps))) (.one (.c (.clo f caps0)))) (e: ∀x∈l,∀(H:aA) (nx:Nat) (K:D→aA→Nat→Prop),K (dB (p x)) H nx→aB Tryz.prog f (boR (eB x)::caps.map fun d=>.one (.c d)) H nx K)
 (h:K (dB (decide (0≤bK p l))) H nx):aB Tryz.prog cN [d,.one (.c (.clo f caps0))] H nx K:=
 (nT l f caps p hl hc e).pure rfl (aI ⟨a,b,trivial⟩) fun r hr=>hr▸h
theorem oH (l:List (List Req)) (f:FuncId) (caps:List D1) (p:(List Req)→Bool) (hl:l.length<2^40) (hc:caps.all D1.dQ=true) (j: ∀x∈l,∀(H:aA) (nx:Nat) (K:D→aA→Nat→Prop),K (dB (p x)) H nx→aB Tryz.prog f (dS (x.map eB)::caps.map fun d=>.one (.c d)) H nx K):
 aB Tryz.prog cT [dS (l.map jR),.one (.c (.clo f caps))] .nil 0 fun r _ _=>r.plain=true∧r=boP (bK p l):=by
 refine nU rfl fun Q g=> ?_
 unfold eD
 repeat' first|apply bn1<;>(simp only[go_sem])|fail
 (refine aM.loop (α:={k:Nat//k≤l.length∧(∀i,i<k→p (l.getD i default)=false)}) (fun u=>en [(8,boP u.1),(7,boP l.length),(1,.one (.c (.clo f caps))),(0,dS (l.map jR))]) (fun _=>.nil) _ (fun u=>l.length-u.1) ⟨0,by omega,(by intros;first|trivial|omega)⟩ (bU (m5 _) (by repeat' first|exact bo2|refine xqI rfl rfl ?_| (with_reducible apply bo3)| ((with_reducible apply bo0);exact bpG (by assumption))| ((with_reducible apply bo1);apply bo7)|fail)) ?_);(rintro⟨k,m,hinv⟩ bpQ b)
 by_cases e:k<l.length
 ·have a:l.getD k default∈l:=by simp[List.getD,e]
  repeat' first| (first|apply bn1|apply j _ a _ _ _)<;>(simp only[go_sem];try simp (disch:=omega) only[Iw])|apply bn2 (by omega)| ((refine bnF (fun h=> ?_) (fun h=> ?_))<;>try subst h)|refine⟨by omega,?_⟩|fail
  ·refine aZ g _ rfl rfl (qA (bq3 (CU (by omega) (by assumption) hinv)))
  · (refine b _ _ _ ⟨k+1,by omega,iS hinv (by assumption)⟩ (by omega) (by(try dsimp only);omega) (bU (m5 _) (by repeat' first|exact bo2|refine xqI rfl rfl ?_| (with_reducible apply bo3)| ((with_reducible apply bo0);exact bpG (by assumption))| ((with_reducible apply bo1);apply bo7)|fail)))
 ·repeat' first|apply bn1<;>(simp only[go_sem])|apply bn3 (by omega)|fail
  ·refine aZ g _ rfl rfl (qA (bq3 (tI fun i hi=>hinv i (by omega))))
theorem oN{l:List (List Req)}{p:(List Req)→Bool} (hl:l.length<2^40) (hc:caps.all D1.dQ=true) (a:CvD H (fun _=>True) id 0 (dS (l.map jR)) d) (b:CvD H (fun _=>True) id 0 (.one (.c (.clo f caps))) (.one (.c (.clo f caps0)))) (e: ∀x∈l,∀(H:aA) (nx:Nat) (K:D→aA→Nat→Prop),K (dB (p x)) H nx→aB Tryz.prog f (dS (x.map eB)::caps.map fun d=>.one (.c d)) H nx K)
 (h:K (boP (bK p l)) H nx):aB Tryz.prog cT [d,.one (.c (.clo f caps0))] H nx K:=
 (oH l f caps p hl hc e).pure rfl (aI ⟨a,b,trivial⟩) fun r hr=>hr▸h
theorem mJ (l:List (List Req)) (f:FuncId) (caps:List D1) (p:(List Req)→Bool) (hl:l.length<2^40) (hc:caps.all D1.dQ=true) (a: ∀x∈l,∀(H:aA) (nx:Nat) (K:D→aA→Nat→Prop),K (dB (p x)) H nx→aB Tryz.prog f (dS (x.map eB)::caps.map fun d=>.one (.c d)) H nx K):
 aB Tryz.prog cF [dS (l.map jR),.one (.c (.clo f caps))] .nil 0 fun r _ _=>r.plain=true∧r=dB (decide (0≤bK p l)):=by
 refine l7 rfl fun Q b=> ?_
 unfold dG
 repeat' first| (first|apply bn1|refine oN hl hc (aE rfl) (kC hc) a ?_)<;>(simp only[go_sem])|fail
 all_goals exact aZ b _ rfl rfl rfl
theorem mS{l:List (List Req)}{p:(List Req)→Bool} (hl:l.length<2^40) (hc:caps.all D1.dQ=true) (a:CvD H (fun _=>True) id 0 (dS (l.map jR)) d) (b:CvD H (fun _=>True) id 0 (.one (.c (.clo f caps))) (.one (.c (.clo f caps0)))) (e: ∀x∈l,∀(H:aA) (nx:Nat) (K:D→aA→Nat→Prop),K (dB (p x)) H nx→aB Tryz.prog f (dS (x.map eB)::caps.map fun d=>.one (.c d)) H nx K)
 (h:K (dB (decide (0≤bK p l))) H nx):aB Tryz.prog cF [d,.one (.c (.clo f caps0))] H nx K:=
 (mJ l f caps p hl hc e).pure rfl (aI ⟨a,b,trivial⟩) fun r hr=>hr▸h
theorem NC{r:Rng} (h:K (dB (inR r addr)) H nx):aB Tryz.prog nJ [boR (eN r),.one (.c (.fQ [cI addr]))] H nx K:=by
 refine aB.pure (args0:=[boR (eN r),.one (.c (.fQ [cI addr]))]) (R:=fun a=>a=dB (inR r addr)) ?_ rfl (aI ⟨aE rfl,aE rfl,trivial⟩) (fun r hr=>hr▸h);clear h;refine J4 rfl fun Q b=> ?_;unfold rO;repeat' first| (first|apply bn1|apply fE)<;>(simp only[go_sem])|fail
 all_goals first|with_reducible refine aZ b _ rfl rfl ?_|skip
 all_goals exact pD brL
theorem SX (hl:l.length<2^40) (h:K (boP (bK (inR · addr) l)) H nx):aB Tryz.prog qX [dS (l.map eN),boP addr] H nx K:=by
 refine aB.pure (args0:=[dS (l.map eN),boP addr]) (R:=fun a=>a=boP (bK (inR · addr) l)) ?_ rfl (aI ⟨aE rfl,aE rfl,trivial⟩) (fun r hr=>hr▸h);clear h;refine O4 rfl fun Q b=> ?_;unfold u5;repeat' first| (first|apply bn1|refine gS (caps:=[.fQ [cI addr]]) (p:=(inR · addr)) hl rfl (aE rfl) (PR ⟨zE rfl trivial rfl rfl rfl,trivial⟩) (fun x _ H nx K h=>NC h) ?_)<;>(simp only[go_sem])|fail
 all_goals first|with_reducible refine aZ b _ rfl rfl ?_|skip
 all_goals first|rfl|exact qA (by omega)
theorem RE{q:Rng}{r:Rng} (h:K (dB (aaM q r)) H nx):aB Tryz.prog rE [boR (eN q),.one (.c (.fQ (eN r)))] H nx K:=by
 refine aB.pure (args0:=[boR (eN q),.one (.c (.fQ (eN r)))]) (R:=fun a=>a=dB (aaM q r)) ?_ rfl (aI ⟨aE rfl,aE rfl,trivial⟩) (fun r hr=>hr▸h);clear h;refine N2 rfl fun Q b=> ?_;unfold u3;repeat' first| (first|apply bn1|refine bpL (fun h=> ?_) fun h=> ?_)<;>(simp only[go_sem])|fail
 all_goals first|with_reducible refine aZ b _ rfl rfl ?_|skip
 all_goals unfold aaM
 all_goals first|exact pD (by omega)|exact q9 (by omega)|exact j7 (by omega)
theorem YK (hl:l.length<2^40) (h:K (dB (decide (DH l))) H nx):aB Tryz.prog wR [dS (l.map eN)] H nx K:=by
 refine aB.pure (args0:=[dS (l.map eN)]) (R:=fun e=>e=dB (decide (DH l))) ?_ rfl (aI ⟨aE rfl,trivial⟩) (fun r hr=>hr▸h);clear h;refine VB rfl fun Q d=> ?_;unfold zQ;repeat' first|apply bn1<;>(simp only[go_sem])|fail
 (refine aM.loop (α:={k:Nat//k≤l.length∧(∀i,i<k→V9 l i)}) (fun u=>en [(7,boP u.1),(6,boP l.length),(5,dS (l.map eN)),(0,dS (l.map eN))]) (fun _=>.nil) _ (fun u=>l.length-u.1) ⟨0,by omega,(by intros;first|trivial|omega)⟩ (bU (m5 _) (by repeat' first|exact bo2|refine xqI rfl rfl ?_|fail)) ?_);(rintro⟨k,f,hinv⟩ bpQ a);by_cases b:k<l.length
 ·repeat' first| (first|apply bn1|refine bpL (fun h=> ?_) fun h=> ?_|apply fE| (refine lN (l:=l.take k) (caps:=[.fQ (eN (l.getD k default))]) (p:=fun q=>aaM q (l.getD k default)) (by simp;omega) rfl (aE rfl) (PR ⟨zE rfl trivial rfl rfl rfl,trivial⟩) (fun x _ H nx K h=>RE h) ?_))<;>(simp only[go_sem];try simp (disch:=omega) only[Iw])|apply bn2 (by omega)|refine bnE (fun h=> ?_) fun h=> ?_|refine⟨by omega,?_⟩|fail
  all_goals first
   | (refine aZ d _ rfl rfl (j7 fun hm=> ?_);have:=(hm.2 k b);unfold V9 SF at this;omega)
   | (refine a _ _ _ ⟨k+1,by omega,iS hinv (by unfold V9 SF;omega)⟩ (by omega) (by(try dsimp only);omega) (bU (m5 _) (by repeat' first|exact bo2|refine xqI rfl rfl ?_|fail)))
 ·repeat' first|apply bn1<;>(simp only[go_sem])|apply bn3 (by omega)|fail
  have c:k=l.length:=by omega
  subst c;exact aZ d _ rfl rfl (pD ⟨fun h=>⟨h,hinv⟩,fun h=>h.1⟩)
theorem gH{q:Req} (h:K (dB (wrM q)) H nx):aB Tryz.prog eY [boR (eB q)] H nx K:=by
 refine aB.pure (args0:=[boR (eB q)]) (R:=fun a=>a=dB (wrM q)) ?_ rfl (aI ⟨aE rfl,trivial⟩) (fun r hr=>hr▸h);clear h;refine EO rfl fun Q b=> ?_;unfold lM;repeat' first| (first|apply bn1|refine bpL (fun h=> ?_) fun h=> ?_)<;>(simp only[go_sem])|fail
 all_goals first|with_reducible refine aZ b _ rfl rfl ?_|skip
 all_goals unfold wrM
 all_goals first|exact pD (by omega)|exact q9 (by omega)|exact j7 (by omega)|rfl
theorem LA (h:K (dB (decide (¬(0≤n∧n≤65535)))) H nx):aB Tryz.prog lX [boP n] H nx K:=by
 refine aB.pure (args0:=[boP n]) (R:=fun a=>a=dB (decide (¬(0≤n∧n≤65535)))) ?_ rfl (aI ⟨aE rfl,trivial⟩) (fun r hr=>hr▸h);clear h;refine JM rfl fun Q b=> ?_;unfold o8;repeat' first| (first|apply bn1|apply U5)<;>(simp only[go_sem])|fail
 all_goals first|with_reducible refine aZ b _ rfl rfl ?_|skip
 all_goals first|exact pD (by omega)|exact q9 (by omega)|exact j7 (by omega)|rfl
theorem S7 (h:K (dB (decide (¬(-1≤n∧n≤63)))) H nx):aB Tryz.prog rC [boP n] H nx K:=by
 refine aB.pure (args0:=[boP n]) (R:=fun a=>a=dB (decide (¬(-1≤n∧n≤63)))) ?_ rfl (aI ⟨aE rfl,trivial⟩) (fun r hr=>hr▸h);clear h;refine OW rfl fun Q b=> ?_;unfold vO;repeat' first| (first|apply bn1|apply fE)<;>(simp only[go_sem])|fail
 all_goals first|with_reducible refine aZ b _ rfl rfl ?_|skip
 all_goals first|exact pD (by omega)|exact q9 (by omega)|exact j7 (by omega)|rfl
theorem QA (h:K (dB (decide (¬(0≤n∧n≤3)))) H nx):aB Tryz.prog qK [boP n] H nx K:=by
 refine aB.pure (args0:=[boP n]) (R:=fun a=>a=dB (decide (¬(0≤n∧n≤3)))) ?_ rfl (aI ⟨aE rfl,trivial⟩) (fun r hr=>hr▸h);clear h;refine PF rfl fun Q b=> ?_;unfold vK;repeat' first| (first|apply bn1|apply fE)<;>(simp only[go_sem])|fail
 all_goals first|with_reducible refine aZ b _ rfl rfl ?_|skip
 all_goals first|exact pD (by omega)|exact q9 (by omega)|exact j7 (by omega)|rfl
theorem S5 (h:K (dB (decide (¬(0≤n∧n≤3)))) H nx):aB Tryz.prog rT [boP n] H nx K:=by
 refine aB.pure (args0:=[boP n]) (R:=fun a=>a=dB (decide (¬(0≤n∧n≤3)))) ?_ rfl (aI ⟨aE rfl,trivial⟩) (fun r hr=>hr▸h);clear h;refine ON rfl fun Q b=> ?_;unfold vC;repeat' first| (first|apply bn1|apply fE)<;>(simp only[go_sem])|fail
 all_goals first|with_reducible refine aZ b _ rfl rfl ?_|skip
 all_goals first|exact pD (by omega)|exact q9 (by omega)|exact j7 (by omega)|rfl
theorem vG{l:List Int} (hl:l.length<2^40){b:D} (a:CvD H (fun _=>True) id 0 (dS (l.map aJ)) b) (h:K (dB (decide (All l 0 65535))) H nx):aB Tryz.prog jB [b] H nx K:=by
 refine aB.pure (args0:=[dS (l.map aJ)]) (R:=fun c=>c=dB (decide (All l 0 65535))) ?_ rfl (aI ⟨a,trivial⟩) (fun r hr=>hr▸h);clear h;refine NB rfl fun Q d=> ?_;unfold sO;repeat' first| (first|apply bn1|refine d8 (caps:=[]) (p:=fun x=>decide (¬(0≤x∧x≤65535))) hl rfl (aE rfl) (kC rfl) (fun x _ H nx K h=>LA h) ?_)<;>(simp only[go_sem])|fail
 all_goals first|with_reducible refine aZ d _ rfl rfl ?_|skip
 all_goals exact pD KP.symm
theorem X0{l:List Int} (hl:l.length<2^40){b:D} (a:CvD H (fun _=>True) id 0 (boR [.isl (l.map aJ)]) b) (h:K (dB (decide ((l.length:Int)=64∧All l 0 65535))) H nx):aB Tryz.prog wP [b] H nx K:=by
 refine aB.pure (args0:=[boR [.isl (l.map aJ)]]) (R:=fun c=>c=dB (decide ((l.length:Int)=64∧All l 0 65535))) ?_ rfl (aI ⟨a,trivial⟩) (fun r hr=>hr▸h);clear h;refine T3 rfl fun Q d=> ?_;unfold AK;repeat' first| (first|apply bn1|refine bpL (fun h=> ?_) fun h=> ?_|refine vG hl (aE rfl) ?_)<;>(simp only[go_sem])|fail
 all_goals first|with_reducible refine aZ d _ rfl rfl ?_|skip
 all_goals first|exact j7 (by grind)|exact pD (by grind)
theorem JZ{w:List Int}{u:List Int} (hw:w.length<2^40) (hu:u.length<2^40){b:D} (a:CvD H (fun _=>True) id 0 (boR [.isl (w.map aJ),.isl (u.map aJ)]) b) (h:K (dB (decide (JS w u))) H nx):aB Tryz.prog rG [b] H nx K:=by
 refine aB.pure (args0:=[boR [.isl (w.map aJ),.isl (u.map aJ)]]) (R:=fun c=>c=dB (decide (JS w u))) ?_ rfl (aI ⟨a,trivial⟩) (fun r hr=>hr▸h);clear h;refine UK rfl fun Q d=> ?_;unfold z3;repeat' first| (first|apply bn1|refine bpL (fun h=> ?_) fun h=> ?_|refine X0 hw (aE rfl) ?_|refine d8 (l:=u) (caps:=[]) (p:=fun x=>decide (¬(-1≤x∧x≤63))) hu rfl (aE rfl) (kC rfl) (fun x _ H nx K h=>S7 h) ?_)<;>(simp only[go_sem])|fail
 all_goals first|with_reducible refine aZ d _ rfl rfl ?_|skip
 all_goals first|exact j7 (by unfold JS;rw[KP (lo:=-1)];grind)|exact pD (by unfold JS;rw[KP (lo:=-1)];grind)
theorem W2{q:Req} (b:q.data.length<2^40) (hl:q.g6.length<2^40) (h:K (dB (decide (dH q))) H nx):aB Tryz.prog wD [boR (eB q)] H nx K:=by
 refine aB.pure (args0:=[boR (eB q)]) (R:=fun c=>c=dB (decide (dH q))) ?_ rfl (aI ⟨aE rfl,trivial⟩) (fun r hr=>hr▸h);clear h;refine VJ rfl fun Q a=> ?_;unfold zP;repeat' first| (first|apply bn1|refine bpL (fun h=> ?_) fun h=> ?_|apply fE|apply gH|apply wS|refine vG b (aE rfl) ?_|refine d8 (l:=q.g6) (caps:=[]) (p:=fun x=>decide (¬(0≤x∧x≤3))) hl rfl (aE rfl) (kC rfl) (fun x _ H nx K h=>S5 h) ?_)<;>(simp only[go_sem])| ((refine bnF (fun h=> ?_) (fun h=> ?_))<;>try subst h)|fail
 all_goals first|with_reducible refine aZ a _ rfl rfl ?_|skip
 all_goals
  have e:=@KP q.g6 0 3
  have d:wrM q=true↔(q.kind=2∨q.kind=4):=by simp[wrM]
  clear a
  first|exact j7 (by unfold dH n5;grind)|exact q9 (by unfold dH n5;grind)|exact pD (by unfold dH n5;grind)
theorem M0{q:Req} (a:q.data.length<2^40) (hl:q.g6.length<2^40) (h:K (dB (decide (¬dH q))) H nx):aB Tryz.prog nH [boR (eB q)] H nx K:=by
 refine aB.pure (args0:=[boR (eB q)]) (R:=fun b=>b=dB (decide (¬dH q))) ?_ rfl (aI ⟨aE rfl,trivial⟩) (fun r hr=>hr▸h);clear h;refine KW rfl fun Q c=> ?_;unfold rM;repeat' first| (first|apply bn1|apply W2 a hl)<;>(simp only[go_sem])|fail
 all_goals first|with_reducible refine aZ c _ rfl rfl ?_|skip
 all_goals first|exact pD (by omega)|exact q9 (by omega)|exact j7 (by omega)|rfl
theorem Q6{p:Prog} (hp:p.length<2^40) (a: ∀q∈p,q.data.length<2^40∧q.g6.length<2^40) (h:K (dB (decide (¬mV p))) H nx):aB Tryz.prog rR [dS (p.map eB)] H nx K:=by
 refine aB.pure (args0:=[dS (p.map eB)]) (R:=fun c=>c=dB (decide (¬mV p))) ?_ rfl (aI ⟨aE rfl,trivial⟩) (fun r hr=>hr▸h);clear h;refine OS rfl fun Q d=> ?_;unfold u6;repeat' first| (first|apply bn1|refine bpL (fun h=> ?_) fun h=> ?_|refine nW (l:=p) (caps:=[]) (p:=fun q=>decide (¬dH q)) hp rfl (aE rfl) (kC rfl) (fun x b H nx K h=>M0 (a x b).1 (a x b).2 h) ?_)<;>(simp only[go_sem])|fail
 all_goals first|with_reducible refine aZ d _ rfl rfl ?_|skip
 all_goals first|exact q9 (by unfold mV;grind)|exact j7 (by unfold mV;grind)|exact pD (by unfold mV;grind)
theorem W6{c:Cfg} (hc:jO c) (h:K (dB (decide (aQ c))) H nx):aB Tryz.prog wF [boR (cU c)] H nx K:=by
 refine aB.pure (args0:=[boR (cU c)]) (R:=fun b=>b=dB (decide (aQ c))) ?_ rfl (aI ⟨aE rfl,trivial⟩) (fun r hr=>hr▸h);clear h;refine T9 rfl fun Q d=> ?_;unfold z4;repeat' first| (first|apply bn1|refine bpL (fun h=> ?_) fun h=> ?_|apply YK hc.map|refine d8 (l:=c.lat) (caps:=[]) (p:=fun x=>decide (¬(0≤x∧x≤3))) hc.lat rfl (aE rfl) (kC rfl) (fun x _ H nx K h=>QA h) ?_|refine mS (l:=c.cP) (caps:=[]) (p:=fun q=>decide (¬mV q)) hc.cP rfl (aE rfl) (kC rfl) (fun x a H nx K h=>Q6 (hc.prog x a) (hc.req x a) h) ?_)<;>(simp only[go_sem])|fail
 all_goals first|with_reducible refine aZ d _ rfl rfl ?_|skip
 all_goals
  have e:=@KP c.lat 0 3
  first|exact q9 (by unfold aQ;grind)|exact j7 (by unfold aQ;grind)|exact pD (by unfold aQ;grind)
theorem iJ{c:Cfg}{who:Int} (hp:c.cP.length=3) (a:oA c who n) (h:K (boP (bT c who n).id) H nx):aB Tryz.prog fB [boR (cU c),boP who,boP n] H nx K:=by
 refine aB.pure (args0:=[boR (cU c),boP who,boP n]) (R:=fun b=>b=boP (bT c who n).id) ?_ rfl (aI ⟨aE rfl,aE rfl,aE rfl,trivial⟩) (fun r hr=>hr▸h);clear h;refine KX rfl fun Q d=> ?_;unfold rD;obtain⟨e,f,g⟩:=a;repeat' first|apply bn1<;>(simp only[go_sem])|refine⟨by omega,?_⟩|fail
 all_goals first|with_reducible refine aZ d _ rfl rfl ?_|skip
 all_goals first|rfl|exact qA (by omega)
end
attribute [go_sem] Y5
section
variable {H : aA} {nx : Nat} {K : D → aA → Nat → Prop}
theorem PG{a:Int} (h:K (dB false) H nx):aB Tryz.prog lG [boP a] H nx K:=by
 refine aB.pure (args0:=[boP a]) (R:=fun b=>b=dB false) ?_ rfl (aI ⟨aE rfl,trivial⟩) (fun r hr=>hr▸h);clear h;refine MP rfl fun Q c=> ?_;unfold sW;repeat' first|apply bn1<;>(simp only[go_sem])|fail
 all_goals first|with_reducible refine aZ c _ rfl rfl ?_|skip
 all_goals first|rfl|simp
def UI (a b:Int):Int:=if a<b then-1 else if a>b then 1 else 0
theorem KI{a:Int}{b:Int} (h:K (boP (UI a b)) H nx):aB Tryz.prog jC [boP a,boP b] H nx K:=by
 refine aB.pure (args0:=[boP a,boP b]) (R:=fun c=>c=boP (UI a b)) ?_ rfl (aI ⟨aE rfl,aE rfl,trivial⟩) (fun r hr=>hr▸h);clear h;refine JR rfl fun Q d=> ?_;unfold pI;repeat' first| (first|apply bn1|apply PG)<;>(simp only[go_sem])|refine bnE (fun h=> ?_) fun h=> ?_|fail
 all_goals first|with_reducible refine aZ d _ rfl rfl ?_|skip
 all_goals exact qA (by unfold UI;grind)
def orI (a b:Int):Int:=if a≠0 then a else b
theorem WX{a:Int}{b:Int}{e:D} (c:CvD H (fun _=>True) id 0 (dS [aJ a,aJ b]) e) (h:K (boP (orI a b)) H nx):aB Tryz.prog wC [e] H nx K:=by
 refine aB.pure (args0:=[dS [aJ a,aJ b]]) (R:=fun j=>j=boP (orI a b)) ?_ rfl (aI ⟨c,trivial⟩) (fun r hr=>hr▸h);clear h;refine T8 rfl fun Q f=> ?_;unfold z6;obtain⟨l,hl⟩: ∃l,l=[a,b]:=⟨_,rfl⟩
 have he:[aJ a,aJ b]=l.map aJ:=by rw[hl];rfl
 have hlen:l.length=2:=by rw[hl];rfl
 rw[he];repeat' first|apply bn1<;>(simp only[go_sem])|fail
 (refine aM.loop (α:={k:Nat//k≤2∧(∀i,i<k→l.getD i default=0)}) (fun u=>en [(8,boP u.1),(7,boP 2),(6,dS (l.map aJ)),(3,boP 0)]) (fun _=>.nil) _ (fun u=>2-u.1) ⟨0,by omega,(by intros;first|trivial|omega)⟩ (bU (m5 _) (by repeat' first|exact bo2|refine xqI rfl rfl ?_|refine xqV rfl (by omega) ?_|fail)) ?_);(rintro⟨k,g,hinv⟩ bpQ d);by_cases m:k<2
 ·repeat' first|apply bn1<;>(simp only[go_sem];try simp (disch:=omega) only[Iw])|apply bn2 (by omega)|refine bnE (fun h=> ?_) fun h=> ?_|refine⟨by omega,?_⟩|fail
  ·refine aZ f (boP _) rfl rfl (qA ?_);have g:k=0∨k=1:=(by omega);have n:=hinv 0;rcases g with rfl|rfl<;>simp[hl,List.getD] at* <;>simp_all [orI]
  · (refine d _ _ _ ⟨k+1,by omega,iS hinv (by omega)⟩ (by omega) (by(try dsimp only);omega) (bU (m5 _) (by repeat' first|exact bo2|refine xqI rfl rfl ?_|fail)))
 ·repeat' first|apply bn1<;>(simp only[go_sem])|apply bn3 (by omega)|fail
  refine aZ f (boP _) rfl rfl (qA ?_);have n:=hinv 0 (by omega);have o:=hinv 1 (by omega);simp[hl,List.getD] at* <;>simp_all [orI]
def ad5 (a b:Job):Int:=orI (UI a.who b.who) (UI a.n b.n)
theorem E7{a b:Job}:ad5 a b<0↔uL a b=true:=by rw[qL];unfold ad5 orI UI;grind
theorem xM{a:Job}{b:Job} (h:K (boP (ad5 a b)) H nx):aB Tryz.prog bJ [boR (aS a),boR (aS b)] H nx K:=by
 refine aB.pure (args0:=[boR (aS a),boR (aS b)]) (R:=fun c=>c=boP (ad5 a b)) ?_ rfl (aI ⟨aE rfl,aE rfl,trivial⟩) (fun r hr=>hr▸h);clear h;refine HI rfl fun Q d=> ?_;unfold nP;repeat' first| (first|apply bn1|apply KI|refine WX (DJ (rows:=[aJ (UI a.who b.who),aJ (UI a.n b.n)]) (aG bF [UI a.who b.who,UI a.n b.n]) rfl trivial rfl rfl rfl (m5 2)) ?_)<;>(simp only[go_sem])|fail
 all_goals first|with_reducible refine aZ d _ rfl rfl ?_|skip
 all_goals first|rfl|exact qA (by omega)
theorem BI (l:List Int) (hl:l.length<2^21):aB Tryz.prog gO [dS (l.map aJ)] (hp []) 0
 fun r H' e=>∃cap,l.length≤cap∧e=1∧H'=hp [(0,⟨1,cap,l.map aJ⟩)]∧r=boQ 1 0 l.length cap:=by
 refine zU rfl fun Q c=> ?_
 unfold jL
 refine aM.seq (aM.EJ 1 ?_)
 repeat' first|apply bn1<;>(simp only[go_sem])|refine bpI (fun h=> ?_) fun h=> ?_| (with_reducible first|refine fun(cap:Nat) (d:_≤cap)=> ?_|refine fun(f:_≤cap)=> ?_|refine fun(b:Bool)=> ?_)| ((refine bnF (fun h=> ?_) (fun h=> ?_))<;>try subst h)|refine⟨by omega,?_⟩|fail
 all_goals first
  | (have a:=m5 cap
     (refine c _ _ _ _ _ 1 (boQ 1 0 l.length cap) (hp [(0,⟨1,cap,l.map aJ⟩)]) _ _ (.inr rfl) rfl (fU [6] (by omega) (by repeat' first|exact bo2| ((with_reducible apply bo0);exact bpB (by omega) rfl rfl (by rfl) rfl)| ((with_reducible apply bo1);apply bo7)|fail) ⟨⟨by simp,by simp[sgL],_,rfl,bP (aG bF _) rfl rfl⟩,trivial⟩ (by simp[sgL])) ?_)
     exact⟨cap,by omega,rfl,rfl,rfl⟩)
  | (have g:l=[]:=CE (by omega)
     subst g
     (refine c _ _ _ _ _ 1 (boQ 1 0 0 0) (hp [(0,⟨1,0,([]:List Int).map aJ⟩)]) _ _ (.inr rfl) rfl (fU [0] (by omega) (by repeat' first|exact bo2| ((with_reducible apply bo0);exact bpA)| ((with_reducible apply bo1);apply bo7)|fail) ⟨⟨by simp,by simp[sgL],_,rfl,bP (aG bF _) rfl rfl⟩,trivial⟩ (by simp[sgL])) ?_)
     exact⟨0,m5 _,rfl,rfl,rfl⟩)
variable{l:List Int}
theorem A1 (hl:l.length<2^21) (h: ∀cap,l.length≤cap→K (boQ 1 nx l.length cap) (H.set nx ⟨1,cap,l.map aJ⟩) (nx+1)):aB Tryz.prog gO [dS (l.map aJ)] H nx K:=by
 refine(BI l hl).AF (l0:=[]) [] rfl ⟨aE rfl,trivial⟩ trivial (by simp) (by simp) (by simp) fun r H' e _ ⟨cap,bqB,a,b,c⟩=> ?_;have h:=h cap bqB;subst a;subst b;subst c;have d:back (tau 0 nx (nth [])) (hp [(0,⟨1,cap,l.map aJ⟩)]) 1 H=H.set nx ⟨1,cap,l.map aJ⟩:=by simp only[back,hp,aA.set,tau,bq2,if_true,if_false,Nat.sub_zero,Nat.add_zero,Option.map_some,uB,aA.eL]
 rw[←d] at h;exact h
theorem B2 (l:List Int) (cap m:Nat) (hl:l.length<2^21) (hc:l.length≤cap):aB Tryz.prog iD [boQ 1 0 l.length cap] (hp [(0,⟨1,m,l.map aJ⟩)]) 1
 fun r H' a=>a=1∧ ∃o',H'=hp [(0,o')]∧C7 o'∧o'=⟨1,m,l.map aJ⟩∧r=boQ 1 0 l.length l.length:=by
 refine BK rfl fun Q b=> ?_
 unfold kB
 repeat' first|apply bn1<;>(simp only[go_sem])|refine⟨by omega,?_⟩|fail
 exact lA b (boQ 1 0 l.length l.length) _ _ rfl (by repeat' first|exact bo2| ((with_reducible apply bo0);exact bpB (by omega) rfl rfl (by rfl) rfl)| ((with_reducible apply bo1);apply bo7)|fail) rfl (oB bF _) ⟨rfl,rfl⟩
theorem BY{cap m i:Nat} (hl:l.length<2^21) (hc:l.length≤cap) (hi:i<nx) (a:H i=some ⟨1,m,l.map aJ⟩) (h:K (boQ 1 i l.length l.length) (H.set i ⟨1,m,l.map aJ⟩) nx):
 aB Tryz.prog iD [boQ 1 i l.length cap] H nx K:=
 (B2 l cap m hl hc).OU i rfl (gW ⟨qS (by omega) rfl rfl rfl rfl,trivial⟩) hi a (oB bF _) fun r o' ⟨b,c⟩=>by subst b;subst c;exact h
theorem NI (l:List Int) (hl:l.length<2^21):aB Tryz.prog eX [dS (l.map aJ)] (hp []) 0
 fun r H' b=>∃cap,l.length≤cap∧b=1∧H'=hp [(0,⟨1,cap,l.map aJ⟩)]∧r=boQ 1 0 l.length l.length:=by
 refine LI rfl fun Q c=> ?_
 unfold rI
 repeat' first| (first|apply bn1|refine A1 hl (fun cap a=> ?_)|refine BY hl a (by omega) rfl ?_)<;>(simp only[go_sem])|fail
 (refine c _ _ _ _ _ 1 (boQ 1 0 l.length l.length) (hp [(0,⟨1,cap,l.map aJ⟩)]) _ _ (.inr rfl) rfl (fU [5] (by omega) (by repeat' first|exact bo2| ((with_reducible apply bo0);exact bpB (by omega) rfl rfl (by rfl) rfl)| ((with_reducible apply bo1);apply bo7)|fail) ⟨⟨by simp,by simp[sgL],_,rfl,bP (aG bF _) rfl rfl⟩,trivial⟩ (by simp[sgL])) ?_)
 exact⟨cap,a,rfl,rfl,rfl⟩
theorem kH (hl:l.length<2^21) (h: ∀m,l.length≤m→K (boQ 1 nx l.length l.length) (H.set nx ⟨1,m,l.map aJ⟩) (nx+1)):aB Tryz.prog eX [dS (l.map aJ)] H nx K:=by
 refine(NI l hl).AF (l0:=[]) [] rfl ⟨aE rfl,trivial⟩ trivial (by simp) (by simp) (by simp) fun r H' e _ ⟨cap,bqB,a,b,c⟩=> ?_;have h:=h cap bqB;subst a;subst b;subst c;have d:back (tau 0 nx (nth [])) (hp [(0,⟨1,cap,l.map aJ⟩)]) 1 H=H.set nx ⟨1,cap,l.map aJ⟩:=by simp only[back,hp,aA.set,tau,bq2,if_true,if_false,Nat.sub_zero,Nat.add_zero,Option.map_some,uB,aA.eL]
 rw[←d] at h;exact h
theorem BB{τ:Nat→Nat}{n m:Nat}{l:List Job}:bA.rn τ ⟨n,m,l.map aS⟩=⟨n,m,l.map aS⟩:=by refine rF fun r hr x a=> ?_;obtain⟨y,_,rfl⟩:=CF.1 hr;exact w2.1 (dZ y).2 x a
theorem uW (l:List Job) (hl:l.length<2^21):aB Tryz.prog eG [dS (l.map aS)] (hp []) 0
 fun r H' e=>∃cap,l.length≤cap∧e=1∧H'=hp [(0,⟨5,cap,l.map aS⟩)]∧r=boQ 5 0 l.length cap:=by
 refine s9 rfl fun Q c=> ?_
 unfold gC
 refine aM.seq (aM.EJ 5 ?_)
 repeat' first|apply bn1<;>(simp only[go_sem])|refine bpI (fun h=> ?_) fun h=> ?_| (with_reducible first|refine fun(cap:Nat) (d:_≤cap)=> ?_|refine fun(f:_≤cap)=> ?_|refine fun(b:Bool)=> ?_)| ((refine bnF (fun h=> ?_) (fun h=> ?_))<;>try subst h)|refine⟨by omega,?_⟩|fail
 all_goals first
  | (have a:=m5 cap
     (refine c _ _ _ _ _ 1 (boQ 5 0 l.length cap) (hp [(0,⟨5,cap,l.map aS⟩)]) _ _ (.inr rfl) rfl (fU [6] (by omega) (by repeat' first|exact bo2| ((with_reducible apply bo0);exact bpB (by omega) rfl rfl (by rfl) rfl)| ((with_reducible apply bo1);apply bo7)|fail) ⟨⟨by simp,by simp[sgL],_,rfl,bP (aG dZ _) rfl rfl⟩,trivial⟩ (by simp[sgL])) ?_)
     exact⟨cap,by omega,rfl,rfl,rfl⟩)
  | (have g:l=[]:=CE (by omega)
     subst g
     (refine c _ _ _ _ _ 1 (boQ 5 0 0 0) (hp [(0,⟨5,0,([]:List Job).map aS⟩)]) _ _ (.inr rfl) rfl (fU [0] (by omega) (by repeat' first|exact bo2| ((with_reducible apply bo0);exact bpA)| ((with_reducible apply bo1);apply bo7)|fail) ⟨⟨by simp,by simp[sgL],_,rfl,bP (aG dZ _) rfl rfl⟩,trivial⟩ (by simp[sgL])) ?_)
     exact⟨0,m5 _,rfl,rfl,rfl⟩)
theorem t0{l:List Job} (hl:l.length<2^21) (h: ∀cap,l.length≤cap→K (boQ 5 nx l.length cap) (H.set nx ⟨5,cap,l.map aS⟩) (nx+1)):aB Tryz.prog eG [dS (l.map aS)] H nx K:=by
 refine(uW l hl).AF (l0:=[]) [] rfl ⟨aE rfl,trivial⟩ trivial (by simp) (by simp) (by simp) fun r H' e _ ⟨cap,bqB,a,b,c⟩=> ?_;have h:=h cap bqB;subst a;subst b;subst c;have d:back (tau 0 nx (nth [])) (hp [(0,⟨5,cap,l.map aS⟩)]) 1 H=H.set nx ⟨5,cap,l.map aS⟩:=by simp only[back,hp,aA.set,tau,bq2,if_true,if_false,Nat.sub_zero,Nat.add_zero,Option.map_some,BB,aA.eL]
 rw[←d] at h;exact h
theorem vP (l:List Job) (cap m:Nat) (hl:l.length<2^21) (hc:l.length≤cap):aB Tryz.prog eS [boQ 5 0 l.length cap] (hp [(0,⟨5,m,l.map aS⟩)]) 1
 fun r H' a=>a=1∧ ∃o',H'=hp [(0,o')]∧C7 o'∧o'=⟨5,m,l.map aS⟩∧r=boQ 5 0 l.length l.length:=by
 refine uU rfl fun Q b=> ?_
 unfold gI
 repeat' first|apply bn1<;>(simp only[go_sem])|refine⟨by omega,?_⟩|fail
 exact lA b (boQ 5 0 l.length l.length) _ _ rfl (by repeat' first|exact bo2| ((with_reducible apply bo0);exact bpB (by omega) rfl rfl (by rfl) rfl)| ((with_reducible apply bo1);apply bo7)|fail) rfl (oB dZ _) ⟨rfl,rfl⟩
theorem vN{l:List Job}{cap m i:Nat} (hl:l.length<2^21) (hc:l.length≤cap) (hi:i<nx) (a:H i=some ⟨5,m,l.map aS⟩) (h:K (boQ 5 i l.length l.length) (H.set i ⟨5,m,l.map aS⟩) nx):
 aB Tryz.prog eS [boQ 5 i l.length cap] H nx K:=
 (vP l cap m hl hc).OU i rfl (gW ⟨qS (by omega) rfl rfl rfl rfl,trivial⟩) hi a (oB dZ _) fun r o' ⟨b,c⟩=>by subst b;subst c;exact h
theorem zN (l:List Job) (hl:l.length<2^21):aB Tryz.prog gG [dS (l.map aS)] (hp []) 0
 fun r H' b=>∃cap,l.length≤cap∧b=1∧H'=hp [(0,⟨5,cap,l.map aS⟩)]∧r=boQ 5 0 l.length l.length:=by
 refine yQ rfl fun Q c=> ?_
 unfold i6
 repeat' first| (first|apply bn1|refine t0 hl (fun cap a=> ?_)|refine vN hl a (by omega) rfl ?_)<;>(simp only[go_sem])|fail
 (refine c _ _ _ _ _ 1 (boQ 5 0 l.length l.length) (hp [(0,⟨5,cap,l.map aS⟩)]) _ _ (.inr rfl) rfl (fU [5] (by omega) (by repeat' first|exact bo2| ((with_reducible apply bo0);exact bpB (by omega) rfl rfl (by rfl) rfl)| ((with_reducible apply bo1);apply bo7)|fail) ⟨⟨by simp,by simp[sgL],_,rfl,bP (aG dZ _) rfl rfl⟩,trivial⟩ (by simp[sgL])) ?_)
 exact⟨cap,a,rfl,rfl,rfl⟩
theorem z7{l:List Job} (hl:l.length<2^21) (h: ∀m,l.length≤m→K (boQ 5 nx l.length l.length) (H.set nx ⟨5,m,l.map aS⟩) (nx+1)):aB Tryz.prog gG [dS (l.map aS)] H nx K:=by
 refine(zN l hl).AF (l0:=[]) [] rfl ⟨aE rfl,trivial⟩ trivial (by simp) (by simp) (by simp) fun r H' e _ ⟨cap,bqB,a,b,c⟩=> ?_;have h:=h cap bqB;subst a;subst b;subst c;have d:back (tau 0 nx (nth [])) (hp [(0,⟨5,cap,l.map aS⟩)]) 1 H=H.set nx ⟨5,cap,l.map aS⟩:=by simp only[back,hp,aA.set,tau,bq2,if_true,if_false,Nat.sub_zero,Nat.add_zero,Option.map_some,BB,aA.eL]
 rw[←d] at h;exact h
theorem O0 (l:List Job) (hl:l.length<2^21) (f: ∀j∈l,j.rsp.data.length<2^21):aB Tryz.prog eO [dS (l.map aS)] (hp []) 0
 fun r H' g=>∃cap,l.length≤cap∧g=1∧H'=hp [(0,⟨5,cap,l.map aS⟩)]∧r=boQ 5 0 l.length l.length:=by
 refine MD rfl fun Q h=> ?_
 unfold tD
 repeat' first| (first|apply bn1|refine z7 hl (fun m0 c=> ?_))<;>(simp only[go_sem])|fail
 refine aM.sG 1 (β:=Nat) (fun b k=>en [(10,boP k),(9,boP l.length),(8,boQ 5 b l.length l.length),(3,boQ 5 b l.length l.length)])
  (fun b k=>hp [(b,⟨5,m0,l.map aS⟩)]) (fun k=>k≤l.length) (fun k=>l.length-k) 0 (by(refine cR [4] (by omega) (by repeat' first|exact bo2|refine xqI rfl rfl ?_|refine xqO (by omega) rfl rfl (by rfl) ?_|fail) ⟨⟨by simp,by simp[sgL],_,rfl,bP (aG dZ _) rfl rfl⟩,trivial⟩ (by simp[sgL]))) (by omega) ?_
 rintro k i bpQ d
 by_cases a:k<l.length
 ·have e:=f _ (cC a);repeat' first| (first|apply bn1|refine kH e (fun m hm=> ?_))<;>(simp only[go_sem];try simp (disch:=omega) only[Iw])|apply bn2 (by omega)|refine⟨by omega,?_⟩|fail
  exact d _ _ _ (k+1) (by omega) (by(refine cR [8] (by omega) (by repeat' first|exact bo2|refine xqI rfl rfl ?_|refine xqO (by omega) rfl rfl (by rfl) ?_|fail) ⟨⟨by simp,by simp[sgL],_,rfl,ak7 (R:=l.map aS) (r':=aS (l.getD k default)) rfl rfl (atN a) (fun r hr=>(aG dZ l r hr).2) rfl (aH (bB rfl) (aH (bB rfl) (aH (bB rfl) (aH (bB rfl) (aH (bW bF rfl rfl (m5 _) (by simp)) eP)))))⟩,trivial⟩ (by simp[sgL]))) (by omega) (by omega)
 ·repeat' first|apply bn1<;>(simp only[go_sem])|apply bn3 (by omega)|fail
  (refine h _ _ _ _ _ 1 (boQ 5 0 l.length l.length) (hp [(0,⟨5,m0,l.map aS⟩)]) _ _ (.inr rfl) rfl (fU [8] (by omega) (by repeat' first|exact bo2| ((with_reducible apply bo0);exact bpB (by omega) rfl rfl (by rfl) rfl)| ((with_reducible apply bo1);apply bo7)|fail) ⟨⟨by simp,by simp[sgL],_,rfl,bP (aG dZ _) rfl rfl⟩,trivial⟩ (by simp[sgL])) ?_);exact⟨m0,c,rfl,rfl,rfl⟩
theorem gY{l:List Job} (hl:l.length<2^21) (a: ∀j∈l,j.rsp.data.length<2^21) (h: ∀m,l.length≤m→K (boQ 5 nx l.length l.length) (H.set nx ⟨5,m,l.map aS⟩) (nx+1)):aB Tryz.prog eO [dS (l.map aS)] H nx K:=by
 refine(O0 l hl a).AF (l0:=[]) [] rfl ⟨aE rfl,trivial⟩ trivial (by simp) (by simp) (by simp) fun r H' f _ ⟨cap,bqB,b,c,d⟩=> ?_;have h:=h cap bqB;subst b;subst c;subst d;have e:back (tau 0 nx (nth [])) (hp [(0,⟨5,cap,l.map aS⟩)]) 1 H=H.set nx ⟨5,cap,l.map aS⟩:=by simp only[back,hp,aA.set,tau,bq2,if_true,if_false,Nat.sub_zero,Nat.add_zero,Option.map_some,BB,aA.eL]
 rw[←e] at h;exact h
theorem B1 (w u:List Int) (hw:w.length<2^21) (hu:u.length<2^21):aB Tryz.prog fL [boR [.isl (w.map aJ),.isl (u.map aJ)]] (hp []) 0
 fun r H' c=>∃m0 m1,w.length≤m0∧u.length≤m1∧c=2∧H'=hp [(0,⟨1,m0,w.map aJ⟩),(1,⟨1,m1,u.map aJ⟩)]∧r=boR [.osl 1 0 0 w.length w.length,.osl 1 1 0 u.length u.length]:=by
 refine A9 rfl fun Q d=> ?_
 unfold kI
 repeat' first| (first|apply bn1|refine kH hw (fun m0 a=> ?_)|refine kH hu (fun m1 b=> ?_))<;>(simp only[go_sem])|fail
 (refine d _ _ _ _ _ 2 (boR [.osl 1 0 0 w.length w.length,.osl 1 1 0 u.length u.length]) (hp [(0,⟨1,m0,w.map aJ⟩),(1,⟨1,m1,u.map aJ⟩)]) _ _ (.inr rfl) rfl (fU [12,13] (by omega) (by repeat' first|exact bo2| ((with_reducible apply bo0);exact bpB (by omega) rfl rfl (by rfl) rfl)| ((with_reducible apply bo1);apply bo6)|exact bo4|apply bo5|fail) ⟨⟨by simp,by simp[sgL],_,rfl,bP (aG bF _) rfl rfl⟩,⟨by simp,by simp[sgL],_,rfl,bP (aG bF _) rfl rfl⟩,trivial⟩ (by simp[sgL])) ?_)
 exact⟨m0,m1,a,b,rfl,rfl,rfl⟩
theorem qN{w u:List Int} (hw:w.length<2^21) (hu:u.length<2^21) (h: ∀m0 m1,w.length≤m0→u.length≤m1→K (boR [.osl 1 nx 0 w.length w.length,.osl 1 (nx+1) 0 u.length u.length]) ((H.set nx ⟨1,m0,w.map aJ⟩).set (nx+1) ⟨1,m1,u.map aJ⟩) (nx+2)):aB Tryz.prog fL [boR [.isl (w.map aJ),.isl (u.map aJ)]] H nx K:=by
 refine(B1 w u hw hu).AF (l0:=[]) [] rfl ⟨aE rfl,trivial⟩ trivial (by simp) (by simp) (by simp) fun r H' f _ ⟨m0,m1,bqB,a,b,c,d⟩=> ?_;have h:=h m0 m1 bqB a;subst b;subst c;subst d;have e:back (tau 0 nx (nth [])) (hp [(0,⟨1,m0,w.map aJ⟩),(1,⟨1,m1,u.map aJ⟩)]) 2 H=(H.set nx ⟨1,m0,w.map aJ⟩).set (nx+1) ⟨1,m1,u.map aJ⟩:=by simp[back,hp,aA.set,aA.nil,tau,nth,uB,BB,aA.eL,aA.yI]
 rw[←e] at h;exact h
def oIm (i0 i1 a b c d c0 c1 c2 e f g:Nat) (s:TSt):List D1:=[.osl 1 i0 0 s.words.length c0,.osl 1 i1 0 s.holds.length c1,.osl 1 a 0 s.asked.length c2,.osl 5 b 0 s.wait.length e,.osl 5 c 0 s.done.length f,.osl 5 d 0 s.told.length g]
abbrev btN (n:Int):D:=.one (.c (.v (.int .u64 n)))
theorem K1 (l:List Int) (p:Nat) (n:Int) (hl:kZ l) (f:p<2^50) (o: -2^31<n∧n<2^31):aB Tryz.prog aD [bkP 2 0,boP n] (hp [(0,rdO l p)]) 1
 fun r H' g=>g=1∧ ∃o',H'=hp [(0,o')]∧C7 o'∧o'=rdO l (p+1)∧ ∃x:Int,r=boP x∧0≤x∧(x<n∨x=0):=by
 have i:=hl.len
 refine JN rfl fun Q d=> ?_
 unfold pG
 simp only[rdO]
 repeat' first| (first|apply bn1|refine bpL (fun h=> ?_) fun h=> ?_)<;>(simp only[go_sem];try simp (disch:=omega) only[Iw])|refine bnE (fun h=> ?_) fun h=> ?_|refine⟨by omega,?_⟩|fail
 ·exact lA d (boP 0) _ _ rfl (aE rfl) rfl (aV l (p+1)) ⟨rfl,0,rfl,by omega,by omega⟩
 ·exact lA d (boP 0) _ _ rfl (aE rfl) rfl (aV l (p+1)) ⟨rfl,0,rfl,by omega,by omega⟩
 ·have j:=hl.at (p+1-1:Int).toNat;rw[IntWalk.i64_in (l.getD _ _) (by omega)];exact lA d (boP _) _ _ rfl (aE rfl) rfl (aV l (p+1)) ⟨rfl,_,rfl,br0 _ (by omega),.inl (br1 _ (by omega))⟩
 ·have k:(p:Int)+1-1=p:=by omega
  rw[k] at*;have c:(0:Int)<l.length:=by omega
  have bpN:=br0 (l.length:Int) (show (0:Int)≤p by omega);have bpO:=br1 (p:Int) c;have bpP:=br0 (l.length:Int) (show (0:Int)≤p*7+3 by omega);have bpY:=br1 ((p:Int)*7+3) c;refine⟨⟨bpN,bpO⟩,by omega,⟨bpP,bpY⟩,by omega,bn0 ?_⟩;have j:=hl.at ((p:Int).tmod l.length).toNat;have s:=hl.at ((p*7+3:Int).tmod l.length).toNat;generalize l.getD ((p:Int).tmod l.length).toNat default=e at*;generalize l.getD ((p*7+3:Int).tmod l.length).toNat default=bpZ at*;have d1:0≤(p:Int).tdiv l.length:=Int.tdiv_nonneg (by omega) (by omega);have d2:(p:Int).tdiv l.length≤p:=Int.tdiv_le_self _ (by omega);generalize (p:Int).tdiv l.length=q at*;simp (disch:=omega) only[IntWalk.i64_in];have t:0≤(e:Int)*131+bpZ*1117+p*29+q*53∧(e:Int)*131+bpZ*1117+p*29+q*53<2^60:=by omega
  generalize (e:Int)*131+bpZ*1117+p*29+q*53=X at*;have d3:0≤X.tdiv 64:=Int.tdiv_nonneg (by omega) (by omega);have bkS:X.tdiv 64≤X:=Int.tdiv_le_self _ (by omega);have m:=aq7 (a:=X) (b:=X.tdiv 64) (by omega) (by omega);repeat' first|apply bn1<;>(simp only[go_sem];try simp (disch:=omega) only[Iw])|refine⟨by omega,?_⟩|fail
  exact lA d (boP _) _ _ rfl (aE rfl) rfl (aV l (p+1)) ⟨rfl,_,rfl,br0 _ m,.inl (br1 _ (by omega))⟩
theorem aX{p i:Nat}{n:Int} (hl:kZ l) (a:p<2^50) (b: -2^31<n∧n<2^31) (hi:i<nx) (c:H i=some (rdO l p)) (h: ∀x:Int,0≤x→(x<n∨x=0)→K (boP x) (H.set i (rdO l (p+1))) nx):
 aB Tryz.prog aD [bkP 2 i,boP n] H nx K:=
 (K1 l p n hl a b).OU i rfl (gW ⟨DG (by omega) rfl,aE rfl,trivial⟩) hi c (aV l p) fun r o' ⟨d,x,e,f,g⟩=>by subst d;subst e;exact h x f g
theorem FJ (l:List Int) (p:Nat):aB Tryz.prog kE [bkP 2 0,boP 99999] (hp [(0,rdO l p)]) 1
 fun r H' a=>a=1∧ ∃o',H'=hp [(0,o')]∧C7 o'∧o'=rdO l p∧r=dB false:=by
 refine LF rfl fun Q b=> ?_
 unfold rH
 repeat' first|apply bn1<;>(simp only[go_sem])|fail
 exact lA b (dB false) _ _ rfl (aE rfl) rfl (aV l p) ⟨rfl,rfl⟩
theorem uA{p i:Nat} (hi:i<nx) (a:H i=some (rdO l p)) (h:K (dB false) (H.set i (rdO l p)) nx):aB Tryz.prog kE [bkP 2 i,boP 99999] H nx K:=(FJ l p).OU i rfl (gW ⟨DG (by omega) rfl,aE rfl,trivial⟩) hi a (aV l p) fun r o' ⟨b,c⟩=>by subst b;subst c;exact h
end
end Go.Proofs.YtdkfhdmagdaceaaGreat
