/- Texts laid together by a program: rules, contracts and the walk that leads to the law. -/
import Derived.Test.YtdkfhdmagdaceaaGreatPJ10
import Derived.Test.YtdkfhdmagdaceaaGreatPJ19
import Derived.Test.YtdkfhdmagdaceaaGreatPJ9
import Derived.Test.YtdkfhdmagdaceaaGreatPJ18
import Derived.Test.YtdkfhdmagdaceaaGreatPJ20
import Derived.Test.YtdkfhdmagdaceaaGreatPJ8
import Derived.Deep.Slices
import Derived.OpenShut
import Derived.Below
set_option linter.unusedVariables false
set_option linter.unusedSimpArgs false
set_option linter.unusedSectionVars false
set_option maxRecDepth 100000
set_option maxHeartbeats 8000000
namespace Go.AM
end Go.AM
namespace Go.Proofs.YtdkfhdmagdaceaaGreat
open Go Go.AM
attribute [local irreducible] aM wv aB vd wvH
section
variable {H : aA} {nx : Nat} {K : D → aA → Nat → Prop}
theorem bd8 (l:List Int) (g:l.length<2^21):aB Tryz.prog o6 [dS (l.map aJ),dS (l.map aJ)] .nil 0 fun f _ _=>f.plain=true∧f=dB true:=by
 refine bdU rfl fun Q h=> ?_;unfold a33;have hl:l.length<2^21:=g;repeat' first| (with_reducible first| (apply b _ _ _;clear b K)| (apply hB;clear c hB A B)|apply btD|apply btE|refine btF fun btO a=> ?_)| (with_reducible first|refine btI fun K b=> ?_|refine btJ fun A B c hB=> ?_)<;>(simp only[go_sem])|fail
 (have d:=a;clear a);(refine aM.loop (α:={k:Nat//k≤l.length∧(True)}) (fun u=>en [(5,boP u.1),(1,dS (l.map aJ)),(0,dS (l.map aJ))]) (fun _=>.nil) _ (fun u=>l.length-u.1) ⟨0,by omega,(by intros;first|trivial|omega)⟩ (bU (m5 _) (by repeat' first|exact bo2|refine xqI rfl rfl ?_|fail)) ?_);(rintro⟨k,m,hinv⟩ bpQ e);by_cases i:k<l.length
 ·generalize j:l.getD k default=x at*;repeat' first| (with_reducible first| (apply b _ _ _;clear b K)| (apply c;clear c hB A B)| (apply hB;clear c hB A B)|apply btD|apply btE|refine btF fun btO a=> ?_|apply btG (by omega))| (with_reducible first|refine btI fun K b=> ?_|refine btJ fun A B c hB=> ?_)<;>(simp only[go_sem,j];try simp (disch:=omega) only[Iw])| ((with_reducible apply btM);simp only[AQ.then,AQ.blk])|refine⟨by omega,?_⟩| (with_reducible apply a _ _ _)|fail
  all_goals (refine e _ _ _ ⟨k+1,by omega,trivial⟩ (by omega) (by(try dsimp only);omega) (bU (m5 _) (by repeat' first|exact bo2|refine xqI rfl rfl ?_|fail)))
 ·repeat' first| (with_reducible first| (apply b _ _ _;clear b K)| (apply hB;clear c hB A B)|apply btD|apply btH (by omega)|apply d _ _ _)| (with_reducible first|refine btI fun K b=> ?_|refine btJ fun A B c hB=> ?_)<;>(simp only[go_sem])| ((with_reducible first|apply btK|apply btL);try simp only[AQ.then,AQ.blk,reduceIte,Nat.reduceEqDiff])|fail
  all_goals exact aZ h _ rfl rfl rfl
theorem aZO {l:List Int} (a:l.length<2^21) (h:K (dB true) H nx):aB Tryz.prog o6 [dS (l.map aJ),dS (l.map aJ)] H nx K:=(bd8 l a).pure rfl (aI ⟨aE rfl,aE rfl,trivial⟩) (fun r hr=>hr▸h)
theorem a81 (x:Rng):aB Tryz.prog a0A [boR (eN x),boR (eN x)] .nil 0 fun b _ _=>b.plain=true∧b=dB true:=by
 refine a6H rfl fun Q d=> ?_;unfold a1S;repeat' first| (with_reducible first| (apply c _ _ _;clear c K)| (apply a;clear a hB A B)| (apply hB;clear a hB A B)|apply btD|apply btE)| (with_reducible first|refine btI fun K c=> ?_|refine btJ fun A B a hB=> ?_)<;>(simp only[go_sem])| ((with_reducible apply btK);try simp only[AQ.then,AQ.blk,reduceIte,Nat.reduceEqDiff])| ((with_reducible refine bF3 (fun h=> ?_) (fun h=> ?_))<;>try subst h)|fail
 all_goals first|exact aZ d _ rfl rfl rfl| (exfalso;simp_all;done)| (exfalso;omega)
theorem a93 {x:Rng} (h:K (dB true) H nx):aB Tryz.prog a0A [boR (eN x),boR (eN x)] H nx K:=(a81 x).pure rfl (aI ⟨aE rfl,aE rfl,trivial⟩) (fun r hr=>hr▸h)
theorem a66 (l:List Rng) (g:l.length<2^21):aB Tryz.prog aZ8 [dS (l.map eN),dS (l.map eN)] .nil 0 fun f _ _=>f.plain=true∧f=dB true:=by
 refine a5V rfl fun Q h=> ?_;unfold a01;have hl:l.length<2^21:=g;repeat' first| (with_reducible first| (apply b _ _ _;clear b K)| (apply hB;clear c hB A B)|apply btD|apply btE|refine btF fun btO a=> ?_)| (with_reducible first|refine btI fun K b=> ?_|refine btJ fun A B c hB=> ?_)<;>(simp only[go_sem])|fail
 (have d:=a;clear a);(refine aM.loop (α:={k:Nat//k≤l.length∧(True)}) (fun u=>en [(5,boP u.1),(1,dS (l.map eN)),(0,dS (l.map eN))]) (fun _=>.nil) _ (fun u=>l.length-u.1) ⟨0,by omega,(by intros;first|trivial|omega)⟩ (bU (m5 _) (by repeat' first|exact bo2|refine xqI rfl rfl ?_|fail)) ?_);(rintro⟨k,m,hinv⟩ bpQ e);by_cases i:k<l.length
 ·generalize j:l.getD k default=x at*;repeat' first| (with_reducible first| (apply b _ _ _;clear b K)| (apply c;clear c hB A B)| (apply hB;clear c hB A B)|apply btD|apply btE|refine btF fun btO a=> ?_|apply btG (by omega))| (first| (with_reducible first|refine btI fun K b=> ?_|refine btJ fun A B c hB=> ?_)| (apply a93))<;>(simp only[go_sem,j];try simp (disch:=omega) only[Iw])| ((with_reducible apply btM);simp only[AQ.then,AQ.blk])|refine⟨by omega,?_⟩| (with_reducible apply a _ _ _)|fail
  all_goals (refine e _ _ _ ⟨k+1,by omega,trivial⟩ (by omega) (by(try dsimp only);omega) (bU (m5 _) (by repeat' first|exact bo2|refine xqI rfl rfl ?_|fail)))
 ·repeat' first| (with_reducible first| (apply b _ _ _;clear b K)| (apply hB;clear c hB A B)|apply btD|apply btH (by omega)|apply d _ _ _)| (with_reducible first|refine btI fun K b=> ?_|refine btJ fun A B c hB=> ?_)<;>(simp only[go_sem])| ((with_reducible first|apply btK|apply btL);try simp only[AQ.then,AQ.blk,reduceIte,Nat.reduceEqDiff])|fail
  all_goals exact aZ h _ rfl rfl rfl
theorem a7S {l:List Rng} (a:l.length<2^21) (h:K (dB true) H nx):aB Tryz.prog aZ8 [dS (l.map eN),dS (l.map eN)] H nx K:=(a66 l a).pure rfl (aI ⟨aE rfl,aE rfl,trivial⟩) (fun r hr=>hr▸h)
theorem bH1 (x:Ev):aB Tryz.prog bG6 [boR (eEv x),boR (eEv x)] .nil 0 fun a _ _=>a.plain=true∧a=dB true:=by
 refine bHW rfl fun Q c=> ?_;unfold bG4;repeat' first| (with_reducible first| (apply b _ _ _;clear b K)| (apply hB;clear d hB A B)|apply btD|apply btE)| (with_reducible first|refine btI fun K b=> ?_|refine btJ fun A B d hB=> ?_)<;>(simp only[go_sem])| ((with_reducible apply btK);try simp only[AQ.then,AQ.blk,reduceIte,Nat.reduceEqDiff])|fail
 all_goals first|exact aZ c _ rfl rfl rfl| (exfalso;simp_all;done)| (exfalso;omega)
theorem bH0 {x:Ev} (h:K (dB true) H nx):aB Tryz.prog bG6 [boR (eEv x),boR (eEv x)] H nx K:=(bH1 x).pure rfl (aI ⟨aE rfl,aE rfl,trivial⟩) (fun r hr=>hr▸h)
theorem bHU (l:List Ev) (g:l.length<2^21):aB Tryz.prog bG5 [dS (l.map eEv),dS (l.map eEv)] .nil 0 fun f _ _=>f.plain=true∧f=dB true:=by
 refine bHO rfl fun Q h=> ?_;unfold bG2;have hl:l.length<2^21:=g;repeat' first| (with_reducible first| (apply b _ _ _;clear b K)| (apply hB;clear c hB A B)|apply btD|apply btE|refine btF fun btO a=> ?_)| (with_reducible first|refine btI fun K b=> ?_|refine btJ fun A B c hB=> ?_)<;>(simp only[go_sem])|fail
 (have d:=a;clear a);(refine aM.loop (α:={k:Nat//k≤l.length∧(True)}) (fun u=>en [(5,boP u.1),(1,dS (l.map eEv)),(0,dS (l.map eEv))]) (fun _=>.nil) _ (fun u=>l.length-u.1) ⟨0,by omega,(by intros;first|trivial|omega)⟩ (bU (m5 _) (by repeat' first|exact bo2|refine xqI rfl rfl ?_|fail)) ?_);(rintro⟨k,m,hinv⟩ bpQ e);by_cases i:k<l.length
 ·generalize j:l.getD k default=x at*;repeat' first| (with_reducible first| (apply b _ _ _;clear b K)| (apply c;clear c hB A B)| (apply hB;clear c hB A B)|apply btD|apply btE|refine btF fun btO a=> ?_|apply btG (by omega))| (first| (with_reducible first|refine btI fun K b=> ?_|refine btJ fun A B c hB=> ?_)| (apply bH0))<;>(simp only[go_sem,j];try simp (disch:=omega) only[Iw])| ((with_reducible apply btM);simp only[AQ.then,AQ.blk])|refine⟨by omega,?_⟩| (with_reducible apply a _ _ _)|fail
  all_goals (refine e _ _ _ ⟨k+1,by omega,trivial⟩ (by omega) (by(try dsimp only);omega) (bU (m5 _) (by repeat' first|exact bo2|refine xqI rfl rfl ?_|fail)))
 ·repeat' first| (with_reducible first| (apply b _ _ _;clear b K)| (apply hB;clear c hB A B)|apply btD|apply btH (by omega)|apply d _ _ _)| (with_reducible first|refine btI fun K b=> ?_|refine btJ fun A B c hB=> ?_)<;>(simp only[go_sem])| ((with_reducible first|apply btK|apply btL);try simp only[AQ.then,AQ.blk,reduceIte,Nat.reduceEqDiff])|fail
  all_goals exact aZ h _ rfl rfl rfl
theorem bcC (w:List Int) (c:w.length<2^21):aB Tryz.prog a07 [boR [.isl (w.map aJ)],boR [.isl (w.map aJ)]] .nil 0 fun a _ _=>a.plain=true∧a=dB true:=by
 refine bbV rfl fun Q d=> ?_;unfold a2R;repeat' first| (with_reducible first| (apply b _ _ _;clear b K)| (apply hB;clear e hB A B)|apply btD|apply btE)| (first| (with_reducible first|refine btI fun K b=> ?_|refine btJ fun A B e hB=> ?_)| (apply aZO (l:=w) c))<;>(simp only[go_sem])| ((with_reducible apply btK);try simp only[AQ.then,AQ.blk,reduceIte,Nat.reduceEqDiff])|fail
 all_goals exact aZ d _ rfl rfl rfl
theorem bcZ {w:List Int} (a:w.length<2^21) (h:K (dB true) H nx):aB Tryz.prog a07 [boR [.isl (w.map aJ)],boR [.isl (w.map aJ)]] H nx K:=(bcC w a).pure rfl (aI ⟨aE rfl,aE rfl,trivial⟩) (fun r hr=>hr▸h)
theorem a8P (w u:List Int) (c:w.length<2^21) (d:u.length<2^21):aB Tryz.prog a0N [boR [.isl (w.map aJ),.isl (u.map aJ)],boR [.isl (w.map aJ),.isl (u.map aJ)]] .nil 0 fun a _ _=>a.plain=true∧a=dB true:=by
 refine a6F rfl fun Q e=> ?_;unfold a1O;repeat' first| (with_reducible first| (apply b _ _ _;clear b K)| (apply hB;clear f hB A B)|apply btD|apply btE)| (first| (with_reducible first|refine btI fun K b=> ?_|refine btJ fun A B f hB=> ?_)| (apply bcZ (w:=w) c)| (apply aZO (l:=u) d))<;>(simp only[go_sem])| ((with_reducible apply btK);try simp only[AQ.then,AQ.blk,reduceIte,Nat.reduceEqDiff])|fail
 all_goals exact aZ e _ rfl rfl rfl
theorem a9Z {w:List Int} {u:List Int} (a:w.length<2^21) (b:u.length<2^21) (h:K (dB true) H nx):aB Tryz.prog a0N [boR [.isl (w.map aJ),.isl (u.map aJ)],boR [.isl (w.map aJ),.isl (u.map aJ)]] H nx K:=(a8P w u a b).pure rfl (aI ⟨aE rfl,aE rfl,trivial⟩) (fun r hr=>hr▸h)
theorem bdA (x:Req) (d:w3 (2^21) x):aB Tryz.prog a1K [boR (eB x),boR (eB x)] .nil 0 fun b _ _=>b.plain=true∧b=dB true:=by
 refine baO rfl fun Q e=> ?_;unfold a27;obtain⟨boW,f⟩:=d;repeat' first| (with_reducible first| (apply c _ _ _;clear c K)| (apply a;clear a hB A B)| (apply hB;clear a hB A B)|apply btD|apply btE)| (first| (with_reducible first|refine btI fun K c=> ?_|refine btJ fun A B a hB=> ?_)| (apply aZO (l:=x.data) boW)| (apply aZO (l:=x.g6) f))<;>(simp only[go_sem])| ((with_reducible apply btK);try simp only[AQ.then,AQ.blk,reduceIte,Nat.reduceEqDiff])| ((with_reducible refine bF3 (fun h=> ?_) (fun h=> ?_))<;>try subst h)|fail
 all_goals first|exact aZ e _ rfl rfl rfl| (exfalso;simp_all;done)| (exfalso;omega)
theorem bcX {x:Req} (a:w3 (2^21) x) (h:K (dB true) H nx):aB Tryz.prog a1K [boR (eB x),boR (eB x)] H nx K:=(bdA x a).pure rfl (aI ⟨aE rfl,aE rfl,trivial⟩) (fun r hr=>hr▸h)
theorem baT (l:List Req) (g:aZT (w3 (2^21)) (2^21) l):aB Tryz.prog a0W [dS (l.map eB),dS (l.map eB)] .nil 0 fun h _ _=>h.plain=true∧h=dB true:=by
 refine a84 rfl fun Q i=> ?_;unfold a2L;have hl:l.length<2^21:=g.1;repeat' first| (with_reducible first| (apply b _ _ _;clear b K)| (apply hB;clear c hB A B)|apply btD|apply btE|refine btF fun btO a=> ?_)| (with_reducible first|refine btI fun K b=> ?_|refine btJ fun A B c hB=> ?_)<;>(simp only[go_sem])|fail
 (have d:=a;clear a);(refine aM.loop (α:={k:Nat//k≤l.length∧(True)}) (fun u=>en [(5,boP u.1),(1,dS (l.map eB)),(0,dS (l.map eB))]) (fun _=>.nil) _ (fun u=>l.length-u.1) ⟨0,by omega,(by intros;first|trivial|omega)⟩ (bU (m5 _) (by repeat' first|exact bo2|refine xqI rfl rfl ?_|fail)) ?_);(rintro⟨k,m,hinv⟩ bpQ e);by_cases f:k<l.length
 ·have hm:=g.2 _ (cC f);generalize j:l.getD k default=x at*;repeat' first| (with_reducible first| (apply b _ _ _;clear b K)| (apply c;clear c hB A B)| (apply hB;clear c hB A B)|apply btD|apply btE|refine btF fun btO a=> ?_|apply btG (by omega))| (first| (with_reducible first|refine btI fun K b=> ?_|refine btJ fun A B c hB=> ?_)| (apply bcX hm))<;>(simp only[go_sem,j];try simp (disch:=omega) only[Iw])| ((with_reducible apply btM);simp only[AQ.then,AQ.blk])|refine⟨by omega,?_⟩| (with_reducible apply a _ _ _)|fail
  all_goals (refine e _ _ _ ⟨k+1,by omega,trivial⟩ (by omega) (by(try dsimp only);omega) (bU (m5 _) (by repeat' first|exact bo2|refine xqI rfl rfl ?_|fail)))
 ·repeat' first| (with_reducible first| (apply b _ _ _;clear b K)| (apply hB;clear c hB A B)|apply btD|apply btH (by omega)|apply d _ _ _)| (with_reducible first|refine btI fun K b=> ?_|refine btJ fun A B c hB=> ?_)<;>(simp only[go_sem])| ((with_reducible first|apply btK|apply btL);try simp only[AQ.then,AQ.blk,reduceIte,Nat.reduceEqDiff])|fail
  all_goals exact aZ i _ rfl rfl rfl
theorem ba8 {l:List Req} (a:aZT (w3 (2^21)) (2^21) l) (h:K (dB true) H nx):aB Tryz.prog a0W [dS (l.map eB),dS (l.map eB)] H nx K:=(baT l a).pure rfl (aI ⟨aE rfl,aE rfl,trivial⟩) (fun r hr=>hr▸h)
theorem a85 (l:List (List Req)) (g:aZT (aZ7 (2^21)) (2^21) l):aB Tryz.prog a0O [dS (l.map jR),dS (l.map jR)] .nil 0 fun h _ _=>h.plain=true∧h=dB true:=by
 refine a7W rfl fun Q i=> ?_;unfold a1L;have hl:l.length<2^21:=g.1;repeat' first| (with_reducible first| (apply b _ _ _;clear b K)| (apply hB;clear c hB A B)|apply btD|apply btE|refine btF fun btO a=> ?_)| (with_reducible first|refine btI fun K b=> ?_|refine btJ fun A B c hB=> ?_)<;>(simp only[go_sem])|fail
 (have d:=a;clear a);(refine aM.loop (α:={k:Nat//k≤l.length∧(True)}) (fun u=>en [(5,boP u.1),(1,dS (l.map jR)),(0,dS (l.map jR))]) (fun _=>.nil) _ (fun u=>l.length-u.1) ⟨0,by omega,(by intros;first|trivial|omega)⟩ (bU (m5 _) (by repeat' first|exact bo2|refine xqI rfl rfl ?_|fail)) ?_);(rintro⟨k,m,hinv⟩ bpQ e);by_cases f:k<l.length
 ·have hm:=g.2 _ (cC f);generalize j:l.getD k default=x at*;repeat' first| (with_reducible first| (apply b _ _ _;clear b K)| (apply c;clear c hB A B)| (apply hB;clear c hB A B)|apply btD|apply btE|refine btF fun btO a=> ?_|apply btG (by omega))| (first| (with_reducible first|refine btI fun K b=> ?_|refine btJ fun A B c hB=> ?_)| (apply ba8 hm))<;>(simp only[go_sem,j];try simp (disch:=omega) only[Iw])| ((with_reducible apply btM);simp only[AQ.then,AQ.blk])|refine⟨by omega,?_⟩| (with_reducible apply a _ _ _)|fail
  all_goals (refine e _ _ _ ⟨k+1,by omega,trivial⟩ (by omega) (by(try dsimp only);omega) (bU (m5 _) (by repeat' first|exact bo2|refine xqI rfl rfl ?_|fail)))
 ·repeat' first| (with_reducible first| (apply b _ _ _;clear b K)| (apply hB;clear c hB A B)|apply btD|apply btH (by omega)|apply d _ _ _)| (with_reducible first|refine btI fun K b=> ?_|refine btJ fun A B c hB=> ?_)<;>(simp only[go_sem])| ((with_reducible first|apply btK|apply btL);try simp only[AQ.then,AQ.blk,reduceIte,Nat.reduceEqDiff])|fail
  all_goals exact aZ i _ rfl rfl rfl
theorem a92 {l:List (List Req)} (a:aZT (aZ7 (2^21)) (2^21) l) (h:K (dB true) H nx):aB Tryz.prog a0O [dS (l.map jR),dS (l.map jR)] H nx K:=(a85 l a).pure rfl (aI ⟨aE rfl,aE rfl,trivial⟩) (fun r hr=>hr▸h)
theorem bcV (x:Cfg) (c:aZW (2^21) x):aB Tryz.prog a1B [boR (cU x),boR (cU x)] .nil 0 fun a _ _=>a.plain=true∧a=dB true:=by
 refine bbG rfl fun Q d=> ?_;unfold a24;obtain⟨boW,e,f⟩:=c;repeat' first| (with_reducible first| (apply b _ _ _;clear b K)| (apply hB;clear g hB A B)|apply btD|apply btE)| (first| (with_reducible first|refine btI fun K b=> ?_|refine btJ fun A B g hB=> ?_)| (apply a7S (l:=x.map) boW)| (apply aZO (l:=x.lat) e)| (apply a92 (l:=x.cP) f))<;>(simp only[go_sem])| ((with_reducible apply btK);try simp only[AQ.then,AQ.blk,reduceIte,Nat.reduceEqDiff])|fail
 all_goals first|exact aZ d _ rfl rfl rfl| (exfalso;simp_all;done)| (exfalso;omega)
theorem bcO (x:Rsp) (c:aZV (2^21) x):aB Tryz.prog a1E [boR (tG x),boR (tG x)] .nil 0 fun a _ _=>a.plain=true∧a=dB true:=by
 refine baI rfl fun Q d=> ?_;unfold a2X;have boW:x.data.length<(2^21):=c;repeat' first| (with_reducible first| (apply b _ _ _;clear b K)| (apply hB;clear e hB A B)|apply btD|apply btE)| (first| (with_reducible first|refine btI fun K b=> ?_|refine btJ fun A B e hB=> ?_)| (apply aZO (l:=x.data) boW))<;>(simp only[go_sem])| ((with_reducible apply btK);try simp only[AQ.then,AQ.blk,reduceIte,Nat.reduceEqDiff])|fail
 all_goals first|exact aZ d _ rfl rfl rfl| (exfalso;simp_all;done)| (exfalso;omega)
theorem bcW {x:Rsp} (a:aZV (2^21) x) (h:K (dB true) H nx):aB Tryz.prog a1E [boR (tG x),boR (tG x)] H nx K:=(bcO x a).pure rfl (aI ⟨aE rfl,aE rfl,trivial⟩) (fun r hr=>hr▸h)
theorem bc3 (x:Job) (c:e9 (2^21) x):aB Tryz.prog a1I [boR (aS x),boR (aS x)] .nil 0 fun a _ _=>a.plain=true∧a=dB true:=by
 refine bbX rfl fun Q d=> ?_;unfold a28;have boW:aZV (2^21) x.rsp:=c;repeat' first| (with_reducible first| (apply b _ _ _;clear b K)| (apply hB;clear e hB A B)|apply btD|apply btE)| (first| (with_reducible first|refine btI fun K b=> ?_|refine btJ fun A B e hB=> ?_)| (apply bcW (x:=x.rsp) boW))<;>(simp only[go_sem])| ((with_reducible apply btK);try simp only[AQ.then,AQ.blk,reduceIte,Nat.reduceEqDiff])|fail
 all_goals first|exact aZ d _ rfl rfl rfl| (exfalso;simp_all;done)| (exfalso;omega)
theorem bcH {x:Job} (a:e9 (2^21) x) (h:K (dB true) H nx):aB Tryz.prog a1I [boR (aS x),boR (aS x)] H nx K:=(bc3 x a).pure rfl (aI ⟨aE rfl,aE rfl,trivial⟩) (fun r hr=>hr▸h)
theorem bbS (l:List Job) (g:aZT (e9 (2^21)) (2^21) l):aB Tryz.prog aZX [dS (l.map aS),dS (l.map aS)] .nil 0 fun h _ _=>h.plain=true∧h=dB true:=by
 refine a9J rfl fun Q i=> ?_;unfold a2B;have hl:l.length<2^21:=g.1;repeat' first| (with_reducible first| (apply b _ _ _;clear b K)| (apply hB;clear c hB A B)|apply btD|apply btE|refine btF fun btO a=> ?_)| (with_reducible first|refine btI fun K b=> ?_|refine btJ fun A B c hB=> ?_)<;>(simp only[go_sem])|fail
 (have d:=a;clear a);(refine aM.loop (α:={k:Nat//k≤l.length∧(True)}) (fun u=>en [(5,boP u.1),(1,dS (l.map aS)),(0,dS (l.map aS))]) (fun _=>.nil) _ (fun u=>l.length-u.1) ⟨0,by omega,(by intros;first|trivial|omega)⟩ (bU (m5 _) (by repeat' first|exact bo2|refine xqI rfl rfl ?_|fail)) ?_);(rintro⟨k,m,hinv⟩ bpQ e);by_cases f:k<l.length
 ·have hm:=g.2 _ (cC f);generalize j:l.getD k default=x at*;repeat' first| (with_reducible first| (apply b _ _ _;clear b K)| (apply c;clear c hB A B)| (apply hB;clear c hB A B)|apply btD|apply btE|refine btF fun btO a=> ?_|apply btG (by omega))| (first| (with_reducible first|refine btI fun K b=> ?_|refine btJ fun A B c hB=> ?_)| (apply bcH hm))<;>(simp only[go_sem,j];try simp (disch:=omega) only[Iw])| ((with_reducible apply btM);simp only[AQ.then,AQ.blk])|refine⟨by omega,?_⟩| (with_reducible apply a _ _ _)|fail
  all_goals (refine e _ _ _ ⟨k+1,by omega,trivial⟩ (by omega) (by(try dsimp only);omega) (bU (m5 _) (by repeat' first|exact bo2|refine xqI rfl rfl ?_|fail)))
 ·repeat' first| (with_reducible first| (apply b _ _ _;clear b K)| (apply hB;clear c hB A B)|apply btD|apply btH (by omega)|apply d _ _ _)| (with_reducible first|refine btI fun K b=> ?_|refine btJ fun A B c hB=> ?_)<;>(simp only[go_sem])| ((with_reducible first|apply btK|apply btL);try simp only[AQ.then,AQ.blk,reduceIte,Nat.reduceEqDiff])|fail
  all_goals exact aZ i _ rfl rfl rfl
theorem a48 {l:List Job} (a:aZT (e9 (2^21)) (2^21) l) (h:K (dB true) H nx):aB Tryz.prog aZX [dS (l.map aS),dS (l.map aS)] H nx K:=(bbS l a).pure rfl (aI ⟨aE rfl,aE rfl,trivial⟩) (fun r hr=>hr▸h)
theorem bBD (x:TSt) (c:bcA (2^21) x):aB Tryz.prog byS [boR (eSt x),boR (eSt x)] .nil 0 fun a _ _=>a.plain=true∧a=dB true:=by
 refine bCT rfl fun Q d=> ?_;unfold bzI;obtain⟨⟨bqH,bqI⟩,e,f,boX,boY⟩:=c;repeat' first| (with_reducible first| (apply b _ _ _;clear b K)| (apply hB;clear g hB A B)|apply btD|apply btE)| (first| (with_reducible first|refine btI fun K b=> ?_|refine btJ fun A B g hB=> ?_)| (apply a9Z (w:=x.words) (u:=x.holds) bqH bqI)| (apply aZO (l:=x.asked) e)| (apply a48 (l:=x.wait) f)| (apply a48 (l:=x.done) boX)| (apply a48 (l:=x.told) boY))<;>(simp only[go_sem])| ((with_reducible apply btK);try simp only[AQ.then,AQ.blk,reduceIte,Nat.reduceEqDiff])|fail
 all_goals first|exact aZ d _ rfl rfl rfl| (exfalso;simp_all;done)| (exfalso;omega)
theorem bDH {x:TSt} (a:bcA (2^21) x) (h:K (dB true) H nx):aB Tryz.prog byS [boR (eSt x),boR (eSt x)] H nx K:=(bBD x a).pure rfl (aI ⟨aE rfl,aE rfl,trivial⟩) (fun r hr=>hr▸h)
end
end Go.Proofs.YtdkfhdmagdaceaaGreat
namespace Go.AM
def Ren {α:Type} (RowP:bAT α):Prop:=∀(H c:aA) (t:Nat→Nat) (r:List D1) (x:α) (F:Nat→Prop),(∀a b,t a=t b→a=b)→RowP H r x F→(∀j o,F j→H j=some o→c (t j)=some (o.rn t))→RowP c (r.map (rn1 t)) x fun k=>∃j,F j∧k=t j
theorem bFS {n:Nat} {f:Nat→List D1} {t:Nat→Nat}:(rng n f).map (·.map (rn1 t))=rng n fun i=>(f i).map (rn1 t):=by unfold rng;rw[bGT];rfl
theorem bFA {α:Type} {e:α→List D1} (h: ∀t x,(e x).map (rn1 t)=e x):Ren (byQ e):=fun H a t r x F _ hr _=>by unfold byQ at hr ⊢;subst hr;exact h t x
theorem SlS.ren {α:Type} {RowP:bAT α} {H e:aA} {t:Nat→Nat} {n:Nat} {d:D1} {l:List α} {F:Nat→Prop} (u:Ren RowP) (g: ∀a b,t a=t b→a=b) (h:SlS n RowP H d l F) (r: ∀j o,F j→H j=some o→e (t j)=some (o.rn t)):SlS n RowP e (rn1 t d) l fun k=>∃j,F j∧k=t j:=by
 rcases h with⟨rfl,v,id,off,rfl⟩|⟨id,m,cap,rfl,w,y,z,f,G,boT⟩
 ·exact .inl ⟨rfl,v,t id,off,rfl⟩
 ·refine .inr ⟨t id,m,cap,rfl,w,y,z,fun i=>(f i).map (rn1 t),fun i k=>∃j,G i j∧k=t j,?_,⟨id,boT.self,rfl⟩,fun i x s=> ?_,?_,?_⟩;·rw[r id _ boT.self boT.blk];simp only[bA.rn,bFS]
  ·have hi:=(m3.1 s).1;exact u H e t _ x _ g (boT.row i x s) fun j o c A=>r j o (boT.sub i j hi c).1 A
  ·rintro i k hi ⟨j,c,rfl⟩;exact⟨⟨j,(boT.sub i j hi c).1,rfl⟩,fun he=>(boT.sub i j hi c).2 (g _ _ he)⟩
  ·rintro i B k hi hi' p ⟨j,c,rfl⟩ ⟨C,q,he⟩;have:=g _ _ he;subst this;exact boT.sep i B j hi hi' p c q
theorem bEN:Ren (byQ aJ):=bFA fun _ _=>rfl
theorem bFH {H0 H:aA} {nx c j:Nat} (h:j<nx):back (fun i=>nx+i) H0 c H j=H j:=by
 rcases WM (fun i=>nx+i) H0 H c j (fun a b _ _ h=>by omega) with⟨i,_,d,_⟩|⟨_,d⟩
 ·omega
 ·exact d
theorem bFI {H0 H:aA} {nx c i:Nat} {o:bA} (h:i<c) (d:H0 i=some o):back (fun i=>nx+i) H0 c H (nx+i)=some (o.rn fun i=>nx+i):=by
 rcases WM (fun i=>nx+i) H0 H c (nx+i) (fun a b _ _ h=>by omega) with⟨e,_,j,f⟩|⟨g,_⟩
 ·have:e=i:=by omega
  subst this;rw[f,d];rfl
 ·exact absurd rfl (g i h)
theorem bFG {α:Type} {RowP:bAT α} (f:Ren RowP) {H0 H:aA} {nx c:Nat} {r:List D1} {x:α} {F:Nat→Prop} (h:RowP H0 r x F) (e: ∀j,F j→j<c): ∃F':Nat→Prop,RowP (back (fun i=>nx+i) H0 c H) (r.map (rn1 fun i=>nx+i)) x F'∧ ∀j,F' j→nx≤j∧j<nx+c:=⟨_,f H0 _ _ r x F (fun a b h=>by omega) h fun j o d g=>bFI (e j d) g,by rintro k ⟨j,d,rfl⟩;have:=e j d;omega⟩
theorem bD1:Ren bzL:=fun H f t r x F a ⟨d,b,c⟩ e=>⟨rn1 t d,by subst b;rfl,c.ren bEN a e⟩
theorem bEX:Ren byV:=fun H l t r x F c ⟨d1,d2,d3,bkS,bk2,bk3,bF4,bF5,bF6,bF7,bF8,bF9,i,h⟩ g=>⟨rn1 t d1,rn1 t d2,rn1 t d3,rn1 t bkS,rn1 t bk2,rn1 t bk3,fun k=>∃j,bF4 j∧k=t j,fun k=>∃j,bF5 j∧k=t j,fun k=>∃j,bF6 j∧k=t j,fun k=>∃j,bF7 j∧k=t j,fun k=>∃j,bF8 j∧k=t j,fun k=>∃j,bF9 j∧k=t j,by subst i;rfl,⟨h.s1.ren bEN c fun j o b f=>g j o (h.aUV j b) f,h.s2.ren bEN c fun j o b f=>g j o (h.aUW j b) f,h.bp7.ren bEN c fun j o b f=>g j o (h.aIG j b) f,h.bp8.ren bD1 c fun j o b f=>g j o (h.aII j b) f,h.bp9.ren bD1 c fun j o b f=>g j o (h.aUX j b) f,h.aIE.ren bD1 c fun j o b f=>g j o (h.aIH j b) f,fun k ⟨j,b,e⟩=>⟨j,h.aUV j b,e⟩,fun k ⟨j,b,e⟩=>⟨j,h.aUW j b,e⟩,fun k ⟨j,b,e⟩=>⟨j,h.aIG j b,e⟩,fun k ⟨j,b,e⟩=>⟨j,h.aII j b,e⟩,fun k ⟨j,b,e⟩=>⟨j,h.aUX j b,e⟩,fun k ⟨j,b,e⟩=>⟨j,h.aIH j b,e⟩,fun k ⟨j,b,e⟩ ⟨d,a,e'⟩=>h.x12 j b (by rw[c _ _ (e.symm.trans e')];exact a),fun k ⟨j,b,e⟩ ⟨d,a,e'⟩=>h.x13 j b (by rw[c _ _ (e.symm.trans e')];exact a),fun k ⟨j,b,e⟩ ⟨d,a,e'⟩=>h.x14 j b (by rw[c _ _ (e.symm.trans e')];exact a),fun k ⟨j,b,e⟩ ⟨d,a,e'⟩=>h.x15 j b (by rw[c _ _ (e.symm.trans e')];exact a),fun k ⟨j,b,e⟩ ⟨d,a,e'⟩=>h.x16 j b (by rw[c _ _ (e.symm.trans e')];exact a),fun k ⟨j,b,e⟩ ⟨d,a,e'⟩=>h.x23 j b (by rw[c _ _ (e.symm.trans e')];exact a),fun k ⟨j,b,e⟩ ⟨d,a,e'⟩=>h.x24 j b (by rw[c _ _ (e.symm.trans e')];exact a),fun k ⟨j,b,e⟩ ⟨d,a,e'⟩=>h.x25 j b (by rw[c _ _ (e.symm.trans e')];exact a),fun k ⟨j,b,e⟩ ⟨d,a,e'⟩=>h.x26 j b (by rw[c _ _ (e.symm.trans e')];exact a),fun k ⟨j,b,e⟩ ⟨d,a,e'⟩=>h.x34 j b (by rw[c _ _ (e.symm.trans e')];exact a),fun k ⟨j,b,e⟩ ⟨d,a,e'⟩=>h.x35 j b (by rw[c _ _ (e.symm.trans e')];exact a),fun k ⟨j,b,e⟩ ⟨d,a,e'⟩=>h.x36 j b (by rw[c _ _ (e.symm.trans e')];exact a),fun k ⟨j,b,e⟩ ⟨d,a,e'⟩=>h.x45 j b (by rw[c _ _ (e.symm.trans e')];exact a),fun k ⟨j,b,e⟩ ⟨d,a,e'⟩=>h.x46 j b (by rw[c _ _ (e.symm.trans e')];exact a),fun k ⟨j,b,e⟩ ⟨d,a,e'⟩=>h.x56 j b (by rw[c _ _ (e.symm.trans e')];exact a)⟩⟩
end Go.AM
namespace Go.Proofs.YtdkfhdmagdaceaaGreat
open Go Go.AM
attribute [local irreducible] aM wv aB vd wvH
section
variable {H : aA} {nx : Nat} {K : D → aA → Nat → Prop}
theorem bCS:cJ Tryz.prog bAB Tryz.f179 bzN bBA:=cJ.mk Tryz.func179 (by kernel_rfl) bCQ
variable{w:List Int}
theorem bDD{d:D1}{F:Nat→Prop}{k:Int} (c: ∀j,F j→j<nx) (e:SlS 1 (byQ aJ) H d w F) (f:w.length<2^21) (o:0≤k) (p:k+total byK w<2^62)
 (h: ∀H' a,nx≤a→SlS 1 (byQ aJ) H' d (marks byK bzQ k w) F→(∀j,j<nx→¬F j→H' j=H j)→K (boP (k+total byK w)) H' a):aB Tryz.prog bAB [.one (.agg [d]),boP k] H nx K:=by
 refine bCS rfl fun Q g=> ?_
 unfold bzN
 repeat' first| (first|apply bn1| (refine byZ (F:=F) (fun j b=>by have:=c j b;omega) (e.frame bp1 fun j b=>aA.aC (by have:=c j b;omega)) f (by omega) (by omega) (fun q i l bpN m=> ?_)))<;>(simp only[go_sem,boC])|fail
 (try simp only[go_sem,boC,boC]);repeat' first|apply bn1<;>(simp only[go_sem,boC,boC])|fail
 exact g _ _ _ _ _ (.inr rfl) rfl (h _ _ (by omega) bpN fun j r n=>(m j (by omega) n).trans (aA.aC (by omega)))
theorem bBX:cJ Tryz.prog bz1 Tryz.f86 bzC bAP:=cJ.mk Tryz.func86 (by kernel_rfl) bBT
theorem bCF{d1 d2:D1}{u:List Int}{bF4 bF5:Nat→Prop}{k:Int} (v1: ∀j,bF4 j→j<nx) (v2: ∀j,bF5 j→j<nx) (f:Dis bF4 bF5) (s1:SlS 1 (byQ aJ) H d1 w bF4) (s2:SlS 1 (byQ aJ) H d2 u bF5) (d:w.length<2^21) (e:u.length<2^21) (x:0≤k) (y:k+total byK w+total byK u<2^62)
 (h: ∀H' b,nx≤b→SlS 1 (byQ aJ) H' d1 (marks byK bzQ k w) bF4→SlS 1 (byQ aJ) H' d2 (marks byK bzQ (k+total byK w) u) bF5→(∀j,j<nx→¬bF4 j→¬bF5 j→H' j=H j)→K (boP (k+total byK w+total byK u)) H' b):aB Tryz.prog bz1 [.one (.agg [d1,d2]),boP k] H nx K:=by
 refine bBX rfl fun Q m=> ?_
 unfold bzC
 repeat' first| (first|apply bn1| (refine bDD (F:=bF4) (fun j a=>by have:=v1 j a;omega) (s1.frame bp1 fun j a=>aA.aC (by have:=v1 j a;omega)) d (by omega) (by omega) (fun n o p bpN g=> ?_)))<;>(simp only[go_sem,boC])|fail
 have i:=(g nx (by omega) (fun h=>by have:=v1 nx h;omega)).trans aA.bH
 have c: ∀j,j<nx→¬bF4 j→n j=H j:=fun j l q=>(g j (by omega) q).trans (aA.aC (by omega))
 (try simp only[go_sem,boC,i,boC]);repeat' first| (first|apply bn1| (refine byZ (F:=bF5) (fun j a=>by have:=v2 j a;omega) (s2.frame bp1 fun j a=>c j (v2 j a) (fun h=>f j h a)) e (by omega) (by omega) (fun z r s bpO bpS=> ?_)))<;>(simp only[go_sem,boC,i,boC])|fail
 replace bpN:=bpN.frame bp1 fun j a=>bpS j (by have:=v1 j a;omega) (fun h=>f j a h)
 (try simp only[go_sem,boC,boC]);repeat' first|apply bn1<;>(simp only[go_sem,boC,boC])|fail
 exact m _ _ _ _ _ (.inr rfl) rfl (h _ _ (by omega) bpN bpO fun j l t v=>(bpS j (by omega) v).trans (c j l t))
theorem bCY:cJ Tryz.prog bAD Tryz.f19 bzK bA5:=cJ.mk Tryz.func19 (by kernel_rfl) bCU
theorem bC5{r:List D1}{x:Cfg}{F:Nat→Prop}{k:Int} (i: ∀j,F j→j<nx) (v:bBO H r x F) (w:aZW (2^21) x) (M:0≤k) (y:k+bC9 x<2^62)
 (h: ∀H' d,nx≤d→bBO H' r (bFD k x) F→(∀j,j<nx→¬F j→H' j=H j)→K (boP (k+bC9 x)) H' d):aB Tryz.prog bAD [.one (.agg r),boP k] H nx K:=by
 obtain⟨d1,d2,d3,bF4,bF5,bF6,rfl,b⟩:=v
 obtain⟨l,m,n⟩:=w
 have t:bC9 x=total byW x.map+total byK x.lat+total bzB x.cP:=rfl
 rw[t] at y
 have s1:=b.s1
 have v1: ∀j,bF4 j→j<nx:=fun j a=>i j (b.aUV j a)
 have s2:=b.s2
 have v2: ∀j,bF5 j→j<nx:=fun j a=>i j (b.aUW j a)
 have bp7:=b.bp7
 have aXN: ∀j,bF6 j→j<nx:=fun j a=>i j (b.aIG j a)
 refine bCY rfl fun Q z=> ?_
 unfold bzK
 repeat' first| (first|apply bn1| (refine bBW (F:=bF4) (fun j a=>by have:=v1 j a;omega) (s1.frame bp1 fun j a=>aA.aC (by have:=v1 j a;omega)) l (by omega) (by omega) (fun A B C bpN u=> ?_)))<;>(simp only[go_sem,boC])|fail
 have o:=(u nx (by omega) (fun h=>by have:=v1 nx h;omega)).trans aA.bH
 have e: ∀j,j<nx→¬bF4 j→A j=H j:=fun j c f=>(u j (by omega) f).trans (aA.aC (by omega))
 (try simp only[go_sem,boC,o,boC]);repeat' first| (first|apply bn1| (refine byZ (F:=bF5) (fun j a=>by have:=v2 j a;omega) (s2.frame bp1 fun j a=>e j (v2 j a) (fun h=>b.x12 j h a)) m (by omega) (by omega) (fun D E G bpO bpS=> ?_)))<;>(simp only[go_sem,boC,o,boC])|fail
 have boX:=(bpS nx (by omega) (fun h=>by have:=v2 nx h;omega)).trans o
 have g: ∀j,j<nx→¬bF4 j→¬bF5 j→D j=H j:=fun j c f p=>(bpS j (by omega) p).trans (e j c f)
 replace bpN:=bpN.frame bp1 fun j a=>bpS j (by have:=v1 j a;omega) (fun h=>b.x12 j a h)
 (try simp only[go_sem,boC,boX,boC]);repeat' first| (first|apply bn1| (refine bB9 (F:=bF6) (fun j a=>by have:=aXN j a;omega) (bp7.frame bAH fun j a=>g j (aXN j a) (fun h=>b.x13 j h a) (fun h=>b.x23 j h a)) n (by omega) (by omega) (fun bqL I J bpP bpT=> ?_)))<;>(simp only[go_sem,boC,boX,boC])|fail
 have q: ∀j,j<nx→¬bF4 j→¬bF5 j→¬bF6 j→bqL j=H j:=fun j c f p L=>(bpT j (by omega) L).trans (g j c f p)
 replace bpN:=bpN.frame bp1 fun j a=>bpT j (by have:=v1 j a;omega) (fun h=>b.x13 j a h)
 replace bpO:=bpO.frame bp1 fun j a=>bpT j (by have:=v2 j a;omega) (fun h=>b.x23 j a h)
 (try simp only[go_sem,boC,boC]);repeat' first|apply bn1<;>(simp only[go_sem,boC,boC])|fail
 exact z _ _ _ _ _ (.inr rfl) (bFU (by rw[t];omega)) (h _ _ (by omega) ⟨d1,d2,d3,bF4,bF5,bF6,rfl,⟨bpN,bpO,bpP,b.aUV,b.aUW,b.aIG,b.x12,b.x13,b.x23⟩⟩ fun j c s=>q j c (fun h=>s (b.aUV j h)) (fun h=>s (b.aUW j h)) (fun h=>s (b.aIG j h)))
theorem bBY:cJ Tryz.prog bzH Tryz.f20 by7 bAU:=cJ.mk Tryz.func20 (by kernel_rfl) bBU
theorem bA1{r:List D1}{x:TSt}{F:Nat→Prop}{k:Int} (g: ∀j,F j→j<nx) (E:byV H r x F) (G:bcA (2^21) x) (Y:0≤k) (I:k+bzP x<2^62)
 (h: ∀H' l,nx≤l→byV H' r (bBQ k x) F→(∀j,j<nx→¬F j→H' j=H j)→K (boP (k+bzP x)) H' l):aB Tryz.prog bzH [.one (.agg r),boP k] H nx K:=by
 obtain⟨d1,d2,d3,bkS,bk2,bk3,bF4,bF5,bF6,bF7,bF8,bF9,rfl,b⟩:=E
 obtain⟨⟨s,t⟩,u,v,w,y⟩:=G
 have C:bzP x=total byK x.words+total byK x.holds+total byK x.asked+total byJ x.wait+total byJ x.done+total byJ x.told:=rfl
 rw[C] at I
 have s1:=b.s1
 have v1: ∀j,bF4 j→j<nx:=fun j a=>g j (b.aUV j a)
 have s2:=b.s2
 have v2: ∀j,bF5 j→j<nx:=fun j a=>g j (b.aUW j a)
 have bp7:=b.bp7
 have aXN: ∀j,bF6 j→j<nx:=fun j a=>g j (b.aIG j a)
 have bp8:=b.bp8
 have v4: ∀j,bF7 j→j<nx:=fun j a=>g j (b.aII j a)
 have bp9:=b.bp9
 have aXO: ∀j,bF8 j→j<nx:=fun j a=>g j (b.aUX j a)
 have aIE:=b.aIE
 have v6: ∀j,bF9 j→j<nx:=fun j a=>g j (b.aIH j a)
 refine bBY rfl fun Q J=> ?_
 unfold by7
 repeat' first| (first|apply bn1| (refine bCF (bF4:=bF4) (bF5:=bF5) (fun j a=>by have:=v1 j a;omega) (fun j a=>by have:=v2 j a;omega) b.x12 (s1.frame bp1 fun j a=>aA.aC (by have:=v1 j a;omega)) (s2.frame bp1 fun j a=>aA.aC (by have:=v2 j a;omega)) s t (by omega) (by omega) (fun L M N bpN bpO D=> ?_)))<;>(simp only[go_sem,boC])|fail
 have z:=(D nx (by omega) (fun h=>by have:=v1 nx h;omega) (fun h=>by have:=v2 nx h;omega)).trans aA.bH
 have m: ∀j,j<nx→¬bF4 j→¬bF5 j→L j=H j:=fun j c d e=>(D j (by omega) d e).trans (aA.aC (by omega))
 (try simp only[go_sem,boC,z,boC]);repeat' first| (first|apply bn1| (refine byZ (F:=bF6) (fun j a=>by have:=aXN j a;omega) (bp7.frame bp1 fun j a=>m j (aXN j a) (fun h=>b.x13 j h a) (fun h=>b.x23 j h a)) u (by omega) (by omega) (fun O P R bpP bpS=> ?_)))<;>(simp only[go_sem,boC,z,boC])|fail
 have boX:=(bpS nx (by omega) (fun h=>by have:=aXN nx h;omega)).trans z
 have n: ∀j,j<nx→¬bF4 j→¬bF5 j→¬bF6 j→O j=H j:=fun j c d e f=>(bpS j (by omega) f).trans (m j c d e)
 replace bpN:=bpN.frame bp1 fun j a=>bpS j (by have:=v1 j a;omega) (fun h=>b.x13 j a h)
 replace bpO:=bpO.frame bp1 fun j a=>bpS j (by have:=v2 j a;omega) (fun h=>b.x23 j a h)
 (try simp only[go_sem,boC,boX,boC]);repeat' first| (first|apply bn1| (refine bz6 (F:=bF7) (fun j a=>by have:=v4 j a;omega) (bp8.frame byI fun j a=>n j (v4 j a) (fun h=>b.x14 j h a) (fun h=>b.x24 j h a) (fun h=>b.x34 j h a)) v (by omega) (by omega) (fun bqL S T bpY bpT=> ?_)))<;>(simp only[go_sem,boC,boX,boC])|fail
 have boY:=(bpT nx (by omega) (fun h=>by have:=v4 nx h;omega)).trans boX
 have o: ∀j,j<nx→¬bF4 j→¬bF5 j→¬bF6 j→¬bF7 j→bqL j=H j:=fun j c d e f p=>(bpT j (by omega) p).trans (n j c d e f)
 replace bpN:=bpN.frame bp1 fun j a=>bpT j (by have:=v1 j a;omega) (fun h=>b.x14 j a h)
 replace bpO:=bpO.frame bp1 fun j a=>bpT j (by have:=v2 j a;omega) (fun h=>b.x24 j a h)
 replace bpP:=bpP.frame bp1 fun j a=>bpT j (by have:=aXN j a;omega) (fun h=>b.x34 j a h)
 (try simp only[go_sem,boC,boY,boC]);repeat' first| (first|apply bn1| (refine bz6 (F:=bF8) (fun j a=>by have:=aXO j a;omega) (bp9.frame byI fun j a=>o j (aXO j a) (fun h=>b.x15 j h a) (fun h=>b.x25 j h a) (fun h=>b.x35 j h a) (fun h=>b.x45 j h a)) w (by omega) (by omega) (fun aZJ U V aU1 bpU=> ?_)))<;>(simp only[go_sem,boC,boY,boC])|fail
 have boZ:=(bpU nx (by omega) (fun h=>by have:=aXO nx h;omega)).trans boY
 have q: ∀j,j<nx→¬bF4 j→¬bF5 j→¬bF6 j→¬bF7 j→¬bF8 j→aZJ j=H j:=fun j c d e f p A=>(bpU j (by omega) A).trans (o j c d e f p)
 replace bpN:=bpN.frame bp1 fun j a=>bpU j (by have:=v1 j a;omega) (fun h=>b.x15 j a h)
 replace bpO:=bpO.frame bp1 fun j a=>bpU j (by have:=v2 j a;omega) (fun h=>b.x25 j a h)
 replace bpP:=bpP.frame bp1 fun j a=>bpU j (by have:=aXN j a;omega) (fun h=>b.x35 j a h)
 replace bpY:=bpY.frame byI fun j a=>bpU j (by have:=v4 j a;omega) (fun h=>b.x45 j a h)
 (try simp only[go_sem,boC,boZ,boC]);repeat' first| (first|apply bn1| (refine bz6 (F:=bF9) (fun j a=>by have:=v6 j a;omega) (aIE.frame byI fun j a=>q j (v6 j a) (fun h=>b.x16 j h a) (fun h=>b.x26 j h a) (fun h=>b.x36 j h a) (fun h=>b.x46 j h a) (fun h=>b.x56 j h a)) y (by omega) (by omega) (fun aIJ W X aU2 bpV=> ?_)))<;>(simp only[go_sem,boC,boZ,boC])|fail
 have B: ∀j,j<nx→¬bF4 j→¬bF5 j→¬bF6 j→¬bF7 j→¬bF8 j→¬bF9 j→aIJ j=H j:=fun j c d e f p A bkU=>(bpV j (by omega) bkU).trans (q j c d e f p A)
 replace bpN:=bpN.frame bp1 fun j a=>bpV j (by have:=v1 j a;omega) (fun h=>b.x16 j a h)
 replace bpO:=bpO.frame bp1 fun j a=>bpV j (by have:=v2 j a;omega) (fun h=>b.x26 j a h)
 replace bpP:=bpP.frame bp1 fun j a=>bpV j (by have:=aXN j a;omega) (fun h=>b.x36 j a h)
 replace bpY:=bpY.frame byI fun j a=>bpV j (by have:=v4 j a;omega) (fun h=>b.x46 j a h)
 replace aU1:=aU1.frame byI fun j a=>bpV j (by have:=aXO j a;omega) (fun h=>b.x56 j a h)
 (try simp only[go_sem,boC,boC]);repeat' first|apply bn1<;>(simp only[go_sem,boC,boC])|fail
 exact J _ _ _ _ _ (.inr rfl) (bFU (by rw[C];omega)) (h _ _ (by omega) ⟨d1,d2,d3,bkS,bk2,bk3,bF4,bF5,bF6,bF7,bF8,bF9,rfl,⟨bpN,bpO,bpP,bpY,aU1,aU2,b.aUV,b.aUW,b.aIG,b.aII,b.aUX,b.aIH,b.x12,b.x13,b.x14,b.x15,b.x16,b.x23,b.x24,b.x25,b.x26,b.x34,b.x35,b.x36,b.x45,b.x46,b.x56⟩⟩ fun j c i=>B j c (fun h=>i (b.aUV j h)) (fun h=>i (b.aUW j h)) (fun h=>i (b.aIG j h)) (fun h=>i (b.aII j h)) (fun h=>i (b.aUX j h)) (fun h=>i (b.aIH j h)))
theorem bz3{l:List Int}{b:Int} (i:l.length<2^21) (m:0≤b) (y:b+total byK l<2^62) (h:K (boP (b+total byK l)) H nx):aB Tryz.prog by5 [dS ((marks byK bzQ b l).map aJ),boP b] H nx K:=by
 refine aB.pure (args0:=[dS ((marks byK bzQ b l).map aJ),boP b]) (R:=fun n=>n=boP (b+total byK l)) ?_ rfl (aI ⟨aE rfl,aE rfl,trivial⟩) (fun r hr=>hr▸h);clear h;refine bD0 rfl fun Q o=> ?_;unfold bzZ;have p:l.length<2^21:=i;have z:bAJ byK l 0=0:=bAM;have q:=bDZ (sz:=byK) (mk:=bzQ) (l:=l) (k:=b);have c:=fun(j:Nat) (x:Int)=>bEG (sz:=byK) (mk:=bzQ) (l:=l) (k:=b) (j:=j) (x:=x);generalize marks byK bzQ b l=M at*;repeat' first|apply bn1<;>(simp only[go_sem])|fail
 (refine aM.loop (α:={k:Nat//k≤l.length∧(True)}) (fun u=>en [(5,boP u.1),(1,boP (b+bAJ byK l u.1)),(0,dS (M.map aJ))]) (fun _=>.nil) _ (fun u=>l.length-u.1) ⟨0,by omega,(by intros;first|trivial|omega)⟩ (bU (m5 _) (by repeat' first|exact bo2|refine xqI rfl rfl ?_| (with_reducible apply bo3)| ((with_reducible apply bo0);(exact bpF (by((try dsimp only);exact diE (by omega))) rfl))| ((with_reducible apply bo1);apply bo7)|fail)) ?_);(rintro⟨k,m,hinv⟩ bpQ d);by_cases e:k<l.length
 ·obtain⟨x,a⟩: ∃x,l[k]?=some x:=⟨_,n1 e⟩
  have s:x∈l:=s3 a;have t:byK x=1:=rfl;have v:=bzX (sz:=byK) a;have w:=bBL (sz:=byK) a;rw[t] at v w;have f:=c k x a;repeat' first|apply bn1<;>(simp only[go_sem,f,bzQ];try simp (disch:=omega) only[Iw])|apply bn2 (by omega)|refine⟨by omega,?_⟩|fail
  all_goals (refine d _ _ _ ⟨k+1,by omega,trivial⟩ (by omega) (by(try dsimp only);omega) (bU (m5 _) (by repeat' first|exact bo2|refine xqI rfl rfl ?_| (with_reducible apply bo3)| ((with_reducible apply bo0);(exact bpF (by((try dsimp only);exact diE (by omega))) rfl))| ((with_reducible apply bo1);apply bo7)|fail)))
 ·repeat' first|apply bn1<;>(simp only[go_sem])|apply bn3 (by omega)|fail
  have g:k=l.length:=by omega
  all_goals exact aZ o _ rfl rfl (qA (by rw[g,bER]))
theorem bDL{b:Int} (hm:w.length<2^21) (d:0≤b) (e:b+total byK w<2^62) (h:K (boP (b+total byK w)) H nx):aB Tryz.prog bAF [boR [.isl ((marks byK bzQ b w).map aJ)],boP b] H nx K:=by
 refine aB.pure (args0:=[boR [.isl ((marks byK bzQ b w).map aJ)],boP b]) (R:=fun a=>a=boP (b+total byK w)) ?_ rfl (aI ⟨aE rfl,aE rfl,trivial⟩) (fun r hr=>hr▸h);clear h;refine bCZ rfl fun Q c=> ?_;unfold bzO;repeat' first| (first|apply bn1|apply bz3 (l:=w) hm (by omega) (by omega))<;>(simp only[go_sem])|apply bn3 (by omega)|fail
 all_goals first|exact aZ c _ rfl rfl rfl| (exfalso;omega)
theorem bCC{u:List Int}{b:Int} (a:w.length<2^21) (c:u.length<2^21) (f:0≤b) (g:b+total byK w+total byK u<2^62) (h:K (boP (b+total byK w+total byK u)) H nx):aB Tryz.prog bz2 [boR [.isl ((marks byK bzQ b w).map aJ),.isl ((marks byK bzQ (b+total byK w) u).map aJ)],boP b] H nx K:=by
 refine aB.pure (args0:=[boR [.isl ((marks byK bzQ b w).map aJ),.isl ((marks byK bzQ (b+total byK w) u).map aJ)],boP b]) (R:=fun d=>d=boP (b+total byK w+total byK u)) ?_ rfl (aI ⟨aE rfl,aE rfl,trivial⟩) (fun r hr=>hr▸h);clear h;refine bB2 rfl fun Q e=> ?_;unfold by9;repeat' first| (first|apply bn1|apply bDL (w:=w) a (by omega) (by omega)|apply bz3 (l:=u) c (by omega) (by omega))<;>(simp only[go_sem])|apply bn3 (by omega)|fail
 all_goals first|exact aZ e _ rfl rfl rfl| (exfalso;omega)
theorem bz4{l:List Job}{b:Int} (n:aZT (e9 (2^21)) (2^21) l) (o:0≤b) (z:b+total byJ l<2^62) (h:K (boP (b+total byJ l)) H nx):aB Tryz.prog by2 [dS ((marks byJ bzU b l).map aS),boP b] H nx K:=by
 refine aB.pure (args0:=[dS ((marks byJ bzU b l).map aS),boP b]) (R:=fun p=>p=boP (b+total byJ l)) ?_ rfl (aI ⟨aE rfl,aE rfl,trivial⟩) (fun r hr=>hr▸h);clear h;refine bCA rfl fun Q q=> ?_;unfold bzE;have s:l.length<2^21:=n.1;have A:bAJ byJ l 0=0:=bAM;have t:=bDZ (sz:=byJ) (mk:=bzU) (l:=l) (k:=b);have c:=fun(j:Nat) (x:Job)=>bEG (sz:=byJ) (mk:=bzU) (l:=l) (k:=b) (j:=j) (x:=x);generalize marks byJ bzU b l=M at*;repeat' first|apply bn1<;>(simp only[go_sem])|fail
 (refine aM.loop (α:={k:Nat//k≤l.length∧(True)}) (fun u=>en [(5,boP u.1),(1,boP (b+bAJ byJ l u.1)),(0,dS (M.map aS))]) (fun _=>.nil) _ (fun u=>l.length-u.1) ⟨0,by omega,(by intros;first|trivial|omega)⟩ (bU (m5 _) (by repeat' first|exact bo2|refine xqI rfl rfl ?_| (with_reducible apply bo3)| ((with_reducible apply bo0);(exact bpF (by((try dsimp only);exact diE (by omega))) rfl))| ((with_reducible apply bo1);apply bo7)|fail)) ?_);(rintro⟨k,o,hinv⟩ bpQ d);by_cases e:k<l.length
 ·obtain⟨x,a⟩: ∃x,l[k]?=some x:=⟨_,n1 e⟩
  have f:x∈l:=s3 a;have v:byJ x=4+total byK x.rsp.data:=rfl;have w:=bzX (sz:=byJ) a;have y:=bBL (sz:=byJ) a;rw[v] at w y;have g:x.rsp.data.length<2^21:=n.2 x f;have i:=c k x a;repeat' first| (first|apply bn1|apply bz3 (l:=x.rsp.data) g (by omega) (by omega))<;>(simp only[go_sem,i,bzU];try simp (disch:=omega) only[Iw])|apply bn2 (by omega)|apply bn3 (by omega)|refine⟨by omega,?_⟩|fail
  all_goals (refine d _ _ _ ⟨k+1,by omega,trivial⟩ (by omega) (by(try dsimp only);omega) (bU (m5 _) (by repeat' first|exact bo2|refine xqI rfl rfl ?_| (with_reducible apply bo3)| ((with_reducible apply bo0);(exact bpF (by((try dsimp only);exact diE (by omega))) rfl))| ((with_reducible apply bo1);apply bo7)|fail)))
 ·repeat' first|apply bn1<;>(simp only[go_sem])|apply bn3 (by omega)|fail
  have m:k=l.length:=by omega
  all_goals exact aZ q _ rfl rfl (qA (by rw[m,bER]))
theorem bCH (x:TSt) (b:Int) (j:bcA (2^21) x) (n:0≤b) (k:b+bzP x<2^62):aB Tryz.prog by0 [boR (eSt (bBQ b x)),boP b] .nil 0 fun h _ _=>h.plain=true∧h=boP (b+bzP x):=by
 refine bB6 rfl fun Q m=> ?_;unfold by8;obtain⟨⟨a,c⟩,d,e,f,g⟩:=j;have i:bzP x=total byK x.words+total byK x.holds+total byK x.asked+total byJ x.wait+total byJ x.done+total byJ x.told:=rfl;rw[i] at k;repeat' first| (first|apply bn1|apply bCC (w:=x.words) (u:=x.holds) a c (by omega) (by omega)|apply bz3 (l:=x.asked) d (by omega) (by omega)|apply bz4 (l:=x.wait) e (by omega) (by omega)|apply bz4 (l:=x.done) f (by omega) (by omega)|apply bz4 (l:=x.told) g (by omega) (by omega))<;>(simp only[go_sem,bBQ,eSt])|apply bn3 (by omega)|fail
 all_goals first|exact aZ m _ rfl rfl (qA (by rw[i];omega))| (exfalso;omega)
end
end Go.Proofs.YtdkfhdmagdaceaaGreat
namespace Go.AM
structure beL (s:CSt):Prop where
 w:s.words.length<2^21
 h:s.holds.length<2^21
 t:s.told.length<2^21
 td: ∀j∈s.told,j.rsp.data.length<2^21
 pl:s.bM.length<2^21
 sl:s.dD.length<2^21
 port: ∀k,(aF s k).queue.length<2^21∧(aF s k).out.length<2^21
 slv: ∀k,(aL s k).pipe.length<2^21∧(aL s k).done.length<2^21∧ ∀j∈(aL s k).done,j.rsp.data.length<2^21
end Go.AM
namespace Go.Proofs.YtdkfhdmagdaceaaGreat
open Go Go.AM
attribute [local irreducible] aM wv aB vd wvH
section
variable {H : aA} {nx : Nat} {K : D → aA → Nat → Prop}
end
end Go.Proofs.YtdkfhdmagdaceaaGreat
namespace Go.AM
theorem w5.fit {s:CSt} (h:w5 (2^21) s):beL s:=by
 obtain⟨⟨c,d⟩,⟨e,f⟩,⟨g,i⟩,j,l⟩:=h
 have hp: ∀k,f9 (2^21) (aF s k):=fun k=>by
  by_cases a:k<s.bM.length;·exact f _ (cC a)
  ·have:aF s k=default:=(by unfold aF;simp[List.getD,a]);rw[this];exact⟨by decide,by decide⟩
 have b: ∀k,dP (2^21) (aL s k):=fun k=>by
  by_cases a:k<s.dD.length;·exact i _ (cC a)
  ·have:aL s k=default:=(by unfold aL;simp[List.getD,a]);rw[this];exact⟨by decide,by decide,fun x m=>absurd m (bq7)⟩
 exact⟨c,d,j,l,e,g,hp,fun k=>⟨(b k).1,(b k).2.1,(b k).2.2⟩⟩
theorem bcA.fit {s:TSt} (h:bcA (2^21) s):aTQ s:=by
 obtain⟨⟨b,c⟩,d,⟨e,f⟩,⟨g,i⟩,k,l⟩:=h;refine⟨b,c,d,e,g,k,fun j a=> ?_⟩;simp only[o3] at a;rcases a with(a|a)|a;·exact f j a
 ·exact i j a
 ·exact l j a
end Go.AM
namespace Go.AM
open Go.ChangeShapes Go.WideShapes Go.RowKit
inductive Big:D1→Prop
 |v (x:Value):Big (.v x)
 |isl (rows:List (List D1)) (h1:rows.length<2^63) (h2: ∀r∈rows,∀d∈r,Big d):Big (.isl rows)
theorem Big.len{rows:List (List D1)} (h:Big (.isl rows)):rows.length<2^63:=by cases h;assumption
theorem Big.row{rows:List (List D1)} (h:Big (.isl rows)): ∀r∈rows,∀d∈r,Big d:=by cases h;assumption
def a9N (a:List D1):Prop:=∀d∈a,Big d
structure Opn (w:World) (ds:List D1) (cs:List Value):Prop where
 len:cs.length=ds.length
 at_: ∀(j:Nat) (d:D1),ds[j]?=some d→∃v,cs[j]?=some v∧Imm (fun b=>b<w.heap.size) w d v
 big:a9N ds
structure aZK (P:Program) (t:TypeId) {A:Type} (enc:A→List D1):Prop where
 op: ∀{H:Type} {ec:TypeId×Value→H} {w:World} {base:Nat} {spare:Nat→Bool} {held:Bool} {fuel:Nat} {cs:List Value} {x:DataW H×List MemPlace},
  DataW.trod ec P w base spare held fuel t cs=some x→∃a,Opn w (enc a) cs
variable{P:Program}{t:TypeId}
theorem beU (c:P.underlying t=some (.int .i64)):aZK P t aJ:=.mk fun h=>by
 obtain⟨n,rfl,_,_⟩:=DataW.trod_int c h;refine⟨n,rfl,fun j d a=> ?_,fun d b=> ?_⟩
 ·match j with
  |0=>simp only[aJ,List.getElem?_cons_zero,Option.some.injEq] at a;subst a;exact⟨_,rfl,.v _ rfl⟩
  |j+1=>simp[aJ] at a
 ·simp only[aJ,CJ] at b;subst b;exact .v _
theorem beK (e:P.underlying t=some .bool):aZK P t eH:=.mk fun h=>by
 obtain⟨b,rfl,_⟩:=DataW.trod_bool e h;refine⟨b,rfl,fun j d a=> ?_,fun d c=> ?_⟩
 ·match j with
  |0=>simp only[eH,List.getElem?_cons_zero,Option.some.injEq] at a;subst a;exact⟨_,rfl,.v _ rfl⟩
  |j+1=>simp[eH] at a
 ·simp only[eH,CJ] at c;subst c;exact .v _
theorem aZ0{A B:Type}{b:A→List D1}{c:B→List D1} (h:aZK P t b) (f:A→B) (d: ∀a,c (f a)=b a):aZK P t c:=.mk fun e=>by obtain⟨a,g⟩:=h.op e;exact⟨f a,by rw[d];exact g⟩
theorem aZ1{e:TypeId}{A:Type} [Inhabited A]{enc:A→List D1}{n:Nat} (he:aZK P e enc) (X:P.underlying t=some (.slice e)) (Y:P.cellsOf e=n) (Z:0<n) (hl: ∀a,(enc a).length=n):aZK P t fun l:List A=>[.isl (l.map enc)]:=.mk fun {H ec w base spare held fuel cs x} h=>by
 rcases Deep.open_slice X h with⟨rfl,_⟩|⟨a,len,cap,m,n',D,Pl,rfl,hb,N,hm,O,_,hi⟩
 ·refine⟨[],rfl,fun j d F=> ?_,fun d u=> ?_⟩
  ·match j with
   |0=>simp only[q0,List.getElem?_cons_zero,Option.some.injEq] at F;subst F;exact⟨_,rfl,.isl [] none 0 1 0 0 (fun _ _=>.int .u8 0) (fun h=>absurd rfl h) (m5 _) (fun i r h=>by simp at h) (fun i j r d h=>by simp at h) (fun i j r d h=>by simp at h)⟩
   |j+1=>simp at F
  ·simp only[q0,CJ] at u;subst u;exact .isl _ (by simp) fun r hr=>by simp at hr
 ·have aa:len≤m:=by rw[O];split<;>omega
  obtain⟨f,V⟩:=Deep.choose_lt (α:=A) (n:=len) (p:=fun i y=>∃C,w.cells? base (a.add (i*n)) n=some C∧Opn w (enc y) C) fun i c=>by obtain⟨C,B,G⟩:=hi i (by omega);rw[Y] at B;obtain⟨y,Q⟩:=he.op G;exact⟨y,C,B,Q⟩
  have J:((List.range len).map f).length=len:=by simp
  have z: ∀(i:Nat) (r:List D1),((List.range len).map f |>.map enc)[i]?=some r→i<len∧r=enc (f i):=fun i r hr=>by rw[bGT,p0] at hr;obtain⟨y,Q,rfl⟩:=m4.1 hr;obtain⟨c,rfl⟩:=m3.1 Q;simp only[List.length_range] at c;exact⟨c,by simp⟩
  obtain⟨b,o,s⟩:=a;have g: ∀i j (d:D1),i<len→(enc (f i))[j]?=some d→∃v,w.cell? ((Addr.mk b o s).add (i*n+j))=some v∧Imm (fun b=>b<w.heap.size) w d v:=fun i j d c u=>by obtain⟨C,B,G⟩:=V i c;obtain⟨_,h3,h4⟩:=World.cells?_some B;obtain⟨v,h5,h6⟩:=G.at_ j d u;have R:j<n:=(by have:=(m3.1 u).1;rw[hl] at this;exact this);have W:=h4 j R;rw[Deep.add_add,h5] at W;exact⟨v,W,h6⟩
  have q:0<len→s=none∧b<w.heap.size:=fun h=>by have:(enc (f 0))[0]?=some ((enc (f 0))[0]'(by rw[hl];exact Z)):=n1 _;obtain⟨v,B,_⟩:=g 0 0 _ h this;have K:=World.cell?_spot B;have L:=World.block_lt_of_cell? w _ B;simp only[Nat.zero_mul,Nat.add_zero,Addr.add,if_true] at K L;exact⟨K,L⟩
  have E: ∀k,(Addr.mk b o none).add k=⟨b,o+k,none⟩:=fun k=>by
   unfold Addr.add;split;·rename_i h;subst h;simp
   ·simp
  refine⟨(List.range len).map f,rfl,fun j d F=> ?_,fun d u=> ?_⟩
  ·match j with
   |0=>
    simp only[List.getElem?_cons_zero,Option.some.injEq] at F;subst F;have key:=Imm.isl (I:=fun b=>b<w.heap.size) (w:=w) (((List.range len).map f).map enc) (some ⟨b,o,s⟩) cap n b o (fun i j=>(w.cell? ⟨b,o+(i*n+j),none⟩).getD (.bool false)) (fun S=> ?_) (by rw[bqW,J];exact N) (fun i r hr=> ?_) (fun i j r d hr u=> ?_) (fun i j r d hr u=> ?_);·rw[bqW,J] at key;exact⟨_,rfl,key⟩
    ·have M:0<len:=by
      rcases CR len with h|h
      ·subst h;exact absurd (by simp) S
      ·exact h
     obtain⟨rfl,T⟩:=q M
     exact⟨rfl,T⟩
    ·obtain⟨_,rfl⟩:=z i r hr;exact hl _
    ·obtain⟨c,rfl⟩:=z i r hr;obtain⟨v,B,_⟩:=g i j d c u;obtain⟨rfl,_⟩:=q (by omega);rw[E] at B;rw[B];rfl
    ·obtain⟨c,rfl⟩:=z i r hr;obtain⟨v,B,G⟩:=g i j d c u;obtain⟨rfl,_⟩:=q (by omega);rw[E] at B;rw[B];exact G
   |j+1=>simp at F
  ·simp only[CJ] at u;subst u;refine .isl _ (by rw[bqW,J];have:cap≤2^63-1:=hm;omega) fun r hr d u=> ?_;obtain⟨i,U⟩:=bGV.1 hr;obtain⟨c,rfl⟩:=z i r U;obtain⟨_,_,G⟩:=V i c;exact G.big d u
structure bdD (P:Program) (fs:List Field) (lo:Nat) {A:Type} (enc:A→List D1):Prop where
 op: ∀{H:Type} {ec:TypeId×Value→H} {w:World} {base:Nat} {spare:Nat→Bool} {held:Bool} {n:Nat} {cs:List Value},
 (∀f∈fs,∃x,DataW.trod ec P w base spare held n f.type ((cs.drop f.offset).take (P.cellsOf f.type))=some x)→∃a,(∀(j:Nat) (d:D1),(enc a)[j]?=some d→∃v,cs[lo+j]?=some v∧Imm (fun b=>b<w.heap.size) w d v)∧a9N (enc a)
theorem z0{lo:Nat}:bdD P [] lo fun _:Unit=>[]:=.mk fun _=>⟨(),fun j d h=>by simp at h,fun d h=>by simp at h⟩
theorem b6{f:Field}{r:List Field}{lo n:Nat}{A B:Type}{k:A→List D1}{s:B→List D1} (u:aZK P f.type k) (y:f.offset=lo) (F:P.cellsOf f.type=n) (hl: ∀a,(k a).length=n) (z:bdD P r (lo+n) s):bdD P (f::r) lo fun p:A×B=>k p.1++s p.2:=.mk fun {H ec w base spare held m cs} h=>by
 obtain⟨x,C⟩:=h f (by simp);obtain⟨a,t⟩:=u.op C;obtain⟨b,D,l⟩:=z.op fun g E=>h g (bq9 _ E);refine⟨(a,b),fun j d e=> ?_,fun d i=> ?_⟩
 ·dsimp only at e;by_cases o:j<n
  ·rw[brO (by rw[hl];exact o)] at e;obtain⟨v,c,q⟩:=t.at_ j d e;rw[y,s4,s5] at c;split at c;·exact⟨v,c,q⟩
   ·cases c
  ·rw[brX (by rw[hl];omega),hl] at e;obtain⟨v,c,q⟩:=D _ d e;exact⟨v,by rw[←c];congr 1;omega,q⟩
 ·rcases o3.1 i with i|i;·exact t.big d i
  ·exact l d i
theorem w0{c:Array Field}{A:Type}{enc:A→List D1}{n:Nat} (h:bdD P c.toList 0 enc) (e:P.underlying t=some (.struct c)) (g:P.cellsOf t=n) (hl: ∀a,(enc a).length=n):aZK P t enc:=.mk fun {H ec w base spare held fuel cs x} k=>by
 obtain⟨xs,m,_,_,l,v,o⟩:=DataW.trod_struct e k
 obtain⟨a,p,q⟩:=h.op (ec:=ec) (w:=w) (base:=base) (spare:=spare) (held:=held) (n:=m) (cs:=cs) fun f r=>by
  obtain⟨i,hi⟩:=bGV.1 r;have b:c[i]?=some f:=by simpa using hi
  have s:=o i f b;have y:i<c.size:=(C4.1 b).1;exact⟨_,s.trans (n1 (by omega))⟩
 exact⟨a,by rw[l,g,hl],fun j d u=>by simpa using p j d u,q⟩
theorem bdW{c:Cf}{d:D1}{x:Value} (h:Imm c.I c.w d x):Rel c d x:=by
 cases h with
 |v y h=>exact .v _ h
 |isl rows a cap n b o f j e k g hr=>exact .isl rows a cap n b o f j e k g hr
 |fQ cells b o f i g hr=>exact .fQ cells b o f i g hr
 |MY x b i hw=>exact .MY x b i hw
abbrev cf0 (w:World):Cf:=⟨fun _=>(0,0),fun _=>False,fun b=>b<w.heap.size,w⟩
theorem bfK{e:Array Field}{A:Type}{enc:A→List D1}{H:Type}{ec:TypeId×Value→H}{w:World}{base:Nat}{spare:Nat→Bool}{held:Bool}{r:Reach}{boW:Nat}{v:Value}{d:DataW H}{p:List MemPlace}
 (h:aZK P t enc) (f:P.underlying t=some (.struct e)) (g:Value.okWide P w r boW t v) (j:DataW.Trod ec P w base spare held t v d p): ∃a,fD (cf0 w) (boR (enc a)) v∧a9N (enc a):=by
 obtain⟨cs,rfl,_⟩:=okWide_struct f g
 obtain⟨fuel,k⟩:=j
 obtain⟨a,c⟩:=h.op k
 refine⟨a,⟨cs.toList,by simp,c.len,fun i d u l m=> ?_⟩,c.big⟩
 obtain⟨v,n,o⟩:=c.at_ i d l
 have b:(Value.agg cs).cells.toList[i]?=some u:=m
 rw[n] at b
 obtain rfl:=Option.some.inj b
 exact bdW o
theorem bfL{e:TypeId}{A:Type}{enc:A→List D1}{H:Type}{ec:TypeId×Value→H}{w:World}{base:Nat}{spare:Nat→Bool}{held:Bool}{r:Reach}{boW:Nat}{v:Value}{d:DataW H}{p:List MemPlace}
 (h:aZK P t fun l:List A=>[.isl (l.map enc)]) (g:P.underlying t=some (.slice e)) (i:Value.okWide P w r boW t v) (j:DataW.Trod ec P w base spare held t v d p): ∃l:List A,fD (cf0 w) (dS (l.map enc)) v∧Big (.isl (l.map enc)):=by
 obtain⟨b,len,cap,rfl⟩:=okWide_slice g i
 obtain⟨fuel,k⟩:=j
 obtain⟨l,hl⟩:=h.op k
 obtain⟨v,f,m⟩:=hl.at_ 0 _ rfl
 have a:((Value.slice b len cap).cells.toList)[0]?=some (Value.slice b len cap):=rfl
 rw[a] at f
 obtain rfl:=Option.some.inj f
 exact⟨l,(bdW (c:=cf0 w) m:Rel (cf0 w) _ _),hl.big _ (by simp)⟩
theorem bfJ{f:FuncId}{c:List D}{w:World}{vs:List Value} (h:aB P f c .nil 0 fun m _ _=>m.plain=true∧m=dB true) (hl:vs.length=c.length) (q: ∀(i:Nat) (d:D) (u:Value),c[i]?=some d→vs[i]?=some u→fD (cf0 w) d u):
 Calls P f vs.toArray w fun e n=>e= .returned (.bool true)∧Below w.heap.size w n:=by
 have g: ∀b,¬uG (cf0 w) .nil b:=by rintro b ⟨id,o,h,_⟩;cases h
 have l:St (cf0 w) .nil:=⟨fun id o h=>(by cases h),fun id o h=>(by cases h),fun id o h=>(by cases h),fun id o i j r d h=>(by cases h),fun id s o y h=>(by cases h),fun id o h=>(by cases h),fun b h=>h⟩
 refine(h.2 (cf0 w) vs l (fun i hi=>hi.elim) hl q).mono ?_
 rintro x n ⟨u,c',r,H',t,rfl,rfl,z,a,A,B,p,C,rfl⟩
 have hu:u= .bool true:=by simp only[fD,jZ,Rel,bY] at p;cases p;rfl
 subst hu
 exact⟨rfl,a.os,a.tape,a.output,a.size,fun k v=>a.frame k v (g k)⟩
end Go.AM
namespace Go.AM
theorem a9N.at_ {a:List D1} (h:a9N a) (i:Nat) {d:D1} (b:a[i]?=some d):Big d:=h d (s3 b)
theorem Big.bdS {α:Type} {enc:α→List D1} {l:List α} (h:Big (.isl (l.map enc))):l.length<2^63:=by have:=h.len;simpa using this
theorem Big.elem {α:Type} {enc:α→List D1} {l:List α} (h:Big (.isl (l.map enc))): ∀x∈l,a9N (enc x):=fun x a d b=>h.row _ (brI a) d b
theorem Big.apP {α:Type} {enc:α→List D1} {P:α→Prop} {l:List α} (h:Big (.isl (l.map enc))) (boS: ∀x,a9N (enc x)→P x):aZT P (2^63) l:=⟨h.bdS,fun x a=>boS x (h.elem x a)⟩
theorem be9 (q:Req) (h:a9N (eB q)):w3 (2^63) q:=⟨(h.at_ 5 rfl).bdS,(h.at_ 6 rfl).bdS⟩
theorem be3 (p:List Req) (h:a9N (jR p)):aZ7 (2^63) p:=(h.at_ 0 rfl).apP be9
theorem bfU (c:Cfg) (h:a9N (cU c)):aZW (2^63) c:=⟨(h.at_ 0 rfl).bdS,(h.at_ 1 rfl).bdS,(h.at_ 2 rfl).apP be3⟩
theorem beQ (j:Job) (h:a9N (aS j)):e9 (2^63) j:=(h.at_ 4 rfl).bdS
theorem bFY (s:TSt) (h:a9N (eSt s)):bcA (2^63) s:=⟨⟨(h.at_ 0 rfl).bdS,(h.at_ 1 rfl).bdS⟩,(h.at_ 2 rfl).bdS,(h.at_ 3 rfl).apP beQ,(h.at_ 4 rfl).apP beQ,(h.at_ 5 rfl).apP beQ⟩
end Go.AM
