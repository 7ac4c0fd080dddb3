/- Texts laid together by a program: rules, contracts and the walk that leads to the law. -/
import Derived.Test.YtdkfhdmagdaceaaGreatPJ9
import Derived.Test.YtdkfhdmagdaceaaGreatPJ19
import Derived.Test.YtdkfhdmagdaceaaGreatPJ14
import Derived.Test.YtdkfhdmagdaceaaGreatPJ4
import Derived.Test.YtdkfhdmagdaceaaGreatPJ16
set_option linter.unusedVariables false
set_option linter.unusedSimpArgs false
set_option linter.unusedSectionVars false
set_option maxRecDepth 100000
set_option maxHeartbeats 8000000
namespace Go.Proofs.YtdkfhdmagdaceaaGreat
open Go Go.AM
attribute [local irreducible] aM wv aB vd wvH
section
variable {H : aA} {nx : Nat} {K : D → aA → Nat → Prop}
theorem bd6 (l:List Int) (q:l.length<2^21):aB Tryz.prog p8 [dS (l.map aJ)] .nil 0 fun o _ r=>r=0∧o.imm=true∧o=dS (l.map aJ):=by
 refine bdO rfl fun Q s=> ?_;unfold a3V;have hl:l.length<2^21:=q;repeat' first| (with_reducible first| (apply b _ _ _;clear b K)|apply btD|refine btF fun btO a=> ?_)| (with_reducible refine btI fun K b=> ?_)<;>(simp only[go_sem])|refine⟨by omega,?_⟩|fail
 (have f:=a;clear a);refine aM.gP (β:=Nat) (fun k=>en [(4,boP k),(3,.one (.c (.osl 1 3 0 l.length l.length))),(0,dS (l.map aJ))]) (fun k H1 _=>k≤l.length∧H1 3=some ⟨1,l.length,a2F aJ [cI 0] l k⟩) (fun k=>l.length-k) 0 ⟨noF,_,by repeat' first|exact bo2|refine xqI rfl rfl ?_|refine xqO (by omega) rfl rfl (by rfl) ?_|fail,aK,by omega,by rw[a0R];exact aA.bH⟩ ?_;rintro k H1 t p ⟨u,g⟩ bpQ h;have i:=a14 (enc:=aJ) (z:=[cI 0]) u;by_cases d:k<l.length
 ·have j:=a15 (enc:=aJ) (z:=[cI 0]) d;have m:=a3C (enc:=aJ) (z:=[cI 0]) d;generalize v:l.getD k default=x at*;repeat' first| (with_reducible first| (apply b _ _ _;clear b K)| (apply e;clear e hB A B)|apply btD|apply btE|refine btF fun btO a=> ?_|apply btG (by omega))| (with_reducible first|refine btI fun K b=> ?_|refine btJ fun A B e hB=> ?_)<;>(simp only[go_sem,g,i,m,v];try simp (disch:=omega) only[Iw])| ((with_reducible apply btM);simp only[AQ.then,AQ.blk])|refine⟨by omega,?_⟩| (with_reducible apply a _ _ _)|fail
  exact h _ _ _ (k+1) noF _ (by omega) (by omega) (by repeat' first|exact bo2|refine xqI rfl rfl ?_|refine xqO (by omega) rfl rfl (by rfl) ?_|fail) aK ⟨by omega,by rw[←j];exact aA.bH⟩
 ·repeat' first| (with_reducible first| (apply b _ _ _;clear b K)| (apply hB;clear e hB A B)|apply btD|apply btH (by omega)|apply f _ _ _)| (with_reducible first|refine btI fun K b=> ?_|refine btJ fun A B e hB=> ?_)<;>(simp only[go_sem])| ((with_reducible first|apply btK|apply btL);try simp only[AQ.then,AQ.blk,reduceIte,Nat.reduceEqDiff])|fail
  have n:k=l.length:=by omega
  rw[n,a16] at g;exact V4 s (dS (l.map aJ)) _ rfl (apS (bW bF g rfl (m5 _) (by simp))) rfl rfl
theorem aZN {l:List Int} (a:l.length<2^21) (h:K (dS (l.map aJ)) H nx):aB Tryz.prog p8 [dS (l.map aJ)] H nx K:=(bd6 l a).fresh rfl (fun r hr=>hr▸h)
theorem a9E (x:Rng):aB Tryz.prog a0B [boR (eN x)] .nil 0 fun a _ c=>c=0∧a.imm=true∧a=boR (eN x):=by
 refine a6J rfl fun Q d=> ?_;unfold a12;repeat' first| (with_reducible first| (apply b _ _ _;clear b K)|apply btD)| (with_reducible refine btI fun K b=> ?_)<;>(simp only[go_sem])| ((with_reducible apply btK);try simp only[AQ.then,AQ.blk,reduceIte,Nat.reduceEqDiff])|fail
 exact V4 d (boR (eN x)) _ (fZ (m:=1) rfl (by first|exact aA.bH|rfl) rfl) (aE rfl) rfl rfl
theorem a8O {x:Rng} (h:K (boR (eN x)) H nx):aB Tryz.prog a0B [boR (eN x)] H nx K:=(a9E x).fresh rfl (fun r hr=>hr▸h)
theorem a7P (l:List Rng) (q:l.length<2^21):aB Tryz.prog aZ4 [dS (l.map eN)] .nil 0 fun o _ r=>r=0∧o.imm=true∧o=dS (l.map eN):=by
 refine a56 rfl fun Q s=> ?_;unfold a02;have hl:l.length<2^21:=q;repeat' first| (with_reducible first| (apply b _ _ _;clear b K)|apply btD|refine btF fun btO a=> ?_)| (with_reducible refine btI fun K b=> ?_)<;>(simp only[go_sem])|refine⟨by omega,?_⟩|fail
 (have f:=a;clear a);refine aM.gP (β:=Nat) (fun k=>en [(4,boP k),(3,.one (.c (.osl 4 3 0 l.length l.length))),(0,dS (l.map eN))]) (fun k H1 _=>k≤l.length∧H1 3=some ⟨4,l.length,a2F eN [cI 0,cI 0,cI 0,cB false] l k⟩) (fun k=>l.length-k) 0 ⟨noF,_,by repeat' first|exact bo2|refine xqI rfl rfl ?_|refine xqO (by omega) rfl rfl (by rfl) ?_|fail,aK,by omega,by rw[a0R];exact aA.bH⟩ ?_;rintro k H1 t p ⟨u,g⟩ bpQ h;have i:=a14 (enc:=eN) (z:=[cI 0,cI 0,cI 0,cB false]) u;by_cases d:k<l.length
 ·have j:=a15 (enc:=eN) (z:=[cI 0,cI 0,cI 0,cB false]) d;have m:=a3C (enc:=eN) (z:=[cI 0,cI 0,cI 0,cB false]) d;generalize v:l.getD k default=x at*;repeat' first| (with_reducible first| (apply b _ _ _;clear b K)| (apply e;clear e hB A B)|apply btD|apply btE|refine btF fun btO a=> ?_|apply btG (by omega))| (first| (with_reducible first|refine btI fun K b=> ?_|refine btJ fun A B e hB=> ?_)| (apply a8O))<;>(simp only[go_sem,g,i,m,v];try simp (disch:=omega) only[Iw])| ((with_reducible apply btM);simp only[AQ.then,AQ.blk])|refine⟨by omega,?_⟩| (with_reducible apply a _ _ _)|fail
  exact h _ _ _ (k+1) noF _ (by omega) (by omega) (by repeat' first|exact bo2|refine xqI rfl rfl ?_|refine xqO (by omega) rfl rfl (by rfl) ?_|fail) aK ⟨by omega,by rw[←j];exact aA.bH⟩
 ·repeat' first| (with_reducible first| (apply b _ _ _;clear b K)| (apply hB;clear e hB A B)|apply btD|apply btH (by omega)|apply f _ _ _)| (with_reducible first|refine btI fun K b=> ?_|refine btJ fun A B e hB=> ?_)<;>(simp only[go_sem])| ((with_reducible first|apply btK|apply btL);try simp only[AQ.then,AQ.blk,reduceIte,Nat.reduceEqDiff])|fail
  have n:k=l.length:=by omega
  rw[n,a16] at g;exact V4 s (dS (l.map eN)) _ rfl (apS (bW K3 g rfl (m5 _) (by simp))) rfl rfl
theorem a7B {l:List Rng} (a:l.length<2^21) (h:K (dS (l.map eN)) H nx):aB Tryz.prog aZ4 [dS (l.map eN)] H nx K:=(a7P l a).fresh rfl (fun r hr=>hr▸h)
theorem bC8 (x:Ev):aB Tryz.prog byY [boR (eEv x)] .nil 0 fun a _ c=>c=0∧a.imm=true∧a=boR (eEv x):=by
 refine bCW rfl fun Q d=> ?_;unfold bzM;repeat' first| (with_reducible first| (apply b _ _ _;clear b K)|apply btD)| (with_reducible refine btI fun K b=> ?_)<;>(simp only[go_sem])| ((with_reducible apply btK);try simp only[AQ.then,AQ.blk,reduceIte,Nat.reduceEqDiff])|fail
 exact V4 d (boR (eEv x)) _ (fZ (m:=1) rfl (by first|exact aA.bH|rfl) rfl) (aE rfl) rfl rfl
theorem bAE {x:Ev} (h:K (boR (eEv x)) H nx):aB Tryz.prog byY [boR (eEv x)] H nx K:=(bC8 x).fresh rfl (fun r hr=>hr▸h)
theorem bHX (l:List Ev) (q:l.length<2^21):aB Tryz.prog bGX [dS (l.map eEv)] .nil 0 fun o _ r=>r=0∧o.imm=true∧o=dS (l.map eEv):=by
 refine bHR rfl fun Q s=> ?_;unfold bGY;have hl:l.length<2^21:=q;repeat' first| (with_reducible first| (apply b _ _ _;clear b K)|apply btD|refine btF fun btO a=> ?_)| (with_reducible refine btI fun K b=> ?_)<;>(simp only[go_sem])|refine⟨by omega,?_⟩|fail
 (have f:=a;clear a);refine aM.gP (β:=Nat) (fun k=>en [(4,boP k),(3,.one (.c (.osl 3 3 0 l.length l.length))),(0,dS (l.map eEv))]) (fun k H1 _=>k≤l.length∧H1 3=some ⟨3,l.length,a2F eEv [cI 0,cI 0,cI 0] l k⟩) (fun k=>l.length-k) 0 ⟨noF,_,by repeat' first|exact bo2|refine xqI rfl rfl ?_|refine xqO (by omega) rfl rfl (by rfl) ?_|fail,aK,by omega,by rw[a0R];exact aA.bH⟩ ?_;rintro k H1 t p ⟨u,g⟩ bpQ h;have i:=a14 (enc:=eEv) (z:=[cI 0,cI 0,cI 0]) u;by_cases d:k<l.length
 ·have j:=a15 (enc:=eEv) (z:=[cI 0,cI 0,cI 0]) d;have m:=a3C (enc:=eEv) (z:=[cI 0,cI 0,cI 0]) d;generalize v:l.getD k default=x at*;repeat' first| (with_reducible first| (apply b _ _ _;clear b K)| (apply e;clear e hB A B)|apply btD|apply btE|refine btF fun btO a=> ?_|apply btG (by omega))| (first| (with_reducible first|refine btI fun K b=> ?_|refine btJ fun A B e hB=> ?_)| (apply bAE))<;>(simp only[go_sem,g,i,m,v];try simp (disch:=omega) only[Iw])| ((with_reducible apply btM);simp only[AQ.then,AQ.blk])|refine⟨by omega,?_⟩| (with_reducible apply a _ _ _)|fail
  exact h _ _ _ (k+1) noF _ (by omega) (by omega) (by repeat' first|exact bo2|refine xqI rfl rfl ?_|refine xqO (by omega) rfl rfl (by rfl) ?_|fail) aK ⟨by omega,by rw[←j];exact aA.bH⟩
 ·repeat' first| (with_reducible first| (apply b _ _ _;clear b K)| (apply hB;clear e hB A B)|apply btD|apply btH (by omega)|apply f _ _ _)| (with_reducible first|refine btI fun K b=> ?_|refine btJ fun A B e hB=> ?_)<;>(simp only[go_sem])| ((with_reducible first|apply btK|apply btL);try simp only[AQ.then,AQ.blk,reduceIte,Nat.reduceEqDiff])|fail
  have n:k=l.length:=by omega
  rw[n,a16] at g;exact V4 s (dS (l.map eEv)) _ rfl (apS (bW aq2 g rfl (m5 _) (by simp))) rfl rfl
theorem bHA {l:List Ev} (a:l.length<2^21) (h:K (dS (l.map eEv)) H nx):aB Tryz.prog bGX [dS (l.map eEv)] H nx K:=(bHX l a).fresh rfl (fun r hr=>hr▸h)
theorem bc4 (w:List Int) (c:w.length<2^21):aB Tryz.prog a1G [boR [.isl (w.map aJ)]] .nil 0 fun a _ d=>d=0∧a.imm=true∧a=boR [.isl (w.map aJ)]:=by
 refine bbF rfl fun Q e=> ?_;unfold a22;repeat' first| (with_reducible first| (apply b _ _ _;clear b K)|apply btD)| (first| (with_reducible refine btI fun K b=> ?_)| (apply aZN (l:=w) c))<;>(simp only[go_sem])| ((with_reducible apply btK);try simp only[AQ.then,AQ.blk,reduceIte,Nat.reduceEqDiff])|fail
 exact V4 e (boR [.isl (w.map aJ)]) _ (fZ (m:=1) rfl (by first|exact aA.bH|rfl) rfl) (aE rfl) rfl rfl
theorem bcP {w:List Int} (a:w.length<2^21) (h:K (boR [.isl (w.map aJ)]) H nx):aB Tryz.prog a1G [boR [.isl (w.map aJ)]] H nx K:=(bc4 w a).fresh rfl (fun r hr=>hr▸h)
theorem a8I (w u:List Int) (c:w.length<2^21) (d:u.length<2^21):aB Tryz.prog a0K [boR [.isl (w.map aJ),.isl (u.map aJ)]] .nil 0 fun a _ e=>e=0∧a.imm=true∧a=boR [.isl (w.map aJ),.isl (u.map aJ)]:=by
 refine a7L rfl fun Q f=> ?_;unfold a13;repeat' first| (with_reducible first| (apply b _ _ _;clear b K)|apply btD)| (first| (with_reducible refine btI fun K b=> ?_)| (apply bcP (w:=w) c)| (apply aZN (l:=u) d))<;>(simp only[go_sem])| ((with_reducible apply btK);try simp only[AQ.then,AQ.blk,reduceIte,Nat.reduceEqDiff])|fail
 exact V4 f (boR [.isl (w.map aJ),.isl (u.map aJ)]) _ (fZ (m:=1) rfl (by first|exact aA.bH|rfl) rfl) (aE rfl) rfl rfl
theorem a94 {w:List Int} {u:List Int} (a:w.length<2^21) (b:u.length<2^21) (h:K (boR [.isl (w.map aJ),.isl (u.map aJ)]) H nx):aB Tryz.prog a0K [boR [.isl (w.map aJ),.isl (u.map aJ)]] H nx K:=(a8I w u a b).fresh rfl (fun r hr=>hr▸h)
theorem bc1 (x:Req) (c:w3 (2^21) x):aB Tryz.prog a1D [boR (eB x)] .nil 0 fun a _ d=>d=0∧a.imm=true∧a=boR (eB x):=by
 refine baW rfl fun Q e=> ?_;unfold a2T;obtain⟨boW,f⟩:=c;repeat' first| (with_reducible first| (apply b _ _ _;clear b K)|apply btD)| (first| (with_reducible refine btI fun K b=> ?_)| (apply aZN (l:=x.data) boW)| (apply aZN (l:=x.g6) f))<;>(simp only[go_sem])| ((with_reducible apply btK);try simp only[AQ.then,AQ.blk,reduceIte,Nat.reduceEqDiff])|fail
 exact V4 e (boR (eB x)) _ (fZ (m:=1) rfl (by first|exact aA.bH|rfl) rfl) (aE rfl) rfl rfl
theorem bcE {x:Req} (a:w3 (2^21) x) (h:K (boR (eB x)) H nx):aB Tryz.prog a1D [boR (eB x)] H nx K:=(bc1 x a).fresh rfl (fun r hr=>hr▸h)
theorem ba3 (l:List Req) (o:aZT (w3 (2^21)) (2^21) l):aB Tryz.prog a0S [dS (l.map eB)] .nil 0 fun p _ r=>r=0∧p.imm=true∧p=dS (l.map eB):=by
 refine a9F rfl fun Q s=> ?_;unfold a17;have hl:l.length<2^21:=o.1;repeat' first| (with_reducible first| (apply b _ _ _;clear b K)|apply btD|refine btF fun btO a=> ?_)| (with_reducible refine btI fun K b=> ?_)<;>(simp only[go_sem])|refine⟨by omega,?_⟩|fail
 (have f:=a;clear a);refine aM.gP (β:=Nat) (fun k=>en [(4,boP k),(3,.one (.c (.osl 7 3 0 l.length l.length))),(0,dS (l.map eB))]) (fun k H1 _=>k≤l.length∧H1 3=some ⟨7,l.length,a2F eB [cI 0,cI 0,cI 0,cI 0,cB false,.osl 0 0 0 0 0,.osl 0 0 0 0 0] l k⟩) (fun k=>l.length-k) 0 ⟨noF,_,by repeat' first|exact bo2|refine xqI rfl rfl ?_|refine xqO (by omega) rfl rfl (by rfl) ?_|fail,aK,by omega,by rw[a0R];exact aA.bH⟩ ?_;rintro k H1 t q ⟨u,g⟩ bpQ h;have i:=a14 (enc:=eB) (z:=[cI 0,cI 0,cI 0,cI 0,cB false,.osl 0 0 0 0 0,.osl 0 0 0 0 0]) u;by_cases d:k<l.length
 ·have hm:=o.2 _ (cC d);have j:=a15 (enc:=eB) (z:=[cI 0,cI 0,cI 0,cI 0,cB false,.osl 0 0 0 0 0,.osl 0 0 0 0 0]) d;have m:=a3C (enc:=eB) (z:=[cI 0,cI 0,cI 0,cI 0,cB false,.osl 0 0 0 0 0,.osl 0 0 0 0 0]) d;generalize v:l.getD k default=x at*;repeat' first| (with_reducible first| (apply b _ _ _;clear b K)| (apply e;clear e hB A B)|apply btD|apply btE|refine btF fun btO a=> ?_|apply btG (by omega))| (first| (with_reducible first|refine btI fun K b=> ?_|refine btJ fun A B e hB=> ?_)| (apply bcE hm))<;>(simp only[go_sem,g,i,m,v];try simp (disch:=omega) only[Iw])| ((with_reducible apply btM);simp only[AQ.then,AQ.blk])|refine⟨by omega,?_⟩| (with_reducible apply a _ _ _)|fail
  exact h _ _ _ (k+1) noF _ (by omega) (by omega) (by repeat' first|exact bo2|refine xqI rfl rfl ?_|refine xqO (by omega) rfl rfl (by rfl) ?_|fail) aK ⟨by omega,by rw[←j];exact aA.bH⟩
 ·repeat' first| (with_reducible first| (apply b _ _ _;clear b K)| (apply hB;clear e hB A B)|apply btD|apply btH (by omega)|apply f _ _ _)| (with_reducible first|refine btI fun K b=> ?_|refine btJ fun A B e hB=> ?_)<;>(simp only[go_sem])| ((with_reducible first|apply btK|apply btL);try simp only[AQ.then,AQ.blk,reduceIte,Nat.reduceEqDiff])|fail
  have n:k=l.length:=by omega
  rw[n,a16] at g;exact V4 s (dS (l.map eB)) _ rfl (apS (bW rL g rfl (m5 _) (by simp))) rfl rfl
theorem ba9 {l:List Req} (a:aZT (w3 (2^21)) (2^21) l) (h:K (dS (l.map eB)) H nx):aB Tryz.prog a0S [dS (l.map eB)] H nx K:=(ba3 l a).fresh rfl (fun r hr=>hr▸h)
theorem a9G (l:List (List Req)) (o:aZT (aZ7 (2^21)) (2^21) l):aB Tryz.prog a0G [dS (l.map jR)] .nil 0 fun p _ r=>r=0∧p.imm=true∧p=dS (l.map jR):=by
 refine a7Q rfl fun Q s=> ?_;unfold a1T;have hl:l.length<2^21:=o.1;repeat' first| (with_reducible first| (apply b _ _ _;clear b K)|apply btD|refine btF fun btO a=> ?_)| (with_reducible refine btI fun K b=> ?_)<;>(simp only[go_sem])|refine⟨by omega,?_⟩|fail
 (have f:=a;clear a);refine aM.gP (β:=Nat) (fun k=>en [(4,boP k),(3,.one (.c (.osl 1 3 0 l.length l.length))),(0,dS (l.map jR))]) (fun k H1 _=>k≤l.length∧H1 3=some ⟨1,l.length,a2F jR [.osl 0 0 0 0 0] l k⟩) (fun k=>l.length-k) 0 ⟨noF,_,by repeat' first|exact bo2|refine xqI rfl rfl ?_|refine xqO (by omega) rfl rfl (by rfl) ?_|fail,aK,by omega,by rw[a0R];exact aA.bH⟩ ?_;rintro k H1 t q ⟨u,g⟩ bpQ h;have i:=a14 (enc:=jR) (z:=[.osl 0 0 0 0 0]) u;by_cases d:k<l.length
 ·have hm:=o.2 _ (cC d);have j:=a15 (enc:=jR) (z:=[.osl 0 0 0 0 0]) d;have m:=a3C (enc:=jR) (z:=[.osl 0 0 0 0 0]) d;generalize v:l.getD k default=x at*;repeat' first| (with_reducible first| (apply b _ _ _;clear b K)| (apply e;clear e hB A B)|apply btD|apply btE|refine btF fun btO a=> ?_|apply btG (by omega))| (first| (with_reducible first|refine btI fun K b=> ?_|refine btJ fun A B e hB=> ?_)| (apply ba9 hm))<;>(simp only[go_sem,g,i,m,v];try simp (disch:=omega) only[Iw])| ((with_reducible apply btM);simp only[AQ.then,AQ.blk])|refine⟨by omega,?_⟩| (with_reducible apply a _ _ _)|fail
  exact h _ _ _ (k+1) noF _ (by omega) (by omega) (by repeat' first|exact bo2|refine xqI rfl rfl ?_|refine xqO (by omega) rfl rfl (by rfl) ?_|fail) aK ⟨by omega,by rw[←j];exact aA.bH⟩
 ·repeat' first| (with_reducible first| (apply b _ _ _;clear b K)| (apply hB;clear e hB A B)|apply btD|apply btH (by omega)|apply f _ _ _)| (with_reducible first|refine btI fun K b=> ?_|refine btJ fun A B e hB=> ?_)<;>(simp only[go_sem])| ((with_reducible first|apply btK|apply btL);try simp only[AQ.then,AQ.blk,reduceIte,Nat.reduceEqDiff])|fail
  have n:k=l.length:=by omega
  rw[n,a16] at g;exact V4 s (dS (l.map jR)) _ rfl (apS (bW iR g rfl (m5 _) (by simp))) rfl rfl
theorem a9A {l:List (List Req)} (a:aZT (aZ7 (2^21)) (2^21) l) (h:K (dS (l.map jR)) H nx):aB Tryz.prog a0G [dS (l.map jR)] H nx K:=(a9G l a).fresh rfl (fun r hr=>hr▸h)
theorem bc5 (x:Cfg) (c:aZW (2^21) x):aB Tryz.prog aZL [boR (cU x)] .nil 0 fun a _ d=>d=0∧a.imm=true∧a=boR (cU x):=by
 refine bbK rfl fun Q e=> ?_;unfold a2W;obtain⟨boW,f,g⟩:=c;repeat' first| (with_reducible first| (apply b _ _ _;clear b K)|apply btD)| (first| (with_reducible refine btI fun K b=> ?_)| (apply a7B (l:=x.map) boW)| (apply aZN (l:=x.lat) f)| (apply a9A (l:=x.cP) g))<;>(simp only[go_sem])| ((with_reducible apply btK);try simp only[AQ.then,AQ.blk,reduceIte,Nat.reduceEqDiff])|fail
 exact V4 e (boR (cU x)) _ (fZ (m:=1) rfl (by first|exact aA.bH|rfl) rfl) (aE rfl) rfl rfl
theorem bcF {x:Cfg} (a:aZW (2^21) x) (h:K (boR (cU x)) H nx):aB Tryz.prog aZL [boR (cU x)] H nx K:=(bc5 x a).fresh rfl (fun r hr=>hr▸h)
theorem bc2 (x:Rsp) (c:aZV (2^21) x):aB Tryz.prog a05 [boR (tG x)] .nil 0 fun a _ d=>d=0∧a.imm=true∧a=boR (tG x):=by
 refine bbA rfl fun Q e=> ?_;unfold a25;have boW:x.data.length<(2^21):=c;repeat' first| (with_reducible first| (apply b _ _ _;clear b K)|apply btD)| (first| (with_reducible refine btI fun K b=> ?_)| (apply aZN (l:=x.data) boW))<;>(simp only[go_sem])| ((with_reducible apply btK);try simp only[AQ.then,AQ.blk,reduceIte,Nat.reduceEqDiff])|fail
 exact V4 e (boR (tG x)) _ (fZ (m:=1) rfl (by first|exact aA.bH|rfl) rfl) (aE rfl) rfl rfl
theorem bcR {x:Rsp} (a:aZV (2^21) x) (h:K (boR (tG x)) H nx):aB Tryz.prog a05 [boR (tG x)] H nx K:=(bc2 x a).fresh rfl (fun r hr=>hr▸h)
theorem bcS (x:Job) (c:e9 (2^21) x):aB Tryz.prog a1H [boR (aS x)] .nil 0 fun a _ d=>d=0∧a.imm=true∧a=boR (aS x):=by
 refine bbN rfl fun Q e=> ?_;unfold a2Z;have boW:aZV (2^21) x.rsp:=c;repeat' first| (with_reducible first| (apply b _ _ _;clear b K)|apply btD)| (first| (with_reducible refine btI fun K b=> ?_)| (apply bcR (x:=x.rsp) boW))<;>(simp only[go_sem])| ((with_reducible apply btK);try simp only[AQ.then,AQ.blk,reduceIte,Nat.reduceEqDiff])|fail
 exact V4 e (boR (aS x)) _ (fZ (m:=1) rfl (by first|exact aA.bH|rfl) rfl) (aE rfl) rfl rfl
theorem bcL {x:Job} (a:e9 (2^21) x) (h:K (boR (aS x)) H nx):aB Tryz.prog a1H [boR (aS x)] H nx K:=(bcS x a).fresh rfl (fun r hr=>hr▸h)
theorem bbT (l:List Job) (o:aZT (e9 (2^21)) (2^21) l):aB Tryz.prog aZR [dS (l.map aS)] .nil 0 fun p _ r=>r=0∧p.imm=true∧p=dS (l.map aS):=by
 refine a8V rfl fun Q s=> ?_;unfold a2J;have hl:l.length<2^21:=o.1;repeat' first| (with_reducible first| (apply b _ _ _;clear b K)|apply btD|refine btF fun btO a=> ?_)| (with_reducible refine btI fun K b=> ?_)<;>(simp only[go_sem])|refine⟨by omega,?_⟩|fail
 (have f:=a;clear a);refine aM.gP (β:=Nat) (fun k=>en [(4,boP k),(3,.one (.c (.osl 5 3 0 l.length l.length))),(0,dS (l.map aS))]) (fun k H1 _=>k≤l.length∧H1 3=some ⟨5,l.length,a2F aS [cI 0,cI 0,cI 0,cI 0,.osl 0 0 0 0 0] l k⟩) (fun k=>l.length-k) 0 ⟨noF,_,by repeat' first|exact bo2|refine xqI rfl rfl ?_|refine xqO (by omega) rfl rfl (by rfl) ?_|fail,aK,by omega,by rw[a0R];exact aA.bH⟩ ?_;rintro k H1 t q ⟨u,g⟩ bpQ h;have i:=a14 (enc:=aS) (z:=[cI 0,cI 0,cI 0,cI 0,.osl 0 0 0 0 0]) u;by_cases d:k<l.length
 ·have hm:=o.2 _ (cC d);have j:=a15 (enc:=aS) (z:=[cI 0,cI 0,cI 0,cI 0,.osl 0 0 0 0 0]) d;have m:=a3C (enc:=aS) (z:=[cI 0,cI 0,cI 0,cI 0,.osl 0 0 0 0 0]) d;generalize v:l.getD k default=x at*;repeat' first| (with_reducible first| (apply b _ _ _;clear b K)| (apply e;clear e hB A B)|apply btD|apply btE|refine btF fun btO a=> ?_|apply btG (by omega))| (first| (with_reducible first|refine btI fun K b=> ?_|refine btJ fun A B e hB=> ?_)| (apply bcL hm))<;>(simp only[go_sem,g,i,m,v];try simp (disch:=omega) only[Iw])| ((with_reducible apply btM);simp only[AQ.then,AQ.blk])|refine⟨by omega,?_⟩| (with_reducible apply a _ _ _)|fail
  exact h _ _ _ (k+1) noF _ (by omega) (by omega) (by repeat' first|exact bo2|refine xqI rfl rfl ?_|refine xqO (by omega) rfl rfl (by rfl) ?_|fail) aK ⟨by omega,by rw[←j];exact aA.bH⟩
 ·repeat' first| (with_reducible first| (apply b _ _ _;clear b K)| (apply hB;clear e hB A B)|apply btD|apply btH (by omega)|apply f _ _ _)| (with_reducible first|refine btI fun K b=> ?_|refine btJ fun A B e hB=> ?_)<;>(simp only[go_sem])| ((with_reducible first|apply btK|apply btL);try simp only[AQ.then,AQ.blk,reduceIte,Nat.reduceEqDiff])|fail
  have n:k=l.length:=by omega
  rw[n,a16] at g;exact V4 s (dS (l.map aS)) _ rfl (apS (bW dZ g rfl (m5 _) (by simp))) rfl rfl
theorem a5E {l:List Job} (a:aZT (e9 (2^21)) (2^21) l) (h:K (dS (l.map aS)) H nx):aB Tryz.prog aZR [dS (l.map aS)] H nx K:=(bbT l a).fresh rfl (fun r hr=>hr▸h)
theorem bC7 (x:TSt) (c:bcA (2^21) x):aB Tryz.prog byP [boR (eSt x)] .nil 0 fun a _ d=>d=0∧a.imm=true∧a=boR (eSt x):=by
 refine bCN rfl fun Q e=> ?_;unfold byX;obtain⟨⟨bqH,bqI⟩,f,g,boX,boY⟩:=c;repeat' first| (with_reducible first| (apply b _ _ _;clear b K)|apply btD)| (first| (with_reducible refine btI fun K b=> ?_)| (apply a94 (w:=x.words) (u:=x.holds) bqH bqI)| (apply aZN (l:=x.asked) f)| (apply a5E (l:=x.wait) g)| (apply a5E (l:=x.done) boX)| (apply a5E (l:=x.told) boY))<;>(simp only[go_sem])| ((with_reducible apply btK);try simp only[AQ.then,AQ.blk,reduceIte,Nat.reduceEqDiff])|fail
 exact V4 e (boR (eSt x)) _ (fZ (m:=1) rfl (by first|exact aA.bH|rfl) rfl) (aE rfl) rfl rfl
theorem bAC {x:TSt} (a:bcA (2^21) x) (h:K (boR (eSt x)) H nx):aB Tryz.prog byP [boR (eSt x)] H nx K:=(bC7 x a).fresh rfl (fun r hr=>hr▸h)
end
end Go.Proofs.YtdkfhdmagdaceaaGreat
namespace Go.AM
theorem aM.aTJ{P:Program}{T:Nat}{e:Env}{H:aA}{nx:Nat}{Q:AQ}{zs:List AC} (h: ∀G,G=H→aM P T zs e G nx Q):aM P T zs e H nx Q:=h H rfl
def Own {α:Type} (enc:α→List D1) (n:Nat) (H:aA) (b cap:Nat) (l:List α):Prop:=∃m,H b=some ⟨n,m,l.map enc⟩∧l.length≤cap∧cap≤m
variable{b:Nat}
theorem Own.of{α:Type}{enc:α→List D1}{n cap:Nat}{l:List α}{H H':aA} (h:Own enc n H b cap l) (he:H' b=H b):Own enc n H' b cap l:=by obtain⟨m,a,c⟩:=h;exact⟨m,he.trans a,c⟩
theorem Own.frz{α:Type}{enc:α→List D1}{n cap nh:Nat}{l:List α}{H:aA}{F:Nat→Prop}{σ:Nat→Nat} (h:Own enc n H b cap l) (he: ∀x,(enc x).length=n∧(enc x).all D1.dQ=true) (a:F b):Cv1 H F σ nh (.isl (l.map enc)) (.osl n b 0 l.length cap):=by obtain⟨m,c,d,e⟩:=h;exact bW he c rfl d a
theorem um1{k i:Nat}{A B:aA} (h:i≠b+k):dT b [k] A B i=B i:=by unfold dT;rw[if_neg (by simp;omega)]
theorem aH6{k:Nat}{A B:aA}:dT b [k] A B (b+k)=A (b+k):=by unfold dT;rw[if_pos (by simp)]
theorem mk1{k i:Nat}{A:aA} (h:i≠b+k):msk b [k] A i=A i:=by unfold msk;rw[if_neg (by simp;omega)]
theorem aSP{l:List Nat}{G:aA}:dT b l G (msk b l G)=G:=by
 funext i;unfold dT msk;split;·rfl
 ·rfl
end Go.AM
namespace Go.Proofs.YtdkfhdmagdaceaaGreat
open Go Go.AM
attribute [local irreducible] aM wv aB vd wvH
section
variable {H : aA} {nx : Nat} {K : D → aA → Nat → Prop}
theorem aQ5:cJ Tryz.prog aIM Tryz.f158 aJF aJZ:=cJ.mk Tryz.func158 (by kernel_rfl) aLH
theorem aNQ{l:List Job} (hl:l.length<2^21) (x: ∀j∈l,j.rsp.data.length<2^21)
 (h: ∀H' d b cap,nx≤b→b<d→Own aS 5 H' b cap l→(∀id,id<nx→H' id=H id)→K (.one (.c (.osl 5 b 0 l.length cap))) H' d):aB Tryz.prog aIM [dS (l.map aS)] H nx K:=by
 refine aQ5 rfl fun Q y=> ?_
 unfold aJF
 repeat' first|apply bn1<;>(simp only[go_sem,boC])|fail
 refine aM.gP (β:=Nat×Nat×Nat) (fun u=>en [(4,boP u.1),(3,.one (.c (.osl 5 u.2.1 0 u.1 u.2.2))),(0,dS (l.map aS))])
  (fun u H1 a=>u.1≤l.length∧(∃m,H1 u.2.1=some ⟨5,m,(l.take u.1).map aS⟩∧u.1≤u.2.2∧u.2.2≤m)∧(nx≤u.2.1∧u.2.1<a)∧ ∀id,id<nx→H1 id=H id)
  (fun u=>l.length-u.1) (0,nx+1,0) ⟨noF,_,by repeat' first|exact bo2|refine xqI rfl rfl ?_| (with_reducible apply bo3)| ((with_reducible apply bo0);exact bpA)| ((with_reducible apply bo1);apply bo7)|fail,aK,by dsimp only;omega,⟨0,by simp only[aA.set,if_true];rfl,by dsimp only;omega,by dsimp only;omega⟩,by dsimp only;omega,fun id e=>by simp only[aA.set,show ¬id=nx+1 by omega,if_false]⟩ ?_
 rintro⟨k,b,cap⟩ H1 a z ⟨A,⟨m,n,s,t⟩,⟨f,o⟩,g⟩ bpQ p
 dsimp only at A n s t f o
 have q:(l.take k).take k=l.take k:=boL (by simp;omega)
 have v:bQ a [b]:=AM.apart (by simp) (by simp;omega)
 simp only[bQ,eZ] at v
 by_cases i:k<l.length
 ·have hm:=x _ (cC i);have B:b<a+(4+2):=by omega
  repeat' first| (first|apply bn1|apply aMW hm)<;>(simp only[go_sem,q,aM8,n,v,boC];try simp (disch:=omega) only[Iw])|apply bn2 (by omega)| (with_reducible first|refine fun(cap:Nat) (w:_≤cap)=> ?_|refine fun(C:_≤cap)=> ?_)|refine⟨by omega,?_⟩| (refine⟨by(rw[CG];omega),?_⟩)|fail
  refine p _ _ _ (k+1,a+23,cap) noF _ (by omega) (by dsimp only;omega) (by dsimp only;repeat' first|exact bo2|refine xqI rfl rfl ?_|refine xqO (by omega) rfl rfl (by rfl) ?_|fail) aK ⟨by dsimp only;omega,⟨cap,by rw[nK i];exact aA.bH,by dsimp only;omega,m5 _⟩,by dsimp only;omega,fun id e=> ?_⟩;rw[aA.aC (by omega),aA.aC (by omega),aA.jG (by omega)];exact g id e
 ·repeat' first|apply bn1<;>(simp only[go_sem])|apply bn3 (by omega)|fail
  have r:k=l.length:=by omega
  subst r;refine y _ _ _ _ _ (.inr rfl) rfl (h _ _ b cap f (by omega) ⟨m,?_,s,t⟩ g);rw[n,bq4]
theorem aQ3:cJ Tryz.prog aIW Tryz.f234 aJE aJ3:=cJ.mk Tryz.func234 (by kernel_rfl) aK8
variable{w:List Int}
theorem aRC (hl:w.length<2^21) (h: ∀H' a b cap,nx≤b→b<a→Own aJ 1 H' b cap w→(∀id,id<nx→H' id=H id)→K (boR [.osl 1 b 0 w.length cap]) H' a):aB Tryz.prog aIW [boR [.isl (w.map aJ)]] H nx K:=by
 refine aQ3 rfl fun Q d=> ?_;unfold aJE;repeat' first|apply bn1<;>(simp only[go_sem,boC])| (with_reducible first|refine fun(cap:Nat) (c:_≤cap)=> ?_|refine fun(e:_≤cap)=> ?_)|refine⟨by omega,?_⟩|fail
 refine d _ _ _ _ _ (.inr rfl) (fZ (m:=1) rfl (by simp only[aA.set,bqU,Nat.reduceEqDiff,if_false,if_true]) rfl) (h _ _ (nx+2+3) cap (by omega) (by omega) ⟨cap,by simp only[aA.set,t1,bqU,Nat.reduceEqDiff,Nat.reduceAdd,if_false,if_true],by assumption,m5 _⟩ fun id f=> ?_);rw[aA.aC (by omega),aA.aC (by omega),aA.aC (by omega),aA.jG (by omega)]
theorem aQS:cJ Tryz.prog aIR Tryz.f157 aJH aJ4:=cJ.mk Tryz.func157 (by kernel_rfl) aLG
theorem aQE{u:List Int} (hl:w.length<2^21) (hu:u.length<2^21) (h: ∀H' b boW d c0 c1,nx≤d→d<boW→boW<b→Own aJ 1 H' boW c0 w→Own aJ 1 H' d c1 u→(∀id,id<nx→H' id=H id)→K (boR [.osl 1 boW 0 w.length c0,.osl 1 d 0 u.length c1]) H' b):aB Tryz.prog aIR [boR [.isl (w.map aJ),.isl (u.map aJ)]] H nx K:=by
 refine aQS rfl fun Q j=> ?_;unfold aJH;repeat' first| (first|apply bn1|refine aRC hl (fun H1 k boW c0 l n o a=> ?_))<;>(simp only[go_sem,boC])|fail
 obtain⟨G,bqK⟩: ∃G,G=dT (nx+2) [3] (((H.set nx ⟨2,1,[[.isl (w.map aJ),.isl (u.map aJ)]]⟩).set (nx+1) ⟨2,1,[[.osl 0 0 0 0 0,.osl 0 0 0 0 0]]⟩).set (nx+5) ⟨1,0,[]⟩) H1:=⟨_,rfl⟩
 rw[←bqK];have bqC:G nx=some ⟨2,1,[[.isl (w.map aJ),.isl (u.map aJ)]]⟩:=by rw[bqK,um1 (by omega),a _ (by omega),aA.aC (by omega)];exact aA.bH
 have f:G (nx+1)=some ⟨2,1,[[.osl 0 0 0 0 0,.osl 0 0 0 0 0]]⟩:=by rw[bqK,um1 (by omega),a _ (by omega)];exact aA.bH
 have g:G (nx+5)=some ⟨1,0,[]⟩:=by rw[bqK,aH6];exact aA.bH
 have p:Own aJ 1 G boW c0 w:=o.of (by rw[bqK,um1 (by omega)]);have q: ∀id,id<nx→G id=H id:=fun id c=>by rw[bqK,um1 (by omega),a _ (by omega),aA.aC (by omega),aA.aC (by omega),mk1 (by omega)]
 clear bqK;have e: ∀G:aA,msk (nx+2) [3] G nx=G nx:=fun G=>mk1 (by omega);refine⟨fun _=>by rw[e,bqC];rfl,?_⟩;simp only[go_sem,bqC,f,g,e,boC];repeat' first|apply bn1<;>(simp only[go_sem,bqC,f,g,e,boC])| (with_reducible first|refine fun(cap:Nat) (i:_≤cap)=> ?_|refine fun(r:_≤cap)=> ?_)|refine⟨by omega,?_⟩|fail
 exact j _ _ _ _ _ (.inr rfl) (fZ (m:=1) rfl aA.bH rfl) (h _ _ boW (nx+8) c0 cap (by omega) (by omega) (by omega) (p.of (by rw[aA.aC (by omega),aA.aC (by omega),aA.jG (by omega)])) ⟨cap,by rw[aA.aC (by omega)];exact aA.bH,by assumption,m5 _⟩ fun id c=>by rw[aA.aC (by omega),aA.aC (by omega),aA.jG (by omega)];exact q id c)
theorem aRU:cJ Tryz.prog aI0 Tryz.f68 aJB aJW:=cJ.mk Tryz.func68 (by kernel_rfl) aLD
theorem aQR{s:TSt} (c:aTQ s)(h: ∀H' k boW f t boX boY boZ c0 c1 c2 c3 c4 c5,nx≤t→t<f→f<boW→boW<boX→boX<boY→boY<boZ→boZ<k→Own aJ 1 H' boW c0 s.words→Own aJ 1 H' f c1 s.holds→Own aJ 1 H' t c2 s.asked→Own aS 5 H' boX c3 s.wait→Own aS 5 H' boY c4 s.done→Own aS 5 H' boZ c5 s.told→(∀id,id<nx→H' id=H id)→
 K (boR [.osl 1 boW 0 s.words.length c0,.osl 1 f 0 s.holds.length c1,.osl 1 t 0 s.asked.length c2,.osl 5 boX 0 s.wait.length c3,.osl 5 boY 0 s.done.length c4,.osl 5 boZ 0 s.told.length c5]) H' k):aB Tryz.prog aI0 [boR (eSt s)] H nx K:=by
 have u: ∀j∈s.wait,j.rsp.data.length<2^21:=fun j l=>c.data j (by simp[l])
 have v: ∀j∈s.done,j.rsp.data.length<2^21:=fun j l=>c.data j (by simp[l])
 have w: ∀j∈s.told,j.rsp.data.length<2^21:=fun j l=>c.data j (by simp[l])
 have J:=c.asked
 refine aRU rfl fun Q L=> ?_
 unfold aJB
 repeat' first| (first|apply bn1|refine aQE c.words c.holds (fun H1 M boW f c0 c1 N O P n o d=> ?_))<;>(simp only[go_sem,boC])|fail
 obtain⟨G,bqK⟩: ∃G,G=dT (nx+2) [3] (((H.set nx ⟨6,1,[eSt s]⟩).set (nx+1) ⟨6,1,[[.osl 0 0 0 0 0,.osl 0 0 0 0 0,.osl 0 0 0 0 0,.osl 0 0 0 0 0,.osl 0 0 0 0 0,.osl 0 0 0 0 0]]⟩).set (nx+5) ⟨1,0,[]⟩) H1:=⟨_,rfl⟩
 rw[←bqK]
 have bqC:G nx=some ⟨6,1,[eSt s]⟩:=by rw[bqK,um1 (by omega),d _ (by omega),aA.aC (by omega)];exact aA.bH
 have x:G (nx+1)=some ⟨6,1,[[.osl 0 0 0 0 0,.osl 0 0 0 0 0,.osl 0 0 0 0 0,.osl 0 0 0 0 0,.osl 0 0 0 0 0,.osl 0 0 0 0 0]]⟩:=by rw[bqK,um1 (by omega),d _ (by omega)];exact aA.bH
 have D:G (nx+5)=some ⟨1,0,[]⟩:=by rw[bqK,aH6];exact aA.bH
 have p:Own aJ 1 G boW c0 s.words:=n.of (by rw[bqK,um1 (by omega)])
 have q:Own aJ 1 G f c1 s.holds:=o.of (by rw[bqK,um1 (by omega)])
 have E: ∀id,id<nx→G id=H id:=fun id b=>by rw[bqK,um1 (by omega),d _ (by omega),aA.aC (by omega),aA.aC (by omega),mk1 (by omega)]
 clear bqK n o d
 have R: ∀G:aA,msk (nx+2) [3] G nx=G nx:=fun G=>mk1 (by omega)
 simp only[R,bqC]
 refine⟨⟨fun _=>rfl,fun _=>rfl,fun _=>rfl,fun _=>rfl⟩,?_⟩
 simp only[go_sem,bqC,x,D,boC]
 refine⟨by omega,fun c2 y _=> ?_⟩
 refine aNQ c.wait u fun g z boX c3 X Y bqD a=> ?_
 have F:g nx=some ⟨6,1,[eSt s]⟩:=by rw[a _ (by omega),aA.aC (by omega),aA.jG (by omega)];exact bqC
 have S:g (nx+1)=some ⟨6,1,[[.osl 0 0 0 0 0,.osl 0 0 0 0 0,.osl 0 0 0 0 0,.osl 0 0 0 0 0,.osl 0 0 0 0 0,.osl 0 0 0 0 0]]⟩:=by rw[a _ (by omega),aA.aC (by omega),aA.jG (by omega)];exact x
 have A:Own aJ 1 g boW c0 s.words:=p.of (by rw[a _ (by omega),aA.aC (by omega),aA.jG (by omega)])
 have B:Own aJ 1 g f c1 s.holds:=q.of (by rw[a _ (by omega),aA.aC (by omega),aA.jG (by omega)])
 have C:Own aJ 1 g (nx+8) c2 s.asked:=⟨c2,by rw[a _ (by omega)];exact aA.bH,y,m5 _⟩
 have T: ∀id,id<nx→g id=H id:=fun id b=>by rw[a _ (by omega),aA.aC (by omega),aA.jG (by omega)];exact E id b
 clear bqC x D p q E a
 simp only[go_sem,F]
 refine aNQ c.done v fun U V boY c4 Z p4 bqE i=> ?_
 have l0:U nx=some ⟨6,1,[eSt s]⟩:=by rw[i _ (by omega)];exact F
 simp only[go_sem,l0]
 refine aNQ c.told w fun bqL W boZ c5 p5 p6 bqF e=> ?_
 have I:bqL nx=some ⟨6,1,[eSt s]⟩:=by rw[e _ (by omega)];exact l0
 have bp0:bqL (nx+1)=some ⟨6,1,[[.osl 0 0 0 0 0,.osl 0 0 0 0 0,.osl 0 0 0 0 0,.osl 0 0 0 0 0,.osl 0 0 0 0 0,.osl 0 0 0 0 0]]⟩:=by rw[e _ (by omega),i _ (by omega)];exact S
 have r: ∀id,id<z→bqL id=g id:=fun id b=>by rw[e _ (by omega),i _ (by omega)]
 simp only[go_sem,I,bp0]
 repeat' first|apply bn1<;>(simp only[go_sem,I,bp0])|fail
 exact L _ _ _ _ _ (.inr rfl) (fZ (m:=1) rfl aA.bH rfl) (h _ _ boW f (nx+8) boX boY boZ c0 c1 c2 c3 c4 c5 (by omega) (by omega) (by omega) (by omega) (by omega) (by omega) (by omega)
  (A.of (by rw[aA.aC (by omega),r _ (by omega)])) (B.of (by rw[aA.aC (by omega),r _ (by omega)])) (C.of (by rw[aA.aC (by omega),r _ (by omega)])) (bqD.of (by rw[aA.aC (by omega),r _ (by omega)])) (bqE.of (by rw[aA.aC (by omega),e _ (by omega)])) (bqF.of (by rw[aA.aC (by omega)])) fun id b=>by rw[aA.aC (by omega),r _ (by omega)];exact T id b)
theorem bd3 (l:List Int) (a:Int) (hl:0≤a∧a≤2^21) (f:l.length<2^63):aB Tryz.prog g7 [dS (l.map aJ),boP a] .nil 0 fun c _ _=>c.plain=true∧c=boP (szN a l.length):=by
 refine bdY rfl fun Q e=> ?_;unfold a39;repeat' first| (with_reducible first| (apply d _ _ _;clear d K)| (apply b;clear b hB A B)| (apply hB;clear b hB A B)|apply btD|apply btE|refine bF2 (fun h=> ?_) fun h=> ?_)| (with_reducible first|refine btI fun K d=> ?_|refine btJ fun A B b hB=> ?_)<;>(simp only[go_sem];try simp (disch:=omega) only[Iw])| ((with_reducible apply btK);try simp only[AQ.then,AQ.blk,reduceIte,Nat.reduceEqDiff])|fail
 all_goals exact aZ e _ rfl rfl (qA (by unfold szN;split<;>omega))
variable{a:Int}
theorem aZP{l:List Int} (hl:0≤a∧a≤2^21) (b:l.length<2^63) (h:K (boP (szN a l.length)) H nx):aB Tryz.prog g7 [dS (l.map aJ),boP a] H nx K:=(bd3 l a hl b).pure rfl (aI ⟨aE rfl,aE rfl,trivial⟩) (fun r hr=>hr▸h)
theorem a64 (l:List Rng) (a:Int) (hl:0≤a∧a≤2^21) (f:l.length<2^63):aB Tryz.prog aZ5 [dS (l.map eN),boP a] .nil 0 fun c _ _=>c.plain=true∧c=boP (szN a l.length):=by
 refine a53 rfl fun Q e=> ?_;unfold a0Y;repeat' first| (with_reducible first| (apply d _ _ _;clear d K)| (apply b;clear b hB A B)| (apply hB;clear b hB A B)|apply btD|apply btE|refine bF2 (fun h=> ?_) fun h=> ?_)| (with_reducible first|refine btI fun K d=> ?_|refine btJ fun A B b hB=> ?_)<;>(simp only[go_sem];try simp (disch:=omega) only[Iw])| ((with_reducible apply btK);try simp only[AQ.then,AQ.blk,reduceIte,Nat.reduceEqDiff])|fail
 all_goals exact aZ e _ rfl rfl (qA (by unfold szN;split<;>omega))
theorem a6T{l:List Rng} (hl:0≤a∧a≤2^21) (b:l.length<2^63) (h:K (boP (szN a l.length)) H nx):aB Tryz.prog aZ5 [dS (l.map eN),boP a] H nx K:=(a64 l a hl b).pure rfl (aI ⟨aE rfl,aE rfl,trivial⟩) (fun r hr=>hr▸h)
theorem bHV (l:List Ev) (a:Int) (hl:0≤a∧a≤2^21) (f:l.length<2^63):aB Tryz.prog bG3 [dS (l.map eEv),boP a] .nil 0 fun c _ _=>c.plain=true∧c=boP (szN a l.length):=by
 refine bHP rfl fun Q e=> ?_;unfold bG1;repeat' first| (with_reducible first| (apply d _ _ _;clear d K)| (apply b;clear b hB A B)| (apply hB;clear b hB A B)|apply btD|apply btE|refine bF2 (fun h=> ?_) fun h=> ?_)| (with_reducible first|refine btI fun K d=> ?_|refine btJ fun A B b hB=> ?_)<;>(simp only[go_sem];try simp (disch:=omega) only[Iw])| ((with_reducible apply btK);try simp only[AQ.then,AQ.blk,reduceIte,Nat.reduceEqDiff])|fail
 all_goals exact aZ e _ rfl rfl (qA (by unfold szN;split<;>omega))
theorem bHH{l:List Ev} (hl:0≤a∧a≤2^21) (b:l.length<2^63) (h:K (boP (szN a l.length)) H nx):aB Tryz.prog bG3 [dS (l.map eEv),boP a] H nx K:=(bHV l a hl b).pure rfl (aI ⟨aE rfl,aE rfl,trivial⟩) (fun r hr=>hr▸h)
theorem bcQ (w:List Int) (a:Int) (hl:0≤a∧a≤2^21) (e:w.length<2^63):aB Tryz.prog a09 [boR [.isl (w.map aJ)],boP a] .nil 0 fun c _ _=>c.plain=true∧c=boP (szN a w.length):=by
 refine baS rfl fun Q f=> ?_;unfold a2Y;have g:=aZM a w.length;repeat' first| (with_reducible first| (apply d _ _ _;clear d K)| (apply b;clear b hB A B)| (apply hB;clear b hB A B)|apply btD|apply btE|refine bF2 (fun h=> ?_) fun h=> ?_)| (first| (with_reducible first|refine btI fun K d=> ?_|refine btJ fun A B b hB=> ?_)| (with_reducible apply aZP hl e))<;>(simp only[go_sem])| ((with_reducible apply btK);try simp only[AQ.then,AQ.blk,reduceIte,Nat.reduceEqDiff])|fail
 all_goals exact aZ f _ rfl rfl (qA (by omega))
theorem bcM (hl:0≤a∧a≤2^21) (b:w.length<2^63) (h:K (boP (szN a w.length)) H nx):aB Tryz.prog a09 [boR [.isl (w.map aJ)],boP a] H nx K:=(bcQ w a hl b).pure rfl (aI ⟨aE rfl,aE rfl,trivial⟩) (fun r hr=>hr▸h)
theorem a8F (w u:List Int) (a:Int) (hl:0≤a∧a≤2^21) (e:w.length<2^63) (f:u.length<2^63):aB Tryz.prog a0M [boR [.isl (w.map aJ),.isl (u.map aJ)],boP a] .nil 0 fun c _ _=>c.plain=true∧c=boP (a3S a w u):=by
 refine a6W rfl fun Q g=> ?_;unfold a1Q;have i:=aZM a w.length;have j:=aZM (szN a w.length) u.length;repeat' first| (with_reducible first| (apply d _ _ _;clear d K)| (apply b;clear b hB A B)| (apply hB;clear b hB A B)|apply btD|apply btE|refine bF2 (fun h=> ?_) fun h=> ?_)| (first| (with_reducible first|refine btI fun K d=> ?_|refine btJ fun A B b hB=> ?_)| (with_reducible apply bcM (w:=w) hl e)| (with_reducible apply aZP (l:=u) (by omega) f))<;>(simp only[go_sem])| ((with_reducible apply btK);try simp only[AQ.then,AQ.blk,reduceIte,Nat.reduceEqDiff])|fail
 all_goals exact aZ g _ rfl rfl (qA (by unfold a3S;simp only[szT];repeat' first|omega|split))
theorem a8R{u:List Int} (hl:0≤a∧a≤2^21) (b:w.length<2^63) (c:u.length<2^63) (h:K (boP (a3S a w u)) H nx):aB Tryz.prog a0M [boR [.isl (w.map aJ),.isl (u.map aJ)],boP a] H nx K:=(a8F w u a hl b c).pure rfl (aI ⟨aE rfl,aE rfl,trivial⟩) (fun r hr=>hr▸h)
theorem bcI (x:Req) (a:Int) (hl:0≤a∧a≤2^21) (e:w3 (2^63) x):aB Tryz.prog a06 [boR (eB x),boP a] .nil 0 fun c _ _=>c.plain=true∧c=boP (aZU a x):=by
 refine baR rfl fun Q f=> ?_;unfold a26;obtain⟨boW,g⟩:=e;have i:=aZM a x.data.length;have j:=aZM (szN a x.data.length) x.g6.length;repeat' first| (with_reducible first| (apply d _ _ _;clear d K)| (apply b;clear b hB A B)| (apply hB;clear b hB A B)|apply btD|apply btE|refine bF2 (fun h=> ?_) fun h=> ?_)| (first| (with_reducible first|refine btI fun K d=> ?_|refine btJ fun A B b hB=> ?_)| (apply aZP (l:=x.data) (a:=a) (by omega) boW)| (apply aZP (l:=x.g6) (a:=szN a x.data.length) (by omega) g))<;>(simp only[go_sem])| ((with_reducible apply btK);try simp only[AQ.then,AQ.blk,reduceIte,Nat.reduceEqDiff])|fail
 all_goals exact aZ f _ rfl rfl (qA (by unfold aZU;(try simp only[szT]);repeat' first|omega|split))
theorem bc6{x:Req} (hl:0≤a∧a≤2^21) (b:w3 (2^63) x) (h:K (boP (aZU a x)) H nx):aB Tryz.prog a06 [boR (eB x),boP a] H nx K:=(bcI x a hl b).pure rfl (aI ⟨aE rfl,aE rfl,trivial⟩) (fun r hr=>hr▸h)
theorem baK (l:List Req) (a:Int) (hl:0≤a∧a≤2^21) (q:aZT (w3 (2^63)) (2^63) l):aB Tryz.prog a0U [dS (l.map eB),boP a] .nil 0 fun n _ _=>n.plain=true∧n=boP (w4 a l):=by
 refine a8Z rfl fun Q g=> ?_;unfold a2D;obtain⟨r,i⟩:=q;by_cases o:a-l.length<0
 case pos=>
  have s:szS aZU a l= -1:=by unfold szS szT szN;rw[if_pos o];rfl
  repeat' first| (with_reducible first| (apply b _ _ _;clear b K)| (apply c;clear c hB A B)|apply btD|apply btG (by omega))| (with_reducible first|refine btI fun K b=> ?_|refine btJ fun A B c hB=> ?_)<;>(simp only[go_sem];try simp (disch:=omega) only[Iw])| ((with_reducible apply btK);try simp only[AQ.then,AQ.blk,reduceIte,Nat.reduceEqDiff])|fail
  all_goals first|exact aZ g _ rfl rfl (congrArg boP s.symm)| (exfalso;omega)
 have boU:szS aZU a l=szF aZU (a-l.length) l:=by unfold szS szT szN;rw[if_neg o,if_neg (by omega)]
 repeat' first| (with_reducible first| (apply b _ _ _;clear b K)| (apply hB;clear c hB A B)|apply btD|apply btE|refine btF fun btO e=> ?_|apply btH (by omega))| (with_reducible first|refine btI fun K b=> ?_|refine btJ fun A B c hB=> ?_)<;>(simp only[go_sem];try simp (disch:=omega) only[Iw])|fail
 all_goals try (exfalso;omega)
 (have j:=e;clear e);refine aM.loop (α:={u:Nat×Int//u.1≤l.length∧(0≤u.2∧u.2≤a)∧szF aZU u.2 (l.drop u.1)=szS aZU a l}) (fun u=>en [(5,boP u.1.1),(1,boP u.1.2),(0,dS (l.map eB))]) (fun _=>.nil) _ (fun u=>l.length-u.1.1) ⟨(0,a-l.length),by dsimp only;omega,by dsimp only;omega,by rw[boU];rfl⟩ (bU (m5 _) (by repeat' first|exact bo2|refine xqI rfl rfl ?_|fail)) ?_;rintro⟨⟨k,d⟩,t,p,he⟩ bpQ m;dsimp only at t p he;by_cases f:k<l.length
 ·have hm:=i _ (cC f);rw[a5L f] at he;generalize v:l.getD k default=x at hm he;have hr:=a6Y d x p.1;repeat' first| (with_reducible first| (apply b _ _ _;clear b K)| (apply c;clear c hB A B)| (apply hB;clear c hB A B)|apply btD|apply btE|refine btF fun btO e=> ?_|apply btG (by omega)|refine bF2 (fun h=> ?_) fun h=> ?_)| (first| (with_reducible first|refine btI fun K b=> ?_|refine btJ fun A B c hB=> ?_)| (apply bc6 (show 0≤d∧d≤2^21 by omega) hm))<;>(simp only[go_sem,v];try simp (disch:=omega) only[Iw])| ((with_reducible apply btK);try simp only[AQ.then,AQ.blk,reduceIte,Nat.reduceEqDiff])| ((with_reducible apply btM);simp only[AQ.then,AQ.blk])|refine⟨by omega,?_⟩| (with_reducible apply e _ _ _)|fail
  ·rw[if_pos (by assumption)] at he;exact aZ g _ rfl rfl (congrArg boP he)
  ·rw[if_neg (by assumption)] at he;refine m _ _ _ ⟨(k+1,aZU d x),by dsimp only;omega,by dsimp only;omega,he⟩ (by omega) (by(try dsimp only);omega) (bU (m5 _) (by dsimp only;repeat' first|exact bo2|refine xqI rfl rfl ?_|fail))
 ·rw[a87 f] at he;repeat' first| (with_reducible first| (apply b _ _ _;clear b K)| (apply hB;clear c hB A B)|apply btD|apply btH (by omega)|apply j _ _ _)| (with_reducible first|refine btI fun K b=> ?_|refine btJ fun A B c hB=> ?_)<;>(simp only[go_sem])| ((with_reducible first|apply btK|apply btL);try simp only[AQ.then,AQ.blk,reduceIte,Nat.reduceEqDiff])|fail
  all_goals exact aZ g _ rfl rfl (congrArg boP he)
theorem bbC{l:List Req} (hl:0≤a∧a≤2^21) (b:aZT (w3 (2^63)) (2^63) l) (h:K (boP (w4 a l)) H nx):aB Tryz.prog a0U [dS (l.map eB),boP a] H nx K:=(baK l a hl b).pure rfl (aI ⟨aE rfl,aE rfl,trivial⟩) (fun r hr=>hr▸h)
theorem a9D (l:List (List Req)) (a:Int) (hl:0≤a∧a≤2^21) (q:aZT (aZ7 (2^63)) (2^63) l):aB Tryz.prog a0C [dS (l.map jR),boP a] .nil 0 fun n _ _=>n.plain=true∧n=boP (szS w4 a l):=by
 refine a73 rfl fun Q g=> ?_;unfold a1X;obtain⟨r,i⟩:=q;by_cases o:a-l.length<0
 case pos=>
  have s:szS w4 a l= -1:=by unfold szS szT szN;rw[if_pos o];rfl
  repeat' first| (with_reducible first| (apply b _ _ _;clear b K)| (apply c;clear c hB A B)|apply btD|apply btG (by omega))| (with_reducible first|refine btI fun K b=> ?_|refine btJ fun A B c hB=> ?_)<;>(simp only[go_sem];try simp (disch:=omega) only[Iw])| ((with_reducible apply btK);try simp only[AQ.then,AQ.blk,reduceIte,Nat.reduceEqDiff])|fail
  all_goals first|exact aZ g _ rfl rfl (congrArg boP s.symm)| (exfalso;omega)
 have boU:szS w4 a l=szF w4 (a-l.length) l:=by unfold szS szT szN;rw[if_neg o,if_neg (by omega)]
 repeat' first| (with_reducible first| (apply b _ _ _;clear b K)| (apply hB;clear c hB A B)|apply btD|apply btE|refine btF fun btO e=> ?_|apply btH (by omega))| (with_reducible first|refine btI fun K b=> ?_|refine btJ fun A B c hB=> ?_)<;>(simp only[go_sem];try simp (disch:=omega) only[Iw])|fail
 all_goals try (exfalso;omega)
 (have j:=e;clear e);refine aM.loop (α:={u:Nat×Int//u.1≤l.length∧(0≤u.2∧u.2≤a)∧szF w4 u.2 (l.drop u.1)=szS w4 a l}) (fun u=>en [(5,boP u.1.1),(1,boP u.1.2),(0,dS (l.map jR))]) (fun _=>.nil) _ (fun u=>l.length-u.1.1) ⟨(0,a-l.length),by dsimp only;omega,by dsimp only;omega,by rw[boU];rfl⟩ (bU (m5 _) (by repeat' first|exact bo2|refine xqI rfl rfl ?_|fail)) ?_;rintro⟨⟨k,d⟩,t,p,he⟩ bpQ m;dsimp only at t p he;by_cases f:k<l.length
 ·have hm:=i _ (cC f);rw[a5L f] at he;generalize v:l.getD k default=x at hm he;have hr:=a3N d x p.1;repeat' first| (with_reducible first| (apply b _ _ _;clear b K)| (apply c;clear c hB A B)| (apply hB;clear c hB A B)|apply btD|apply btE|refine btF fun btO e=> ?_|apply btG (by omega)|refine bF2 (fun h=> ?_) fun h=> ?_)| (first| (with_reducible first|refine btI fun K b=> ?_|refine btJ fun A B c hB=> ?_)| (apply bbC (show 0≤d∧d≤2^21 by omega) hm))<;>(simp only[go_sem,v];try simp (disch:=omega) only[Iw])| ((with_reducible apply btK);try simp only[AQ.then,AQ.blk,reduceIte,Nat.reduceEqDiff])| ((with_reducible apply btM);simp only[AQ.then,AQ.blk])|refine⟨by omega,?_⟩| (with_reducible apply e _ _ _)|fail
  ·rw[if_pos (by assumption)] at he;exact aZ g _ rfl rfl (congrArg boP he)
  ·rw[if_neg (by assumption)] at he;refine m _ _ _ ⟨(k+1,w4 d x),by dsimp only;omega,by dsimp only;omega,he⟩ (by omega) (by(try dsimp only);omega) (bU (m5 _) (by dsimp only;repeat' first|exact bo2|refine xqI rfl rfl ?_|fail))
 ·rw[a87 f] at he;repeat' first| (with_reducible first| (apply b _ _ _;clear b K)| (apply hB;clear c hB A B)|apply btD|apply btH (by omega)|apply j _ _ _)| (with_reducible first|refine btI fun K b=> ?_|refine btJ fun A B c hB=> ?_)<;>(simp only[go_sem])| ((with_reducible first|apply btK|apply btL);try simp only[AQ.then,AQ.blk,reduceIte,Nat.reduceEqDiff])|fail
  all_goals exact aZ g _ rfl rfl (congrArg boP he)
theorem a9K{l:List (List Req)} (hl:0≤a∧a≤2^21) (b:aZT (aZ7 (2^63)) (2^63) l) (h:K (boP (szS w4 a l)) H nx):aB Tryz.prog a0C [dS (l.map jR),boP a] H nx K:=(a9D l a hl b).pure rfl (aI ⟨aE rfl,aE rfl,trivial⟩) (fun r hr=>hr▸h)
theorem bcT (x:Cfg) (a:Int) (hl:0≤a∧a≤2^21) (e:aZW (2^63) x):aB Tryz.prog a1J [boR (cU x),boP a] .nil 0 fun c _ _=>c.plain=true∧c=boP (aZ9 a x):=by
 refine bb1 rfl fun Q f=> ?_;unfold a2V;obtain⟨boW,g,i⟩:=e;have j:=aZM a x.map.length;have k:=aZM (szN a x.map.length) x.lat.length;have m:=a4Q a3N (szN (szN a x.map.length) x.lat.length) x.cP;repeat' first| (with_reducible first| (apply d _ _ _;clear d K)| (apply b;clear b hB A B)| (apply hB;clear b hB A B)|apply btD|apply btE|refine bF2 (fun h=> ?_) fun h=> ?_)| (first| (with_reducible first|refine btI fun K d=> ?_|refine btJ fun A B b hB=> ?_)| (apply a6T (l:=x.map) (a:=a) (by omega) boW)| (apply aZP (l:=x.lat) (a:=szN a x.map.length) (by omega) g)| (apply a9K (l:=x.cP) (a:=szN (szN a x.map.length) x.lat.length) (by omega) i))<;>(simp only[go_sem])| ((with_reducible apply btK);try simp only[AQ.then,AQ.blk,reduceIte,Nat.reduceEqDiff])|fail
 all_goals exact aZ f _ rfl rfl (qA (by unfold aZ9;(try simp only[szT]);repeat' first|omega|split))
theorem a3E{x:Cfg} (hl:0≤a∧a≤2^21) (b:aZW (2^63) x) (h:K (boP (aZ9 a x)) H nx):aB Tryz.prog a1J [boR (cU x),boP a] H nx K:=(bcT x a hl b).pure rfl (aI ⟨aE rfl,aE rfl,trivial⟩) (fun r hr=>hr▸h)
theorem bc9 (x:Rsp) (a:Int) (hl:0≤a∧a≤2^21) (e:aZV (2^63) x):aB Tryz.prog a1F [boR (tG x),boP a] .nil 0 fun c _ _=>c.plain=true∧c=boP (a3W a x):=by
 refine baH rfl fun Q f=> ?_;unfold a2U;have boW:x.data.length<(2^63):=e;have g:=aZM a x.data.length;repeat' first| (with_reducible first| (apply d _ _ _;clear d K)| (apply b;clear b hB A B)| (apply hB;clear b hB A B)|apply btD|apply btE|refine bF2 (fun h=> ?_) fun h=> ?_)| (first| (with_reducible first|refine btI fun K d=> ?_|refine btJ fun A B b hB=> ?_)| (apply aZP (l:=x.data) (a:=a) (by omega) boW))<;>(simp only[go_sem])| ((with_reducible apply btK);try simp only[AQ.then,AQ.blk,reduceIte,Nat.reduceEqDiff])|fail
 all_goals exact aZ f _ rfl rfl (qA (by unfold a3W;(try simp only[szT]);repeat' first|omega|split))
theorem bdC{x:Rsp} (hl:0≤a∧a≤2^21) (b:aZV (2^63) x) (h:K (boP (a3W a x)) H nx):aB Tryz.prog a1F [boR (tG x),boP a] H nx K:=(bc9 x a hl b).pure rfl (aI ⟨aE rfl,aE rfl,trivial⟩) (fun r hr=>hr▸h)
theorem bcN (x:Job) (a:Int) (hl:0≤a∧a≤2^21) (e:e9 (2^63) x):aB Tryz.prog a1A [boR (aS x),boP a] .nil 0 fun c _ _=>c.plain=true∧c=boP (KJ a x):=by
 refine baJ rfl fun Q f=> ?_;unfold a2S;have boW:aZV (2^63) x.rsp:=e;have g:0≤a→_:=bdM a x.rsp;repeat' first| (with_reducible first| (apply d _ _ _;clear d K)| (apply b;clear b hB A B)| (apply hB;clear b hB A B)|apply btD|apply btE|refine bF2 (fun h=> ?_) fun h=> ?_)| (first| (with_reducible first|refine btI fun K d=> ?_|refine btJ fun A B b hB=> ?_)| (apply bdC (x:=x.rsp) (a:=a) (by omega) boW))<;>(simp only[go_sem])| ((with_reducible apply btK);try simp only[AQ.then,AQ.blk,reduceIte,Nat.reduceEqDiff])|fail
 all_goals exact aZ f _ rfl rfl (qA (by unfold KJ;(try simp only[szT]);repeat' first|omega|split))
theorem bcG{x:Job} (hl:0≤a∧a≤2^21) (b:e9 (2^63) x) (h:K (boP (KJ a x)) H nx):aB Tryz.prog a1A [boR (aS x),boP a] H nx K:=(bcN x a hl b).pure rfl (aI ⟨aE rfl,aE rfl,trivial⟩) (fun r hr=>hr▸h)
theorem bbQ (l:List Job) (a:Int) (hl:0≤a∧a≤2^21) (q:aZT (e9 (2^63)) (2^63) l):aB Tryz.prog aZS [dS (l.map aS),boP a] .nil 0 fun n _ _=>n.plain=true∧n=boP (szS KJ a l):=by
 refine a83 rfl fun Q g=> ?_;unfold a2K;obtain⟨r,i⟩:=q;by_cases o:a-l.length<0
 case pos=>
  have s:szS KJ a l= -1:=by unfold szS szT szN;rw[if_pos o];rfl
  repeat' first| (with_reducible first| (apply b _ _ _;clear b K)| (apply c;clear c hB A B)|apply btD|apply btG (by omega))| (with_reducible first|refine btI fun K b=> ?_|refine btJ fun A B c hB=> ?_)<;>(simp only[go_sem];try simp (disch:=omega) only[Iw])| ((with_reducible apply btK);try simp only[AQ.then,AQ.blk,reduceIte,Nat.reduceEqDiff])|fail
  all_goals first|exact aZ g _ rfl rfl (congrArg boP s.symm)| (exfalso;omega)
 have boU:szS KJ a l=szF KJ (a-l.length) l:=by unfold szS szT szN;rw[if_neg o,if_neg (by omega)]
 repeat' first| (with_reducible first| (apply b _ _ _;clear b K)| (apply hB;clear c hB A B)|apply btD|apply btE|refine btF fun btO e=> ?_|apply btH (by omega))| (with_reducible first|refine btI fun K b=> ?_|refine btJ fun A B c hB=> ?_)<;>(simp only[go_sem];try simp (disch:=omega) only[Iw])|fail
 all_goals try (exfalso;omega)
 (have j:=e;clear e);refine aM.loop (α:={u:Nat×Int//u.1≤l.length∧(0≤u.2∧u.2≤a)∧szF KJ u.2 (l.drop u.1)=szS KJ a l}) (fun u=>en [(5,boP u.1.1),(1,boP u.1.2),(0,dS (l.map aS))]) (fun _=>.nil) _ (fun u=>l.length-u.1.1) ⟨(0,a-l.length),by dsimp only;omega,by dsimp only;omega,by rw[boU];rfl⟩ (bU (m5 _) (by repeat' first|exact bo2|refine xqI rfl rfl ?_|fail)) ?_;rintro⟨⟨k,d⟩,t,p,he⟩ bpQ m;dsimp only at t p he;by_cases f:k<l.length
 ·have hm:=i _ (cC f);rw[a5L f] at he;generalize v:l.getD k default=x at hm he;have hr:=a1P d x p.1;repeat' first| (with_reducible first| (apply b _ _ _;clear b K)| (apply c;clear c hB A B)| (apply hB;clear c hB A B)|apply btD|apply btE|refine btF fun btO e=> ?_|apply btG (by omega)|refine bF2 (fun h=> ?_) fun h=> ?_)| (first| (with_reducible first|refine btI fun K b=> ?_|refine btJ fun A B c hB=> ?_)| (apply bcG (show 0≤d∧d≤2^21 by omega) hm))<;>(simp only[go_sem,v];try simp (disch:=omega) only[Iw])| ((with_reducible apply btK);try simp only[AQ.then,AQ.blk,reduceIte,Nat.reduceEqDiff])| ((with_reducible apply btM);simp only[AQ.then,AQ.blk])|refine⟨by omega,?_⟩| (with_reducible apply e _ _ _)|fail
  ·rw[if_pos (by assumption)] at he;exact aZ g _ rfl rfl (congrArg boP he)
  ·rw[if_neg (by assumption)] at he;refine m _ _ _ ⟨(k+1,KJ d x),by dsimp only;omega,by dsimp only;omega,he⟩ (by omega) (by(try dsimp only);omega) (bU (m5 _) (by dsimp only;repeat' first|exact bo2|refine xqI rfl rfl ?_|fail))
 ·rw[a87 f] at he;repeat' first| (with_reducible first| (apply b _ _ _;clear b K)| (apply hB;clear c hB A B)|apply btD|apply btH (by omega)|apply j _ _ _)| (with_reducible first|refine btI fun K b=> ?_|refine btJ fun A B c hB=> ?_)<;>(simp only[go_sem])| ((with_reducible first|apply btK|apply btL);try simp only[AQ.then,AQ.blk,reduceIte,Nat.reduceEqDiff])|fail
  all_goals exact aZ g _ rfl rfl (congrArg boP he)
theorem a5D{l:List Job} (hl:0≤a∧a≤2^21) (b:aZT (e9 (2^63)) (2^63) l) (h:K (boP (szS KJ a l)) H nx):aB Tryz.prog aZS [dS (l.map aS),boP a] H nx K:=(bbQ l a hl b).pure rfl (aI ⟨aE rfl,aE rfl,trivial⟩) (fun r hr=>hr▸h)
theorem bDJ (x:TSt) (a:Int) (hl:0≤a∧a≤2^21) (e:bcA (2^63) x):aB Tryz.prog bzR [boR (eSt x),boP a] .nil 0 fun c _ _=>c.plain=true∧c=boP (bz9 a x):=by
 refine bCR rfl fun Q f=> ?_;unfold bzJ;obtain⟨⟨bqH,bqI⟩,g,i,boX,boY⟩:=e;have j:=beG a x.words x.holds;have k:=aZM (a3S a x.words x.holds) x.asked.length;have m:=a4Q a1P (szN (a3S a x.words x.holds) x.asked.length) x.wait;have n:=a4Q a1P (szS KJ (szN (a3S a x.words x.holds) x.asked.length) x.wait) x.done;have o:=a4Q a1P (szS KJ (szS KJ (szN (a3S a x.words x.holds) x.asked.length) x.wait) x.done) x.told;repeat' first| (with_reducible first| (apply d _ _ _;clear d K)| (apply b;clear b hB A B)| (apply hB;clear b hB A B)|apply btD|apply btE|refine bF2 (fun h=> ?_) fun h=> ?_)| (first| (with_reducible first|refine btI fun K d=> ?_|refine btJ fun A B b hB=> ?_)| (apply a8R (w:=x.words) (u:=x.holds) (a:=a) (by omega) bqH bqI)| (apply aZP (l:=x.asked) (a:=a3S a x.words x.holds) (by omega) g)| (apply a5D (l:=x.wait) (a:=szN (a3S a x.words x.holds) x.asked.length) (by omega) i)| (apply a5D (l:=x.done) (a:=szS KJ (szN (a3S a x.words x.holds) x.asked.length) x.wait) (by omega) boX)| (apply a5D (l:=x.told) (a:=szS KJ (szS KJ (szN (a3S a x.words x.holds) x.asked.length) x.wait) x.done) (by omega) boY))<;>(simp only[go_sem])| ((with_reducible apply btK);try simp only[AQ.then,AQ.blk,reduceIte,Nat.reduceEqDiff])|fail
 all_goals exact aZ f _ rfl rfl (qA (by unfold bz9;(try simp only[szT]);repeat' first|omega|split))
theorem bBE{x:TSt} (hl:0≤a∧a≤2^21) (b:bcA (2^63) x) (h:K (boP (bz9 a x)) H nx):aB Tryz.prog bzR [boR (eSt x),boP a] H nx K:=(bDJ x a hl b).pure rfl (aI ⟨aE rfl,aE rfl,trivial⟩) (fun r hr=>hr▸h)
def aUO (H:aA) (boW a b boX boY boZ c0 c1 c2 c3 c4 c5:Nat) (s:TSt):Prop:=Own aJ 1 H boW c0 s.words∧Own aJ 1 H a c1 s.holds∧Own aJ 1 H b c2 s.asked∧Own aS 5 H boX c3 s.wait∧Own aS 5 H boY c4 s.done∧Own aS 5 H boZ c5 s.told
end
end Go.Proofs.YtdkfhdmagdaceaaGreat
namespace Go.AM
section
variable {α : Type} {f : Int → α → Int} {z : α → Nat} {k : Nat}
def SzZ {α:Type} (f:Int→α→Int) (z:α→Nat) (k:Nat):Prop:=∀a x,0≤a→0≤f a x→(z x:Int)≤k+8*(a-f a x)
theorem bCO {x:α} {l:List α}:total z (x::l)=z x+total z l:=rfl
theorem bFP (hr:SzR f) (d:SzZ f z k): ∀(l:List α) (a:Int),0≤a→0≤szF f a l→(total z l:Int)≤k*l.length+8*(a-szF f a l)
 | [],a,c,b=>by have e:total z ([]:List α)=0:=rfl;simp only[szF,e,List.length_nil];omega
 |x::l,a,c,b=>by
  simp only[szF] at b ⊢;split at b;·omega
  ·rename_i g;rw[if_neg g];have i:=hr a x c;have j:=d a x c (by omega);have m:=bFP hr d l (f a x) (by omega) b;have h:(k:Int)*((l.length+1:Nat):Int)=k*l.length+k:=(by push_cast;rw[Int.mul_add,Int.mul_one]);rw[bCO,List.length_cons,h];push_cast;omega
theorem bE2 {a:Int} {n:Nat} (h:0≤szN a n):szN a n=a-n:=by unfold szN at*;split at h<;>rename_i b<;>first|omega|rw[if_neg b]
theorem bD9 {a:Int} {g:Int→Int} (h:0≤szT a g):szT a g=g a:=by unfold szT at*;split at h<;>rename_i b<;>first|omega|rw[if_neg b]
theorem bFX {n:Nat} (b:k≤8):(k:Int)*n≤8*n:=by have h:=t4 n b;have a:((k*n:Nat):Int)≤((8*n:Nat):Int):=Int.ofNat_le.2 h;push_cast at a;exact a
theorem bFN (hr:SzR f) (c:SzZ f z k) (d:k≤8) {l:List α} {a:Int} (g:0≤a) (h:0≤szS f a l):(total z l:Int)≤8*(a-szS f a l):=by obtain⟨b,e⟩:=a29 h;have i:=bE2 b;have j:szS f a l=szF f (szN a l.length) l:=bD9 h;have m:=bFP hr c l _ b e;have o:=bFX (n:=l.length) d;omega
theorem bAA: ∀{l:List α},(∀x,z x=k)→total z l=k*l.length
 | [],_=>rfl
 |x::l,h=>by rw[bCO,h x,bAA h,List.length_cons,Nat.mul_add,Nat.mul_one,Y3]
theorem bE4 (b:k≤8) (c: ∀x,z x=k) {l:List α} {a:Int} (h:0≤szN a l.length):(total z l:Int)≤8*(a-szN a l.length):=by rw[bE2 h,bAA c];have d:=bFX (n:=l.length) b;push_cast;omega
theorem bEU {B:Nat}: ∀{l:List α},(∀x∈l,z x≤B)→total z l≤l.length*B
 | [],_=>bxY _
 |x::l,h=>by have b:=h x (by simp);have c:=bEU (B:=B) (l:=l) fun y a=>h y (by simp[a]);rw[bCO,List.length_cons,o4,Nat.one_mul];omega
end
theorem bEZ:SzZ aZU bzY 5:=fun a x e h=>by have boU:=bD9 h;obtain⟨b,c⟩:=a29 h;have f:=bE4 (k:=1) (z:=byK) (by omega) (fun _=>rfl) b;have g:=bE4 (k:=1) (z:=byK) (by omega) (fun _=>rfl) c;have d:bzY x=5+total byK x.data+total byK x.g6:=rfl;unfold aZU at*;rw[boU,d];push_cast;omega
theorem bEO:SzZ w4 bzB 0:=fun a l b h=>by have:=bFN a6Y bEZ (by omega) b h;unfold w4 bzB;omega
theorem bE1 {a:Int} {x:Cfg} (g:0≤a) (h:0≤aZ9 a x):(bC9 x:Int)≤8*(a-aZ9 a x):=by have boU:=bD9 h;obtain⟨c,h⟩:=a29 h;have d:=bD9 h;obtain⟨b,e⟩:=a29 h;have i:=bE4 (k:=4) (z:=byW) (by omega) (fun _=>rfl) c;have j:=bE4 (k:=1) (z:=byK) (by omega) (fun _=>rfl) b;have l:=bFN a3N bEO (by omega) b e;have f:bC9 x=total byW x.map+total byK x.lat+total bzB x.cP:=rfl;unfold aZ9 at*;rw[boU,d,f];push_cast;omega
theorem bB1 {l:List Job} (h:aZT (e9 (2^21)) (2^21) l):total byJ l≤2^45:=by
 have d:=bEU (z:=byJ) (B:=2^22) (l:=l) fun x a=>by have:=h.2 x a;have b:byJ x=4+total byK x.rsp.data:=rfl;have c:total byK x.rsp.data=1*x.rsp.data.length:=bAA fun _=>rfl;have hl:x.rsp.data.length<2^21:=this;rw[b,c];omega
 have e:=h.1;omega
theorem bDF {s:TSt} (h:bcA (2^21) s):bzP s≤2^48:=by obtain⟨⟨e,f⟩,g,a,b,c⟩:=h;have i:=bB1 a;have j:=bB1 b;have k:=bB1 c;have l:total byK s.words=1*s.words.length:=bAA fun _=>rfl;have m:total byK s.holds=1*s.holds.length:=bAA fun _=>rfl;have n:total byK s.asked=1*s.asked.length:=bAA fun _=>rfl;have d:bzP s=total byK s.words+total byK s.holds+total byK s.asked+total byJ s.wait+total byJ s.done+total byJ s.told:=rfl;rw[d];omega
end Go.AM
