/- Texts laid together by a program: rules, contracts and the walk that leads to the law. -/
import Derived.Test.YtegiblhkjfiooaaGreatPu10
import Derived.Test.YtegiblhkjfiooaaGreatPu8
import Derived.Test.YtegiblhkjfiooaaGreatPu3
import Derived.Test.YtegiblhkjfiooaaGreatPu12
import Derived.Test.YtegiblhkjfiooaaGreatPu14
import Derived.Test.YtegiblhkjfiooaaGreatPu11
set_option linter.unusedVariables false
set_option linter.unusedSimpArgs false
set_option linter.unusedSectionVars false
section
namespace Go.Proofs.YtegiblhkjfiooaaGreat
open Go Go.AM
set_option maxRecDepth 100000
set_option maxHeartbeats 4000000
attribute [go_sem] agE ai7
section
variable {H : aA} {nx : Nat} {K : D → aA → Nat → Prop}
theorem aQC (a b:Job):aB Tryz.prog aKL [dA (aS a),dA (aS b)] .nil 0 fun rr _ _=>rr.plain=true∧rr=dB (uL a b):=by
 refine aPS rfl fun Q hQ=> ?_
 unfold ap2
 repeat' (first| (with_reducible first| (refine hK _ _ _ ?_;clear hK K)|refine Z1 ?_)| (with_reducible first|refine Y2 fun K hK=> ?_|refine Y6 (fun h=> ?_) fun h=> ?_)<;>(simp only[go_sem])| ((with_reducible refine Y8 ?_);try simp only[AQ.then,AQ.blk,reduceIte,Nat.reduceEqDiff])|fail)
 all_goals first|with_reducible refine aZ hQ _ rfl rfl ?_|skip
 all_goals first|exact q9 (by grind)|exact j7 (by grind)|exact pD (by grind)
theorem c9 {a:Job} {b:Job} (h:K (dB (uL a b)) H nx):aB Tryz.prog aKL [dA (aS a),dA (aS b)] H nx K:=
 (aQC a b).pure rfl (aI ⟨aE rfl,aE rfl,trivial⟩) (fun r hr=>hr▸h)
theorem aM4 (l:List Job) (who n:Int) (hl:l.length<2^40):aB Tryz.prog aIN [dS (l.map aS),dI who,dI n] .nil 0 fun rr _ _=>rr.plain=true∧rr=dI (bK (iM who n) l):=by
 refine aM1 rfl fun Q hQ=> ?_
 unfold aJR
 repeat' (first| (with_reducible first| (refine hK _ _ _ ?_;clear hK K)|refine Z1 ?_|refine Z3 fun KB hKB=> ?_)| (with_reducible refine Y2 fun K hK=> ?_)<;>(simp only[go_sem])|fail)
 (have hKX:=hKB;clear hKB);(refine aM.loop (α:={k:Nat//k≤l.length∧(∀i,i<k→iM who n (l.getD i default)=false)}) (fun u=>en [(7,dI u.1),(2,dI n),(1,dI who),(0,dS (l.map aS))]) (fun _=>.nil) _ (fun u=>l.length-u.1) ⟨0,by omega,(by intros;first|trivial|omega)⟩ (bU (Nat.le_refl _) (by repeat' (first| (with_reducible first|exact C1|refine C2 ?_ ?_)| ((with_reducible refine D0 ?_);exact CA rfl)|fail))) ?_);(rintro⟨k,hk,hinv⟩ KL hKL)
 repeat' (first| (with_reducible first| (refine hK _ _ _ ?_;clear hK K)| (refine hA ?_;clear hA hB A B)| (refine hB ?_;clear hA hB A B)|refine Z1 ?_|refine Z2 ?_|refine Z3 fun KB hKB=> ?_|refine Z6 (fun h=> ?_) fun h=> ?_|refine hKX _ _ _ ?_)| (with_reducible first|refine Y2 fun K hK=> ?_|refine Y3 fun A B hA hB=> ?_|refine Y6 (fun h=> ?_) fun h=> ?_)<;>(simp only[go_sem];try simp (disch:=omega) only[Iw])| ((with_reducible first|refine Y8 ?_|refine Y9 ?_);try simp only[AQ.then,AQ.blk,reduceIte,Nat.reduceEqDiff])| ((with_reducible refine Y0 ?_);simp only[AQ.then,AQ.blk])|refine⟨by omega,?_⟩| (with_reducible refine hKB _ _ _ ?_)|fail)
 ·refine aZ hQ _ rfl rfl (qA (Eq.symm (CU (by omega) (decide_eq_true (by omega)) hinv)))
 · (refine hKL _ _ _ ⟨k+1,by omega,iS hinv (decide_eq_false (by omega))⟩ (by omega) (by(try dsimp only);omega) (bU (Nat.le_refl _) (by repeat' (first| (with_reducible first|exact C1|refine C2 ?_ ?_)| ((with_reducible refine D0 ?_);exact CA rfl)|fail))))
 · (refine hKL _ _ _ ⟨k+1,by omega,iS hinv (decide_eq_false (by omega))⟩ (by omega) (by(try dsimp only);omega) (bU (Nat.le_refl _) (by repeat' (first| (with_reducible first|exact C1|refine C2 ?_ ?_)| ((with_reducible refine D0 ?_);exact CA rfl)|fail))))
 ·refine aZ hQ _ rfl rfl (qA (Eq.symm (tI fun i hi=>hinv i (by omega))))
theorem aKK {l:List Job} {who:Int} {n:Int} (hl:l.length<2^40) (h:K (dI (bK (iM who n) l)) H nx):aB Tryz.prog aIN [dS (l.map aS),dI who,dI n] H nx K:=
 (aM4 l who n hl).pure rfl (aI ⟨aE rfl,aE rfl,aE rfl,trivial⟩) (fun r hr=>hr▸h)
theorem aQU (c:Cfg) (l:List Job) (e:Ev) (hl:l.length<2^40) (hp:c.cP.length=3) (ha:oA c e.who e.n) (hj: ∀j∈l,j.who=e.who→j.n<e.n→oA c j.who j.n):aB Tryz.prog b8 [dA (cU c),dS (l.map aS),dI e.who,dI e.n] .nil 0 fun rr _ _=>rr.plain=true∧rr=dB (decide (¬0≤bK (adI c e) l)):=by
 refine aP9 rfl fun Q hQ=> ?_
 unfold aNK
 obtain⟨ha1,ha2,ha3⟩:=ha
 repeat' (first| (with_reducible first| (refine hK _ _ _ ?_;clear hK K)|refine Z1 ?_|refine Z3 fun KB hKB=> ?_)| (with_reducible refine Y2 fun K hK=> ?_)<;>(simp only[go_sem])|fail)
 (have hKX:=hKB;clear hKB);(refine aM.loop (α:={k:Nat//k≤l.length∧(∀i,i<k→adI c e (l.getD i default)=false)}) (fun u=>en [(9,dI u.1),(4,.one (.c (.fQ (cU c)))),(3,dI e.n),(2,dI e.who),(1,dS (l.map aS))]) (fun _=>.nil) _ (fun u=>l.length-u.1) ⟨0,by omega,(by intros;first|trivial|omega)⟩ (bU (Nat.le_refl _) (by repeat' (first| (with_reducible first|exact C1|refine C2 ?_ ?_)| ((with_reducible refine D0 ?_);first|exact CA rfl|exact CI rfl (by simp) rfl rfl rfl)|fail))) ?_);(rintro⟨k,hk,hinv⟩ KL hKL)
 by_cases hlt:k<l.length
 ·by_cases hcond:(l.getD k default).who=e.who∧(l.getD k default).n<e.n
  ·obtain⟨hj1,hj2,hj3⟩:=hj (l.getD k default) (by simp[List.getD,hlt]) hcond.1 hcond.2
   rw[hcond.1] at hj3
   repeat' (first| (with_reducible first| (refine hK _ _ _ ?_;clear hK K)| (refine hA ?_;clear hA hB A B)| (refine hB ?_;clear hA hB A B)|refine Z1 ?_|refine Z2 ?_|refine Z3 fun KB hKB=> ?_|refine Z4 (by omega) ?_|refine Z6 (fun h=> ?_) fun h=> ?_)| (with_reducible first|refine Y2 fun K hK=> ?_|refine Y3 fun A B hA hB=> ?_|refine Y4 (by omega) ?_)<;>(simp only[go_sem];try simp (disch:=omega) only[Iw])| ((with_reducible refine Y8 ?_);try simp only[AQ.then,AQ.blk,reduceIte,Nat.reduceEqDiff])| ((with_reducible refine Y0 ?_);simp only[AQ.then,AQ.blk])|refine⟨by omega,?_⟩| (with_reducible refine hKB _ _ _ ?_)|fail)
   ·refine aZ hQ _ rfl rfl (j7 (fun hm=>hm (cH.2 ⟨l.getD k default,by simp[List.getD,hlt],decide_eq_true (by unfold bT;grind)⟩)))
   · (refine hKL _ _ _ ⟨k+1,by omega,iS hinv (decide_eq_false (by unfold bT;grind))⟩ (by omega) (by(try dsimp only);omega) (bU (Nat.le_refl _) (by repeat' (first| (with_reducible first|exact C1|refine C2 ?_ ?_)| ((with_reducible refine D0 ?_);exact CA rfl)|fail))))
  ·repeat' (first| (with_reducible first| (refine hK _ _ _ ?_;clear hK K)| (refine hA ?_;clear hA hB A B)| (refine hB ?_;clear hA hB A B)|refine Z1 ?_|refine Z2 ?_|refine Z3 fun KB hKB=> ?_|refine Z4 (by omega) ?_)| (with_reducible first|refine Y2 fun K hK=> ?_|refine Y3 fun A B hA hB=> ?_|refine Y5 (by omega) ?_|refine Y6 (fun h=> ?_) fun h=> ?_)<;>(simp only[go_sem];try simp (disch:=omega) only[Iw])| ((with_reducible refine Y0 ?_);simp only[AQ.then,AQ.blk])|refine⟨by omega,?_⟩| (with_reducible refine hKB _ _ _ ?_)|fail)
   · (refine hKL _ _ _ ⟨k+1,by omega,iS hinv (decide_eq_false (by grind))⟩ (by omega) (by(try dsimp only);omega) (bU (Nat.le_refl _) (by repeat' (first| (with_reducible first|exact C1|refine C2 ?_ ?_)| ((with_reducible refine D0 ?_);exact CA rfl)|fail))))
   · (refine hKL _ _ _ ⟨k+1,by omega,iS hinv (decide_eq_false (by grind))⟩ (by omega) (by(try dsimp only);omega) (bU (Nat.le_refl _) (by repeat' (first| (with_reducible first|exact C1|refine C2 ?_ ?_)| ((with_reducible refine D0 ?_);exact CA rfl)|fail))))
 ·repeat' (first| (with_reducible first| (refine hK _ _ _ ?_;clear hK K)| (refine hB ?_;clear hA hB A B)|refine Z1 ?_|refine Z5 (by omega) ?_|refine hKX _ _ _ ?_)| (with_reducible first|refine Y2 fun K hK=> ?_|refine Y3 fun A B hA hB=> ?_)<;>(simp only[go_sem])| ((with_reducible first|refine Y8 ?_|refine Y9 ?_);try simp only[AQ.then,AQ.blk,reduceIte,Nat.reduceEqDiff])|fail)
  ·refine aZ hQ _ rfl rfl (q9 (by rw[tI fun i hi=>hinv i (by omega)];omega))
theorem ap1 {c:Cfg} {l:List Job} {e:Ev} (hl:l.length<2^40) (hp:c.cP.length=3) (ha:oA c e.who e.n) (hj: ∀j∈l,j.who=e.who→j.n<e.n→oA c j.who j.n) (h:K (dB (decide (¬0≤bK (adI c e) l))) H nx):aB Tryz.prog b8 [dA (cU c),dS (l.map aS),dI e.who,dI e.n] H nx K:=
 (aQU c l e hl hp ha hj).pure rfl (aI ⟨aE rfl,aE rfl,aE rfl,aE rfl,trivial⟩) (fun r hr=>hr▸h)
theorem aPM (l:List Job) (j:Job) (hl:l.length<2^20):aB Tryz.prog aJS [dS (l.map aS),dA (aS j)] .nil 0 fun rr _ nn=>nn=0∧rr.imm=true∧rr=dS ((BM l j).map aS):=by
 refine aSO rfl fun Q hQ=> ?_
 unfold aN3
 generalize hf:l.findIdx (uL j)=f
 repeat' (first| (with_reducible first| (refine hK _ _ _ ?_;clear hK K)|refine Z1 ?_|refine Z3 fun KB hKB=> ?_)| (with_reducible refine Y2 fun K hK=> ?_)<;>(simp only[go_sem])|fail)
 (have hKX:=hKB;clear hKB)
 refine aM.ar4 1 (α:={p:Nat×Nat//p.1≤l.length∧(aN7 l j f p.1).length≤p.2}) (fun b u=>en [(7,dI u.1.1),(6,dB (decide (f<u.1.1))),(5,dO 5 b (aN7 l j f u.1.1).length u.1.2),(3,.one (.c (.fQ (aS j)))),(0,dS (l.map aS))])
  (fun b u=>hp [(b,⟨5,u.1.2,(aN7 l j f u.1.1).map aS⟩)]) (fun u=>l.length-u.1.1) ⟨(0,0),by omega,by simp[aN7]⟩ (by(refine cR [2] (by omega) (by repeat' (first| (with_reducible first|exact C1|refine C2 ?_ ?_)| ((with_reducible refine C0 ?_);exact CC)| ((with_reducible refine D0 ?_);first|exact CA rfl|exact CI rfl (by simp) rfl rfl rfl|refine CJ ?_)|fail)) ⟨⟨by simp,by simp[sgL],_,rfl,bP (aG dZ _) rfl rfl⟩,trivial⟩ (by simp[sgL]))) ?_
 rintro⟨⟨k,cap⟩,hk,hc⟩ KL hKL
 dsimp only at hk hc
 have hlen:=aTU (j:=j) (f:=f) hk
 by_cases hlt:k<l.length
 ·have hb:=fun hkf:k≤f=>aT2 (j:=j) hlt (hf▸hkf)
  rw[hf] at hb
  repeat' (first| (with_reducible first| (refine hK _ _ _ ?_;clear hK K)| (refine hA ?_;clear hA hB A B)| (refine hB ?_;clear hA hB A B)|refine Z1 ?_|refine Z2 ?_|refine Z3 fun KB hKB=> ?_|refine Z4 (by omega) ?_|refine fun(cap:Nat) (hcap:_≤cap)=> ?_|refine fun(hcp:_≤cap)=> ?_)| (first| (with_reducible first|refine Y2 fun K hK=> ?_|refine Y3 fun A B hA hB=> ?_|refine Y6 (fun h=> ?_) fun h=> ?_)| (with_reducible refine c9 ?_))<;>(simp only[go_sem];try simp (disch:=omega) only[Iw])| ((with_reducible refine Y0 ?_);simp only[AQ.then,AQ.blk])| ((with_reducible refine Z8 (fun h=> ?_) (fun h=> ?_))<;>try subst h)|refine⟨by omega,?_⟩| (with_reducible refine hKB _ _ _ ?_)|fail)
  ·have H:=aT6 (j:=j) hlt (show k=f from (hb (by omega)).1 (by assumption))
   have aUT:=congrArg List.length H
   simp only[List.length_append,List.length_cons,List.length_nil] at aUT
   have hkf:=(hb (by omega)).1 (by assumption)
   (refine hKL _ _ _ ⟨(k+1,cap),by omega,by dsimp only;omega⟩ (by omega) (by(try dsimp only);omega) (by(refine cR [33] (by omega) (by repeat' (first| (with_reducible first|exact C1|refine C2 ?_ ?_)| ((with_reducible refine C0 ?_);first|exact CQ (by omega) rfl rfl (by first|rfl|omega) rfl| (exact CG (by((try dsimp only);exact dbT (by omega))) rfl))| ((with_reducible refine D0 ?_);first|exact CA rfl|refine CJ ?_)|fail)) ⟨⟨by simp,by simp[sgL],_,rfl,bP (aG dZ _) (congrArg _ H) rfl⟩,trivial⟩ (by simp[sgL]))))
  ·have hne: ¬k=f:=fun he=>by have:=(hb (by omega)).2 he;simp_all
   have H:=aT3 (j:=j) hlt (show k<f by omega)
   have aUT:=congrArg List.length H
   simp only[List.length_append,List.length_cons,List.length_nil] at aUT
   (refine hKL _ _ _ ⟨(k+1,cap),by omega,by dsimp only;omega⟩ (by omega) (by(try dsimp only);omega) (by(refine cR [27] (by omega) (by repeat' (first| (with_reducible first|exact C1|refine C2 ?_ ?_)| ((with_reducible refine C0 ?_);first|exact CQ (by omega) rfl rfl (by first|rfl|omega) rfl| (exact CG (by((try dsimp only);exact dbE (by omega))) rfl))| ((with_reducible refine D0 ?_);first|exact CA rfl|refine CJ ?_)|fail)) ⟨⟨by simp,by simp[sgL],_,rfl,bP (aG dZ _) (congrArg _ H) rfl⟩,trivial⟩ (by simp[sgL]))))
  ·have H:=aT8 (j:=j) hlt (show f<k by omega)
   have aUT:=congrArg List.length H
   simp only[List.length_append,List.length_cons,List.length_nil] at aUT
   (refine hKL _ _ _ ⟨(k+1,cap),by omega,by dsimp only;omega⟩ (by omega) (by(try dsimp only);omega) (by(refine cR [27] (by omega) (by repeat' (first| (with_reducible first|exact C1|refine C2 ?_ ?_)| ((with_reducible refine C0 ?_);first|exact CQ (by omega) rfl rfl (by first|rfl|omega) rfl| (exact CG (by((try dsimp only);exact dbE (by omega))) rfl))| ((with_reducible refine D0 ?_);first|exact CA rfl|refine CJ ?_)|fail)) ⟨⟨by simp,by simp[sgL],_,rfl,bP (aG dZ _) (congrArg _ H) rfl⟩,trivial⟩ (by simp[sgL]))))
 ·have hk2:k=l.length:=by omega
  subst hk2
  subst hf
  repeat' (first| (with_reducible first| (refine hK _ _ _ ?_;clear hK K)| (refine hA ?_;clear hA hB A B)| (refine hB ?_;clear hA hB A B)|refine Z1 ?_|refine Z2 ?_|refine Z5 (by omega) ?_|refine Z6 (fun h=> ?_) fun h=> ?_|refine fun(cap:Nat) (hcap:_≤cap)=> ?_|refine fun(hcp:_≤cap)=> ?_|refine hKX _ _ _ ?_)| (with_reducible first|refine Y2 fun K hK=> ?_|refine Y3 fun A B hA hB=> ?_)<;>(simp only[go_sem])| ((with_reducible first|refine Y8 ?_|refine Y9 ?_);try simp only[AQ.then,AQ.blk,reduceIte,Nat.reduceEqDiff])|refine⟨by omega,?_⟩|fail)
  ·exact V4 hQ (dS _) _ rfl (yP (l:=aN7 l j _ l.length++[j]) dZ rfl (by simp) (by simp;omega) trivial) rfl (by rw[aTO (by omega)])
  ·exact V4 hQ (dS _) _ rfl (yP (l:=aN7 l j _ l.length) dZ rfl (by simp) (by omega) trivial) rfl (by rw[aTW (by omega)])
theorem aS4 {l:List Job} {j:Job} (hl:l.length<2^20) (h:K (dS ((BM l j).map aS)) H nx):aB Tryz.prog aJS [dS (l.map aS),dA (aS j)] H nx K:=
 (aPM l j hl).fresh rfl (fun r hr=>hr▸h)
end
end Go.Proofs.YtegiblhkjfiooaaGreat
end
section
namespace Go.Proofs.YtegiblhkjfiooaaGreat
open Go Go.AM
set_option maxRecDepth 100000
end Go.Proofs.YtegiblhkjfiooaaGreat
end
section
namespace Go.Proofs.YtegiblhkjfiooaaGreat
open Go Go.AM
set_option maxRecDepth 100000
end Go.Proofs.YtegiblhkjfiooaaGreat
end
section
namespace Go.AM
structure fC where
 who:Int
 n:Int
 left:Int
 deriving Inhabited,DecidableEq
structure fR where
 next:Int
 queue:List Int
 out:List fC
 last:Int
 deriving Inhabited,DecidableEq
structure nY where
 pipe:List fC
 done:List Job
 last:Int
 deriving Inhabited,DecidableEq
structure CSt where
 words:List Int
 holds:List Int
 bM:List fR
 dD:List nY
 told:List Job
 deriving Inhabited,DecidableEq
structure CIn where
 ready:List Bool
 n9:List Bool
 send:List Bool
 deriving Inhabited,DecidableEq
def gZ (m:List Rng) (q:Req):Int:=if bV m (bE q.addr q.many q.wrap)<0 then 3 else (m.getD (bV m (bE q.addr q.many q.wrap)).toNat default).K5
def aF (s:CSt) (k:Nat):fR:=s.bM.getD k default
def aL (s:CSt) (k:Nat):nY:=s.dD.getD k default
def jX (l:List Job):List Job:=l.foldl BM []
def jJ (s:CSt) (k:Nat):List Job:=(aF s k).queue.map fun n=>⟨k,n,oW⟩
def hJ (s:CSt) (k:Nat):List Job:=(aL s k).pipe.map fun j=>⟨j.who,j.n,oW⟩
def qU (s:CSt):List Job:=(List.range s.bM.length).flatMap (jJ s)++(List.range s.dD.length).flatMap (hJ s)
def uQ (s:CSt):List Job:=(List.range s.dD.length).flatMap fun k=>(aL s k).done
def cX (s:CSt):TSt:=⟨s.words,s.holds,s.bM.map (·.next),jX (qU s),jX (uQ s),s.told⟩
def B3 {α:Type} (l:List α) (k:Nat):List α:=l.take k++l.drop (k+1)
def isC (n:Int) (j:fC):Bool:=decide (j.n=n)
def PE (l:List fC) (n:Int):List fC:=B3 l (bK (isC n) l).toNat
inductive Mic where
 |tell (who st:Nat)
 |tick (st:Nat)
 |work (st:Nat)
 |adm (who st:Nat)
 |ask (who:Nat)
def HV (c:Cfg) (s:CSt) (who st:Nat):Prop:=0<(aF s who).queue.length∧(aF s who).out.length<4∧gZ c.map (bT c who ((aF s who).queue.getD 0 default))=st∧
 ∀j∈(aF s who).out,(bT c who j.n).id=(bT c who ((aF s who).queue.getD 0 default)).id→j.left=st
instance {c:Cfg} {s:CSt} {who st:Nat}:Decidable (HV c s who st):=by unfold HV;infer_instance
def iF (s:CSt) (st:Nat):Job:=(aL s st).done.getD 0 default
def bI (s:CSt) (st:Nat):fC:=(aL s st).pipe.getD 0 default
def jD (c:Cfg) (s:CSt) (st:Nat):(List Int×List Int)×Rsp:=doM c.map s.words s.holds (bI s st).who (bT c (bI s st).who (bI s st).n)
def aR (c:Cfg) (s:CSt):Mic→CSt
 | .tell who st=>{s with told:=s.told++[iF s st],dD:=s.dD.set st {aL s st with done:=(aL s st).done.drop 1},bM:=s.bM.set who {aF s who with out:=PE (aF s who).out (iF s st).n,last:=st}}
 | .tick st=>{s with dD:=s.dD.set st {aL s st with pipe:=(aL s st).pipe.set 0 {bI s st with left:=(bI s st).left-1}}}
 | .work st=>{s with words:=(jD c s st).1.1,holds:=(jD c s st).1.2,dD:=s.dD.set st {aL s st with pipe:=(aL s st).pipe.drop 1,done:=(aL s st).done++[⟨(bI s st).who,(bI s st).n,(jD c s st).2⟩]}}
 | .adm who st=>{s with bM:=s.bM.set who {aF s who with queue:=(aF s who).queue.drop 1,out:=(aF s who).out++[⟨who,(aF s who).queue.getD 0 default,st⟩]},dD:=s.dD.set st {aL s st with pipe:=(aL s st).pipe++[⟨who,(aF s who).queue.getD 0 default,c.lat.getD st default⟩],last:=who}}
 | .ask who=>{s with bM:=s.bM.set who {aF s who with queue:=(aF s who).queue++[(aF s who).next],next:=(aF s who).next+1}}
def y0 (s:CSt):Mic→List Ev
 | .tell who st=>[⟨3,who,(iF s st).n⟩]
 | .work st=>[⟨2,(bI s st).who,(bI s st).n⟩]
 | .ask who=>[⟨1,who,(aF s who).next⟩]
 |_=>[]
end Go.AM
end
section
namespace Go.AM
theorem pY {α:Type} [Inhabited α] {l:List α} {k i:Nat} {x:α} (hk:k<l.length):(l.set k x).getD i default=if i=k then x else l.getD i default:=by
 simp only[List.getD,List.getElem?_set]
 by_cases h:k=i
 ·subst h;simp[hk]
 ·simp[h,Ne.symm h,eq_comm]
structure mD (c:Cfg) (who:Nat) (p:fR):Prop where
 next:0≤p.next∧p.next≤(c.cP.getD who default).length
 ql:p.queue.length≤2∧(p.queue.length:Int)≤p.next
 ol:p.out.length≤4
 last:0≤p.last∧p.last≤3
 queue: ∀i,i<p.queue.length→p.queue.getD i default=p.next-p.queue.length+i
 out: ∀j∈p.out,j.who=who∧(0≤j.n∧j.n<p.next-p.queue.length)∧j.left=gZ c.map (bT c who j.n)
 acX:p.out.Pairwise fun a b=>a.n<b.n
 akF: ∀a∈p.out,∀b∈p.out,(bT c who a.n).id=(bT c who b.n).id→a.left=b.left
def cS (v:nY):List (Int×Int):=v.done.map key++v.pipe.map fun j=>(j.who,j.n)
structure Z0 (c:Cfg) (s:CSt) (st:Nat):Prop where
 pl:(aL s st).pipe.length≤2
 dl:(aL s st).done.length≤2
 last:0≤(aL s st).last∧(aL s st).last≤2
 inc:(cS (aL s st)).Pairwise fun a b=>a.1=b.1→a.2<b.2
 out: ∀x∈cS (aL s st),(0≤x.1∧x.1≤2)∧ ∃j∈(aF s x.1.toNat).out,j.n=x.2∧j.left=st
 rsp: ∀j∈(aL s st).done,as5 c j
 left: ∀i,i<(aL s st).pipe.length→(0≤((aL s st).pipe.getD i default).left∧((aL s st).pipe.getD i default).left≤c.lat.getD st default)∧(0<i→((aL s st).pipe.getD i default).left=c.lat.getD st default)
def hU (s:CSt) (k:Nat):Nat:=(aL s k).pipe.length+(aL s k).done.length
structure COk (c:Cfg) (s:CSt):Prop where
 atm:WK s.words s.holds
 pl:s.bM.length=3
 sl:s.dD.length=4
 port: ∀k,k<3→mD c k (aF s k)
 slv: ∀k,k<4→Z0 c s k
 count:(aF s 0).out.length+(aF s 1).out.length+(aF s 2).out.length=hU s 0+hU s 1+hU s 2+hU s 3
 st:BA c (cX s)
theorem COk.vIn {c:Cfg} {s:CSt} (h:COk c s) {st:Nat} (hs:st<4) {x:Int×Int} (hx:x∈cS (aL s st)):(0≤x.1∧x.1≤2)∧0≤x.2∧x.2<(aF s x.1.toNat).next-(aF s x.1.toNat).queue.length:=by
 obtain⟨h1,j,hj,h2,h3⟩:=(h.slv st hs).out x hx
 have:=(h.port x.1.toNat (by omega)).out j hj
 exact⟨h1,by omega,by omega⟩
theorem COk.same {c:Cfg} {s:CSt} (h:COk c s) {st st':Nat} (hs:st<4) (hs':st'<4) {x y:Int×Int} (hx:x∈cS (aL s st)) (hy:y∈cS (aL s st')) (he:x.1=y.1) (hi:(bT c x.1 x.2).id=(bT c y.1 y.2).id):st=st':=by
 obtain⟨h1,j,hj,h2,h3⟩:=(h.slv st hs).out x hx
 obtain⟨h4,j',hj',h5,h6⟩:=(h.slv st' hs').out y hy
 have hp:=h.port x.1.toNat (by omega)
 rw[←he] at hj'
 have:=hp.akF j hj j' hj' (by
  have e1:((x.1.toNat:Nat):Int)=x.1:=by omega
  rw[e1,h2,h5,hi,he])
 omega
end Go.AM
end
section
namespace Go.AM
end Go.AM
end
section
namespace Go.AM
theorem akU {α:Type} {l:List α} {k:Nat}:(B3 l k).Sublist l:=by
 unfold B3
 have h:=(List.Sublist.refl (l.take k)).append (List.drop_sublist_drop_left l (Nat.le_succ k))
 rwa [List.take_append_drop] at h
theorem TA {l:List fC} {n:Int}:(PE l n).Sublist l:=akU
theorem QF {α:Type} [Inhabited α] {l:List α} {i:Nat}:(l.drop 1).getD i default=l.getD (i+1) default:=by
 cases l with
 |nil=>simp
 |cons x l=>simp
theorem WI {α:Type} [Inhabited α] {l:List α} {x:α} {i:Nat}:(l++[x]).getD i default=if i=l.length then x else l.getD i default:=by
 simp only[List.getD,List.getElem?_append]
 split
 ·rw[if_neg (by omega)]
 ·split
  ·rename_i h;subst h;simp
  ·rename_i h1 h2
   rw[List.getElem?_eq_none (by simp;omega),List.getElem?_eq_none (by omega)]
theorem Z0.wT {c:Cfg} {s s':CSt} {st:Nat} (h:Z0 c s st) (he:aL s' st=aL s st) (ho: ∀x∈cS (aL s st),∀j∈(aF s x.1.toNat).out,j.n=x.2→j.left=st→j∈(aF s' x.1.toNat).out):Z0 c s' st:=by
 refine⟨by rw[he];exact h.pl,by rw[he];exact h.dl,by rw[he];exact h.last,by rw[he];exact h.inc,fun x hx=> ?_,by rw[he];exact h.rsp,by rw[he];exact h.left⟩
 rw[he] at hx
 obtain⟨q1,j,q2,q3,q4⟩:=h.out x hx
 exact⟨q1,j,ho x hx j q2 q3 q4,q3,q4⟩
theorem mD.tell {c:Cfg} {who:Nat} {p:fR} (h:mD c who p) {n:Int} {st:Nat} (hs:st<4):mD c who {p with out:=PE p.out n,last:=st}:=by
 have hm: ∀j∈PE p.out n,j∈p.out:=fun j hj=>TA.subset hj
 exact⟨h.next,h.ql,Nat.le_trans TA.length_le h.ol,by dsimp only;omega,h.queue,fun j hj=>h.out j (hm j hj),h.acX.sublist TA,fun a ha b hb=>h.akF a (hm a ha) b (hm b hb)⟩
theorem mD.adm {c:Cfg} {who:Nat} {p:fR} (h:mD c who p) {st:Nat} (h1:0<p.queue.length) (h2:p.out.length<4) (h3:gZ c.map (bT c who (p.queue.getD 0 default))=st)
 (h4: ∀j∈p.out,(bT c who j.n).id=(bT c who (p.queue.getD 0 default)).id→j.left=st):mD c who {p with queue:=p.queue.drop 1,out:=p.out++[⟨who,p.queue.getD 0 default,st⟩]}:=by
 have hq0:=h.queue 0 h1
 have hn:=h.next
 have hql:=h.ql
 have hl:(p.queue.drop 1).length=p.queue.length-1:=by simp
 refine⟨hn,by dsimp only;omega,by simp;omega,h.last,fun i hi=> ?_,fun j hj=> ?_,?_,fun a ha b hb hab=> ?_⟩
 ·dsimp only at hi ⊢
  rw[QF,h.queue (i+1) (by omega)];omega
 ·dsimp only at hj ⊢
  rcases List.mem_append.1 hj with hj|hj
  ·have:=h.out j hj
   exact⟨this.1,by omega,this.2.2⟩
  ·simp only[List.mem_singleton] at hj
   subst hj
   exact⟨rfl,by dsimp only;omega,h3.symm⟩
 ·dsimp only
  rw[List.pairwise_append]
  refine⟨h.acX,by simp,fun a ha b hb=> ?_⟩
  simp only[List.mem_singleton] at hb
  subst hb
  have:=(h.out a ha).2.1
  dsimp only;omega
 ·dsimp only at ha hb
  rcases List.mem_append.1 ha with ha|ha<;>rcases List.mem_append.1 hb with hb|hb
  ·exact h.akF a ha b hb hab
  ·simp only[List.mem_singleton] at hb;subst hb;exact h4 a ha hab
  ·simp only[List.mem_singleton] at ha;subst ha;exact(h4 b hb hab.symm).symm
  ·simp only[List.mem_singleton] at ha hb;subst ha;subst hb;rfl
theorem mD.ask {c:Cfg} {who:Nat} {p:fR} (h:mD c who p) (h1:p.queue.length<2) (h2:p.next<(c.cP.getD who default).length):mD c who {p with queue:=p.queue++[p.next],next:=p.next+1}:=by
 have hn:=h.next
 have hql:=h.ql
 refine⟨by dsimp only;omega,by simp;omega,h.ol,h.last,fun i hi=> ?_,fun j hj=> ?_,h.acX,h.akF⟩
 ·simp only[List.length_append,List.length_singleton] at hi ⊢
  rw[WI]
  split
  ·omega
  ·rw[h.queue i (by omega)];omega
 ·have:=h.out j hj
  refine⟨this.1,?_,this.2.2⟩
  simp only[List.length_append,List.length_singleton];omega
end Go.AM
end
section
namespace Go.AM
def dR (c:Cfg) (s:CSt) (l:List Mic):CSt:=l.foldl (aR c) s
def iP (c:Cfg):CSt→List Mic→List Ev
 |_,[]=>[]
 |s,m::l=>y0 s m++iP c (aR c s m) l
def sM (s:CSt) (st k:Nat):Nat:=(((aL s st).last+(k:Int))%3).toNat
def KE (c:Cfg) (s:CSt) (used:List Bool) (st who:Nat):Bool:= !(used.getD who default)&&decide (HV c s who st)
def AO (c:Cfg) (s:CSt) (used:List Bool) (st:Nat):Option Nat:=if (aL s st).pipe.length<2 then ([1,2,3].map (sM s st)).find? (KE c s used st) else none
def vE (c:Cfg) (f:CSt→Nat→Option Mic):CSt→List Nat→List Mic
 |_,[]=>[]
 |s,k::l=>match f s k with
  |none=>vE c f s l
  |some m=>m::vE c f (aR c s m) l
def oP (c:Cfg):CSt→List Bool→List Nat→List Mic
 |_,_,[]=>[]
 |s,u,st::l=>match AO c s u st with
  |none=>oP c s u l
  |some who=>.adm who st::oP c (aR c s (.adm who st)) (u.set who true) l
end Go.AM
end
section
namespace Go.AM
end Go.AM
end
section
namespace Go.AM
end Go.AM
end
section
namespace Go.AM
end Go.AM
end
section
namespace Go.AM
def eCJ (j:fC):List D1:=[cI j.who,cI j.n,cI j.left]
theorem anW {j:fC}:(eCJ j).length=3:=rfl
theorem aiX {j:fC}:(eCJ j).take 1=[cI j.who]:=rfl
theorem aiI {j:fC}:(eCJ j).drop 1=[cI j.n,cI j.left]:=rfl
theorem ah9 {j:fC}:(eCJ j).take 2=[cI j.who,cI j.n]:=rfl
theorem ajA {j:fC}:(eCJ j).drop 2=[cI j.left]:=rfl
theorem agT {j:fC}:(eCJ j).take 3=eCJ j:=rfl
theorem agG {j:fC}:(eCJ j).drop 3=[]:=rfl
theorem alE {j:fC} {cs:List D1} {k:Nat}:iA cs (k+1) (eCJ j)=iA cs (k+1) [cI j.who,cI j.n,cI j.left]:=rfl
attribute [go_sem] anW aiX aiI ah9 ajA agT agG alE
def cD (p:fR):List D1:=[cI p.next,.isl (p.queue.map aJ),.isl (p.out.map eCJ),cI p.last]
theorem ag6 {p:fR}:(cD p).length=4:=rfl
theorem ZZ {p:fR}:(cD p).take 1=[cI p.next]:=rfl
theorem abE {p:fR}:(cD p).drop 1=[.isl (p.queue.map aJ),.isl (p.out.map eCJ),cI p.last]:=rfl
theorem YU {p:fR}:(cD p).take 2=[cI p.next,.isl (p.queue.map aJ)]:=rfl
theorem ZM {p:fR}:(cD p).drop 2=[.isl (p.out.map eCJ),cI p.last]:=rfl
theorem aa2 {p:fR}:(cD p).take 3=[cI p.next,.isl (p.queue.map aJ),.isl (p.out.map eCJ)]:=rfl
theorem aa8 {p:fR}:(cD p).drop 3=[cI p.last]:=rfl
theorem abO {p:fR}:(cD p).take 4=cD p:=rfl
theorem aaG {p:fR}:(cD p).drop 4=[]:=rfl
theorem aeM {p:fR} {cs:List D1} {k:Nat}:iA cs (k+1) (cD p)=iA cs (k+1) [cI p.next,.isl (p.queue.map aJ),.isl (p.out.map eCJ),cI p.last]:=rfl
attribute [go_sem] ag6 ZZ abE YU ZM aa2 aa8 abO aaG aeM
def gF (v:nY):List D1:=[.isl (v.pipe.map eCJ),.isl (v.done.map aS),cI v.last]
theorem amX {v:nY}:(gF v).length=3:=rfl
theorem ad9 {v:nY}:(gF v).take 1=[.isl (v.pipe.map eCJ)]:=rfl
theorem aeY {v:nY}:(gF v).drop 1=[.isl (v.done.map aS),cI v.last]:=rfl
theorem ab2 {v:nY}:(gF v).take 2=[.isl (v.pipe.map eCJ),.isl (v.done.map aS)]:=rfl
theorem ac3 {v:nY}:(gF v).drop 2=[cI v.last]:=rfl
theorem ad6 {v:nY}:(gF v).take 3=gF v:=rfl
theorem adW {v:nY}:(gF v).drop 3=[]:=rfl
theorem ahZ {v:nY} {cs:List D1} {k:Nat}:iA cs (k+1) (gF v)=iA cs (k+1) [.isl (v.pipe.map eCJ),.isl (v.done.map aS),cI v.last]:=rfl
attribute [go_sem] amX ad9 aeY ab2 ac3 ad6 adW ahZ
def eI (s:CSt):List D1:=[.isl (s.words.map aJ),.isl (s.holds.map aJ),.isl (s.bM.map cD),.isl (s.dD.map gF),.isl (s.told.map aS)]
theorem ajM {s:CSt}:(eI s).length=5:=rfl
theorem adQ {s:CSt}:(eI s).take 1=[.isl (s.words.map aJ)]:=rfl
theorem acL {s:CSt}:(eI s).drop 1=[.isl (s.holds.map aJ),.isl (s.bM.map cD),.isl (s.dD.map gF),.isl (s.told.map aS)]:=rfl
theorem aeK {s:CSt}:(eI s).take 2=[.isl (s.words.map aJ),.isl (s.holds.map aJ)]:=rfl
theorem aeQ {s:CSt}:(eI s).drop 2=[.isl (s.bM.map cD),.isl (s.dD.map gF),.isl (s.told.map aS)]:=rfl
theorem adC {s:CSt}:(eI s).take 3=[.isl (s.words.map aJ),.isl (s.holds.map aJ),.isl (s.bM.map cD)]:=rfl
theorem adP {s:CSt}:(eI s).drop 3=[.isl (s.dD.map gF),.isl (s.told.map aS)]:=rfl
theorem ab6 {s:CSt}:(eI s).take 4=[.isl (s.words.map aJ),.isl (s.holds.map aJ),.isl (s.bM.map cD),.isl (s.dD.map gF)]:=rfl
theorem aeD {s:CSt}:(eI s).drop 4=[.isl (s.told.map aS)]:=rfl
theorem ac5 {s:CSt}:(eI s).take 5=eI s:=rfl
theorem aeA {s:CSt}:(eI s).drop 5=[]:=rfl
theorem aiO {s:CSt} {cs:List D1} {k:Nat}:iA cs (k+1) (eI s)=iA cs (k+1) [.isl (s.words.map aJ),.isl (s.holds.map aJ),.isl (s.bM.map cD),.isl (s.dD.map gF),.isl (s.told.map aS)]:=rfl
attribute [go_sem] ajM adQ acL aeK aeQ adC adP ab6 aeD ac5 aeA aiO
def eH (b:Bool):List D1:=[cB b]
theorem ai9 {b:Bool}:(eH b).length=1:=rfl
theorem abL {b:Bool}:(eH b).take 1=[cB b]:=rfl
theorem aaB {b:Bool}:(eH b).drop 1=[]:=rfl
theorem abX {b:Bool} {cs:List D1} {k:Nat}:iA cs (k+1) (eH b)=iA cs (k+1) [cB b]:=rfl
attribute [go_sem] ai9 abL aaB abX
def eIn (i:CIn):List D1:=[.isl (i.ready.map eH),.isl (i.n9.map eH),.isl (i.send.map eH)]
theorem aoW {i:CIn}:(eIn i).length=3:=rfl
theorem agD {i:CIn}:(eIn i).take 1=[.isl (i.ready.map eH)]:=rfl
theorem ah2 {i:CIn}:(eIn i).drop 1=[.isl (i.n9.map eH),.isl (i.send.map eH)]:=rfl
theorem aiC {i:CIn}:(eIn i).take 2=[.isl (i.ready.map eH),.isl (i.n9.map eH)]:=rfl
theorem agZ {i:CIn}:(eIn i).drop 2=[.isl (i.send.map eH)]:=rfl
theorem ajC {i:CIn}:(eIn i).take 3=eIn i:=rfl
theorem agB {i:CIn}:(eIn i).drop 3=[]:=rfl
theorem al9 {i:CIn} {cs:List D1} {k:Nat}:iA cs (k+1) (eIn i)=iA cs (k+1) [.isl (i.ready.map eH),.isl (i.n9.map eH),.isl (i.send.map eH)]:=rfl
attribute [go_sem] aoW agD ah2 aiC agZ ajC agB al9
structure tZ (H:aA) (n id off len cap:Nat) (R:List (List D1)):Prop where
 ex: ∃m rows,H id=some ⟨n,m,rows⟩∧rows.drop off=R∧off+len≤rows.length∧len=R.length∧len≤cap∧off+cap≤m
def af5 (nq no:Nat) (p:fR) (qo qc oc:Nat):List D1:=[cI p.next,.osl 1 nq qo p.queue.length qc,.osl 3 no 0 p.out.length oc,cI p.last]
def aj9 (np nd:Nat) (v:nY) (po pc do_ dc:Nat):List D1:=[.osl 3 np po v.pipe.length pc,.osl 5 nd do_ v.done.length dc,cI v.last]
structure CX (H:aA) (nq no:Nat) (p:fR) (r:List D1):Prop where
 ex: ∃qo qc oc,r=af5 nq no p qo qc oc∧tZ H 1 nq qo p.queue.length qc (p.queue.map aJ)∧tZ H 3 no 0 p.out.length oc (p.out.map eCJ)
structure LJ (H:aA) (np nd:Nat) (v:nY) (r:List D1):Prop where
 ex: ∃po pc do_ dc,r=aj9 np nd v po pc do_ dc∧tZ H 3 np po v.pipe.length pc (v.pipe.map eCJ)∧tZ H 5 nd do_ v.done.length dc (v.done.map aS)
def U2 (nm:Nat→Nat) (s:CSt) (wc hc pc vc tc:Nat):List D1:=[.osl 1 (nm 0) 0 s.words.length wc,.osl 1 (nm 1) 0 s.holds.length hc,.osl 4 (nm 2) 0 3 pc,.osl 3 (nm 3) 0 4 vc,.osl 5 (nm 4) 0 s.told.length tc]
structure abY (H:aA) (nm:Nat→Nat) (s:CSt) (cells:List D1):Prop where
 ex: ∃wc hc pc vc tc,cells=U2 nm s wc hc pc vc tc∧tZ H 1 (nm 0) 0 s.words.length wc (s.words.map aJ)∧tZ H 1 (nm 1) 0 s.holds.length hc (s.holds.map aJ)∧tZ H 5 (nm 4) 0 s.told.length tc (s.told.map aS)∧
  3≤pc∧4≤vc
 bM: ∃m rows,H (nm 2)=some ⟨4,m,rows⟩∧rows.length=3∧ ∀k,k<3→∃r,rows[k]?=some r∧CX H (nm (5+k)) (nm (8+k)) (aF s k) r
 dD: ∃m rows,H (nm 3)=some ⟨3,m,rows⟩∧rows.length=4∧ ∀k,k<4→∃r,rows[k]?=some r∧LJ H (nm (11+k)) (nm (15+k)) (aL s k) r
structure Names (X:Nat→Prop) (nx:Nat) (nm:Nat→Nat):Prop where
 inj: ∀j k,j<19→k<19→nm j=nm k→j=k
 lt: ∀k,k<19→nm k<nx
 av: ∀k,k<19→¬X (nm k)
structure Rep (X:Nat→Prop) (H:aA) (nx i0:Nat) (nm:Nat→Nat) (s:CSt):Prop where
 st: ∃cells,H i0=some ⟨5,1,[cells]⟩∧abY H nm s cells
 names:Names X nx nm
 ne: ∀k,k<19→nm k≠i0
 i0:i0<nx∧ ¬X i0
 x: ∀id,X id→id<nx
def aqA (Y:Nat→Prop) (H:aA) (nx i1:Nat) (es:List Ev) (d:D1):Prop:=
 (es=[]∧d= .osl 0 0 0 0 0)∨ ∃ev cap,d= .osl 3 ev 0 es.length cap∧tZ H 3 ev 0 es.length cap (es.map eEv)∧ev<nx∧ ¬Y ev∧ev≠i1
structure aiW (Y:Nat→Prop) (H:aA) (nx i1:Nat) (es:List Ev):Prop where
 ex: ∃d a b c e,H i1=some ⟨5,1,[[d,cI a,cI b,cI c,cI e]]⟩∧aqA Y H nx i1 es d
 i1:i1<nx∧ ¬Y i1
 y: ∀id,Y id→id<nx
theorem aA.aC {H:aA} {a i:Nat} {o:bA} (h:i≠a):H.set a o i=H i:=if_neg h
theorem aA.bH {H:aA} {a:Nat} {o:bA}:H.set a o a=some o:=if_pos rfl
theorem aA.jG {H:aA} {a i:Nat} (h:i≠a):H.del a i=H i:=if_neg h
def eZ (x:Nat):List Nat→Prop
 | []=>True
 |y::l=>((x=y)=False∧(y=x)=False)∧eZ x l
def bQ (nx:Nat):List Nat→Prop
 | []=>True
 |x::l=>((∀k,(x=nx+k)=False)∧(∀k,(nx+k=x)=False)∧(x=nx)=False∧(nx=x)=False)∧eZ x l∧bQ nx l
theorem apZ {x:Nat}: ∀{l:List Nat},x∉l→eZ x l
 | [],_=>trivial
 |y::l,h=>by
  rw[List.mem_cons,not_or] at h
  exact⟨⟨eq_false h.1,eq_false (Ne.symm h.1)⟩,apZ h.2⟩
theorem apart {nx:Nat}: ∀{l:List Nat},l.Nodup→(∀x∈l,x<nx)→bQ nx l
 | [],_,_=>trivial
 |x::l,h,hl=>by
  rw[List.nodup_cons] at h
  have hx:=hl x (by simp)
  exact⟨⟨fun k=>eq_false (by omega),fun k=>eq_false (by omega),eq_false (by omega),eq_false (by omega)⟩,apZ h.1,apart h.2 fun y hy=>hl y (List.mem_cons_of_mem _ hy)⟩
theorem Names.list {X:Nat→Prop} {nx:Nat} {nm:Nat→Nat} (h:Names X nx nm): ∀{l:List Nat},l.Nodup→(∀k∈l,k<19)→(l.map nm).Nodup
 | [],_,_=>List.Pairwise.nil
 |k::l,hn,hl=>by
  rw[List.nodup_cons] at hn
  rw[List.map_cons,List.nodup_cons]
  refine⟨fun hm=> ?_,h.list hn.2 fun j hj=>hl j (List.mem_cons_of_mem _ hj)⟩
  obtain⟨j,hj,he⟩:=List.mem_map.1 hm
  exact hn.1 (h.inj j k (hl j (List.mem_cons_of_mem _ hj)) (hl k (by simp)) he▸hj)
theorem Rep.apart {X:Nat→Prop} {H:aA} {nx nx' i0:Nat} {nm:Nat→Nat} {s:CSt} (h:Rep X H nx i0 nm s) (ext l:List Nat) (hx:nx≤nx') (he:ext.Nodup) (heX: ∀x∈ext,X x) (hn:l.Nodup) (hl: ∀k∈l,k<19):bQ nx' (ext++i0::l.map nm):=by
 refine AM.apart (List.nodup_append.2 ⟨he,List.nodup_cons.2 ⟨fun hm=> ?_,h.names.list hn hl⟩,fun a ha b hb hab=> ?_⟩) fun x hx=> ?_
 ·obtain⟨j,hj,he⟩:=List.mem_map.1 hm
  exact h.ne j (hl j hj) he
 ·subst hab
  rcases List.mem_cons.1 hb with rfl|hb
  ·exact h.i0.2 (heX _ ha)
  ·obtain⟨j,hj,rfl⟩:=List.mem_map.1 hb
   exact h.names.av j (hl j hj) (heX _ ha)
 ·rcases List.mem_append.1 hx with hx|hx
  ·have:=h.x x (heX x hx);omega
  ·rcases List.mem_cons.1 hx with rfl|hx
   ·have:=h.i0.1;omega
   ·obtain⟨j,hj,rfl⟩:=List.mem_map.1 hx
    have:=h.names.lt j (hl j hj);omega
theorem tZ.frame {H H':aA} {n id off len cap:Nat} {R:List (List D1)} (h:tZ H n id off len cap R) (he:H' id=H id):tZ H' n id off len cap R:=by
 obtain⟨m,rows,h1,h2⟩:=h.ex
 exact⟨m,rows,by rw[he,h1],h2⟩
theorem CX.frame {H H':aA} {nq no:Nat} {p:fR} {r:List D1} (h:CX H nq no p r) (h1:H' nq=H nq) (h2:H' no=H no):CX H' nq no p r:=by
 obtain⟨qo,qc,oc,e,q1,q2⟩:=h.ex
 exact⟨qo,qc,oc,e,q1.frame h1,q2.frame h2⟩
theorem LJ.frame {H H':aA} {np nd:Nat} {v:nY} {r:List D1} (h:LJ H np nd v r) (h1:H' np=H np) (h2:H' nd=H nd):LJ H' np nd v r:=by
 obtain⟨po,pc,do_,dc,e,q1,q2⟩:=h.ex
 exact⟨po,pc,do_,dc,e,q1.frame h1,q2.frame h2⟩
theorem Rep.upd {X:Nat→Prop} {H H':aA} {nx nx' i0:Nat} {nm nm':Nat→Nat} {s s':CSt} {who st:Nat} (h:Rep X H nx i0 nm s) (hx:nx≤nx') (hN:Names X nx' nm') (hne: ∀k,k<19→nm' k≠i0)
 (hk: ∀k,k<19→k≠4→k≠5+who→k≠8+who→k≠11+st→k≠15+st→nm' k=nm k) (hfr: ∀k,5≤k→k<19→k≠5+who→k≠8+who→k≠11+st→k≠15+st→H' (nm k)=H (nm k))
 (e1: ∃wc hc pc vc tc,H' i0=some ⟨5,1,[U2 nm' s' wc hc pc vc tc]⟩∧tZ H' 1 (nm' 0) 0 s'.words.length wc (s'.words.map aJ)∧tZ H' 1 (nm' 1) 0 s'.holds.length hc (s'.holds.map aJ)∧tZ H' 5 (nm' 4) 0 s'.told.length tc (s'.told.map aS)∧3≤pc∧4≤vc)
 (e2: ∃m rows m0 rows0,H (nm 2)=some ⟨4,m0,rows0⟩∧H' (nm 2)=some ⟨4,m,rows⟩∧rows.length=3∧(∀k,k<3→k≠who→rows[k]?=rows0[k]?)∧(who<3→∃r,rows[who]?=some r∧CX H' (nm' (5+who)) (nm' (8+who)) (aF s' who) r))
 (e3: ∃m rows m0 rows0,H (nm 3)=some ⟨3,m0,rows0⟩∧H' (nm 3)=some ⟨3,m,rows⟩∧rows.length=4∧(∀k,k<4→k≠st→rows[k]?=rows0[k]?)∧(st<4→∃r,rows[st]?=some r∧LJ H' (nm' (11+st)) (nm' (15+st)) (aL s' st) r))
 (hw:who<3∨who=14) (hs:st<4∨st=8) (hp: ∀k,k<3→k≠who→aF s' k=aF s k) (hv: ∀k,k<4→k≠st→aL s' k=aL s k):Rep X H' nx' i0 nm' s':=by
 obtain⟨⟨cells,hi0,hex,hports,hslvs⟩,hnames,hne0,hi1,hX⟩:=h
 refine⟨?_,hN,hne,⟨by omega,hi1.2⟩,fun id hid=>by have:=hX id hid;omega⟩
 obtain⟨wc,hc,pc,vc,tc,q1,q2⟩:=e1
 refine⟨_,q1,⟨wc,hc,pc,vc,tc,rfl,q2⟩,?_,?_⟩
 ·obtain⟨m,rows,m0,rows0,g1,g2,g3,g4,g5⟩:=e2
  obtain⟨m1,rows1,j1,j2,j3⟩:=hports
  rw[g1] at j1
  obtain⟨_,rfl,rfl⟩:4=4∧m0=m1∧rows0=rows1:=by simpa using j1
  refine⟨m,rows,by rw[hk 2 (by omega) (by omega) (by omega) (by omega) (by omega) (by omega)];exact g2,g3,fun k hk3=> ?_⟩
  by_cases hkw:k=who
  ·subst hkw;exact g5 hk3
  ·obtain⟨r,j4,j5⟩:=j3 k hk3
   refine⟨r,by rw[g4 k hk3 hkw];exact j4,?_⟩
   rw[hp k hk3 hkw,hk (5+k) (by omega) (by omega) (by omega) (by omega) (by omega) (by omega),hk (8+k) (by omega) (by omega) (by omega) (by omega) (by omega) (by omega)]
   exact j5.frame (hfr _ (by omega) (by omega) (by omega) (by omega) (by omega) (by omega)) (hfr _ (by omega) (by omega) (by omega) (by omega) (by omega) (by omega))
 ·obtain⟨m,rows,m0,rows0,g1,g2,g3,g4,g5⟩:=e3
  obtain⟨m1,rows1,j1,j2,j3⟩:=hslvs
  rw[g1] at j1
  obtain⟨_,rfl,rfl⟩:3=3∧m0=m1∧rows0=rows1:=by simpa using j1
  refine⟨m,rows,by rw[hk 3 (by omega) (by omega) (by omega) (by omega) (by omega) (by omega)];exact g2,g3,fun k hk3=> ?_⟩
  by_cases hkw:k=st
  ·subst hkw;exact g5 hk3
  ·obtain⟨r,j4,j5⟩:=j3 k hk3
   refine⟨r,by rw[g4 k hk3 hkw];exact j4,?_⟩
   rw[hv k hk3 hkw,hk (11+k) (by omega) (by omega) (by omega) (by omega) (by omega) (by omega),hk (15+k) (by omega) (by omega) (by omega) (by omega) (by omega) (by omega)]
   exact j5.frame (hfr _ (by omega) (by omega) (by omega) (by omega) (by omega) (by omega)) (hfr _ (by omega) (by omega) (by omega) (by omega) (by omega) (by omega))
theorem Rep.frame {X X':Nat→Prop} {H H':aA} {nx nx' i0:Nat} {nm:Nat→Nat} {s:CSt} (h:Rep X H nx i0 nm s) (hx:nx≤nx') (h0:H' i0=H i0) (hfr: ∀k,k<19→H' (nm k)=H (nm k)) (hX: ∀id,X' id→id<nx'∧id≠i0∧ ∀k,k<19→id≠nm k):Rep X' H' nx' i0 nm s:=by
 obtain⟨⟨cells,hi0,⟨wc,hc,pc,vc,tc,q1,q2,q3,q4,q5⟩,⟨m,rows,j1,j2,j3⟩,⟨m',rows',j4,j5,j6⟩⟩,hnames,hne0,hi1,_⟩:=h
 refine⟨⟨cells,by rw[h0];exact hi0,⟨wc,hc,pc,vc,tc,q1,q2.frame (hfr _ (by omega)),q3.frame (hfr _ (by omega)),q4.frame (hfr _ (by omega)),q5⟩,⟨m,rows,by rw[hfr 2 (by omega)];exact j1,j2,fun k hk=> ?_⟩,⟨m',rows',by rw[hfr 3 (by omega)];exact j4,j5,fun k hk=> ?_⟩⟩,
  ⟨hnames.inj,fun k hk=>by have:=hnames.lt k hk;omega,fun k hk hn=>(hX _ hn).2.2 k hk rfl⟩,hne0,⟨by omega,fun hn=>(hX _ hn).2.1 rfl⟩,fun id hid=>(hX id hid).1⟩
 ·obtain⟨r,k1,k2⟩:=j3 k hk
  exact⟨r,k1,k2.frame (hfr _ (by omega)) (hfr _ (by omega))⟩
 ·obtain⟨r,k1,k2⟩:=j6 k hk
  exact⟨r,k1,k2.frame (hfr _ (by omega)) (hfr _ (by omega))⟩
def put (nm:Nat→Nat) (k v:Nat):Nat→Nat:=fun j=>if j=k then v else nm j
theorem t8 {nm:Nat→Nat} {k v:Nat}:put nm k v k=v:=if_pos rfl
theorem jE {nm:Nat→Nat} {k v j:Nat} (h:j≠k):put nm k v j=nm j:=if_neg h
theorem Names.mono {X:Nat→Prop} {nx nx':Nat} {nm:Nat→Nat} (h:Names X nx nm) (hx:nx≤nx'):Names X nx' nm:=
 ⟨h.inj,fun k hk=>by have:=h.lt k hk;omega,h.av⟩
theorem Names.put {X:Nat→Prop} {nx nx':Nat} {nm:Nat→Nat} {k v:Nat} (h:Names X nx nm) (h1:nx≤v) (h2:v<nx') (hX: ¬X v):Names X nx' (put nm k v):=by
 refine⟨fun i j hi hj he=> ?_,fun j hj=> ?_,fun j hj=> ?_⟩
 ·have a:=h.lt i hi
  have b:=h.lt j hj
  have c:=h.inj i j hi hj
  unfold AM.put at he
  split at he<;>split at he<;>omega
 ·have:=h.lt j hj
  unfold AM.put;split<;>omega
 ·unfold AM.put;split
  ·exact hX
  ·exact h.av j hj
structure l9 (X:Nat→Prop) (H:aA) (nx i0 i1:Nat) (nm:Nat→Nat) (s:CSt) (es:List Ev):Prop where
 rep:Rep (fun id=>X id∨id=i1) H nx i0 nm s
 hap:aiW (fun id=>X id∨id=i0∨ ∃k,k<19∧id=nm k) H nx i1 es
theorem aiW.frame {Y Y':Nat→Prop} {H H':aA} {nx nx' i1:Nat} {es:List Ev} (h:aiW Y H nx i1 es) (hx:nx≤nx') (h1:H' i1=H i1) (hfr: ∀id,id<nx→¬Y id→H' id=H id) (hY: ∀id,Y' id→id<nx'∧(Y id∨nx≤id)):aiW Y' H' nx' i1 es:=by
 obtain⟨⟨d,a,b,c,e,g1,g2⟩,g3,g4⟩:=h
 have hn: ∀id,id<nx→¬Y id→¬Y' id:=fun id h1 h2 h3=>by
  rcases(hY id h3).2 with h|h
  ·exact h2 h
  ·omega
 refine⟨⟨d,a,b,c,e,by rw[h1];exact g1,?_⟩,⟨by omega,hn _ g3.1 g3.2⟩,fun id h=>(hY id h).1⟩
 rcases g2 with g2|⟨ev,cap,k1,k2,k3,k4,k5⟩
 ·exact .inl g2
 ·exact .inr ⟨ev,cap,k1,k2.frame (hfr _ k3 k4),by omega,hn _ k3 k4,k5⟩
theorem l9.next {X X2:Nat→Prop} {H H2:aA} {nx nx2 i0 i1:Nat} {nm:Nat→Nat} {s:CSt} {es:List Ev} (h:l9 X H nx i0 i1 nm s es) (hx:nx≤nx2) (hfr: ∀id,id<nx→¬X id→H2 id=H id) (hX: ∀id,X2 id→id<nx2∧(X id∨nx≤id)):l9 X2 H2 nx2 i0 i1 nm s es:=by
 have hi0:=h.rep.i0
 have hi1:=h.hap.i1
 have hav:=h.rep.names.av
 have hlt:=h.rep.names.lt
 refine⟨h.rep.frame hx (hfr i0 hi0.1 fun hn=>hi0.2 (.inl hn)) (fun k hk=>hfr _ (hlt k hk) fun hn=>hav k hk (.inl hn)) fun id hid=> ?_,h.hap.frame hx (hfr i1 hi1.1 fun hn=>hi1.2 (.inl hn)) (fun id h1 h2=>hfr id h1 fun hn=>h2 (.inl hn)) fun id hid=> ?_⟩
 ·rcases hid with hid|rfl
  ·obtain⟨q1,q2⟩:=hX id hid
   refine⟨q1,?_,fun k hk=> ?_⟩
   ·rintro rfl
    rcases q2 with q2|q2
    ·exact hi0.2 (.inl q2)
    ·omega
   ·rintro rfl
    have:=hlt k hk
    rcases q2 with q2|q2
    ·exact hav k hk (.inl q2)
    ·omega
  ·refine⟨by omega,fun he=>hi0.2 (.inr he.symm),fun k hk he=>hav k hk (.inr he.symm)⟩
 ·rcases hid with hid|rfl|⟨k,hk,rfl⟩
  ·obtain⟨q1,q2⟩:=hX id hid
   exact⟨q1,q2.imp .inl fun h=>h⟩
  ·exact⟨by omega,.inl (.inr (.inl rfl))⟩
  ·have:=hlt k hk
   exact⟨by omega,.inl (.inr (.inr ⟨k,hk,rfl⟩))⟩
theorem l9.mono {X:Nat→Prop} {H:aA} {nx nx2 i0 i1:Nat} {nm:Nat→Nat} {s:CSt} {es:List Ev} (h:l9 X H nx i0 i1 nm s es) (hx:nx≤nx2):l9 X H nx2 i0 i1 nm s es:=
 h.next hx (fun _ _ _=>rfl) fun id hid=>⟨by have:=h.rep.x id (.inl hid);omega,.inl hid⟩
theorem Rep.get {X:Nat→Prop} {H:aA} {nx i0:Nat} {nm:Nat→Nat} {s:CSt} (h:Rep X H nx i0 nm s):
 ∃wc hc pc vc tc mp rp mv rv,H i0=some ⟨5,1,[[.osl 1 (nm 0) 0 s.words.length wc,.osl 1 (nm 1) 0 s.holds.length hc,.osl 4 (nm 2) 0 3 pc,.osl 3 (nm 3) 0 4 vc,.osl 5 (nm 4) 0 s.told.length tc]]⟩∧H (nm 2)=some ⟨4,mp,rp⟩∧H (nm 3)=some ⟨3,mv,rv⟩∧
  tZ H 1 (nm 0) 0 s.words.length wc (s.words.map aJ)∧tZ H 1 (nm 1) 0 s.holds.length hc (s.holds.map aJ)∧tZ H 5 (nm 4) 0 s.told.length tc (s.told.map aS)∧3≤pc∧4≤vc∧rp.length=3∧rv.length=4∧
  (∀k,k<3→∃qo qc oc,rp[k]?=some [cI (aF s k).next,.osl 1 (nm (5+k)) qo (aF s k).queue.length qc,.osl 3 (nm (8+k)) 0 (aF s k).out.length oc,cI (aF s k).last]∧tZ H 1 (nm (5+k)) qo (aF s k).queue.length qc ((aF s k).queue.map aJ)∧tZ H 3 (nm (8+k)) 0 (aF s k).out.length oc ((aF s k).out.map eCJ))∧
  ∀k,k<4→∃po pc do_ dc,rv[k]?=some [.osl 3 (nm (11+k)) po (aL s k).pipe.length pc,.osl 5 (nm (15+k)) do_ (aL s k).done.length dc,cI (aL s k).last]∧tZ H 3 (nm (11+k)) po (aL s k).pipe.length pc ((aL s k).pipe.map eCJ)∧tZ H 5 (nm (15+k)) do_ (aL s k).done.length dc ((aL s k).done.map aS):=by
 obtain⟨cells,hi0,⟨wc,hc,pc,vc,tc,rfl,q1,q2,q3,q4,q5⟩,⟨mp,rp,j1,j2,j3⟩,⟨mv,rv,j4,j5,j6⟩⟩:=h.st
 refine⟨wc,hc,pc,vc,tc,mp,rp,mv,rv,hi0,j1,j4,q1,q2,q3,q4,q5,j2,j5,fun k hk=> ?_,fun k hk=> ?_⟩
 ·obtain⟨r,h1,⟨qo,qc,oc,rfl,h2⟩⟩:=j3 k hk
  exact⟨qo,qc,oc,h1,h2⟩
 ·obtain⟨r,h1,⟨po,pc,do_,dc,rfl,h2⟩⟩:=j6 k hk
  exact⟨po,pc,do_,dc,h1,h2⟩
theorem l9.upd {X:Nat→Prop} {H H':aA} {nx nx' i0 i1:Nat} {nm:Nat→Nat} {s:CSt} {es:List Ev} (h:l9 X H nx i0 i1 nm s es) (who st:Nat) (nm':Nat→Nat) (s':CSt) (hx:nx≤nx') (hN:Names (fun id=>X id∨id=i1) nx' nm')
 (hk: ∀k,k<19→nm' k=nm k∨((k=4∨k=5+who∨k=8+who∨k=11+st∨k=15+st)∧nx≤nm' k))
 (hfr: ∀id,id<nx→id≠i0→(∀k,k<5∨k=5+who∨k=8+who∨k=11+st∨k=15+st→k<19→id≠nm k)→H' id=H id)
 (e1: ∃wc hc pc vc tc,H' i0=some ⟨5,1,[U2 nm' s' wc hc pc vc tc]⟩∧tZ H' 1 (nm' 0) 0 s'.words.length wc (s'.words.map aJ)∧tZ H' 1 (nm' 1) 0 s'.holds.length hc (s'.holds.map aJ)∧tZ H' 5 (nm' 4) 0 s'.told.length tc (s'.told.map aS)∧3≤pc∧4≤vc)
 (e2: ∃m rows m0 rows0,H (nm 2)=some ⟨4,m0,rows0⟩∧H' (nm 2)=some ⟨4,m,rows⟩∧rows.length=3∧(∀k,k<3→k≠who→rows[k]?=rows0[k]?)∧(who<3→∃r,rows[who]?=some r∧CX H' (nm' (5+who)) (nm' (8+who)) (aF s' who) r))
 (e3: ∃m rows m0 rows0,H (nm 3)=some ⟨3,m0,rows0⟩∧H' (nm 3)=some ⟨3,m,rows⟩∧rows.length=4∧(∀k,k<4→k≠st→rows[k]?=rows0[k]?)∧(st<4→∃r,rows[st]?=some r∧LJ H' (nm' (11+st)) (nm' (15+st)) (aL s' st) r))
 (hw:who<3∨who=14) (hs:st<4∨st=8) (hp: ∀k,k<3→k≠who→aF s' k=aF s k) (hv: ∀k,k<4→k≠st→aL s' k=aL s k):l9 X H' nx' i0 i1 nm' s' es∧ ∀id,X id→H' id=H id:=by
 have hav:=h.rep.names.av
 have hi0:=h.rep.i0
 have hi1:=h.hap.i1
 have hlt:=h.rep.names.lt
 have hXf: ∀id,X id∨id=i1→H' id=H id:=fun id hid=>hfr id (h.rep.x id hid) (fun he=>hi0.2 (he▸hid)) fun k _ hk he=>hav k hk (he▸hid)
 refine⟨⟨h.rep.upd (who:=who) (st:=st) hx hN (fun k hk19=> ?_) (fun k hk19 h1 h2 h3 h4 h5=> ?_) (fun k h5 hk19 h1 h2 h3 h4=> ?_) e1 e2 e3 hw hs hp hv,h.hap.frame hx (hXf _ (.inr rfl)) (fun id h1 h2=> ?_) fun id hid=> ?_⟩,fun id hid=>hXf id (.inl hid)⟩
 ·rcases hk k hk19 with h1|h1
  ·rw[h1];exact h.rep.ne k hk19
  ·omega
 ·rcases hk k hk19 with h6|h6
  ·exact h6
  ·omega
 ·refine hfr _ (hlt k hk19) (h.rep.ne k hk19) fun j hj hj19 he=> ?_
  have:=h.rep.names.inj k j hk19 hj19 he
  omega
 ·exact hfr id h1 (fun he=>h2 (.inr (.inl he))) fun k _ hk19 he=>h2 (.inr (.inr ⟨k,hk19,he⟩))
 ·rcases hid with hid|rfl|⟨k,hk19,rfl⟩
  ·have:=h.rep.x id (.inl hid)
   exact⟨by omega,.inl (.inl hid)⟩
  ·exact⟨by omega,.inl (.inr (.inl rfl))⟩
  ·have:=hN.lt k hk19
   rcases hk k hk19 with h6|h6
   ·exact⟨this,.inl (.inr (.inr ⟨k,hk19,h6⟩))⟩
   ·exact⟨this,.inr h6.2⟩
end Go.AM
end
section
namespace Go.AM
def VK (H:aA) (F:Nat→Prop) (r' r:List D1):Prop:=r'.length=r.length∧ ∀(j:Nat) (d':D1),r'[j]?=some d'→∃d,r[j]?=some d∧Frz H F d' d
section
variable {H : aA} {F : Nat → Prop} {σ : Nat → Nat} {nh : Nat}
theorem LH:VK H F [] []:=⟨rfl,fun j d h=>by simp at h⟩
theorem fO {x y:D1} {xs ys:List D1} (h:Frz H F x y) (h2:VK H F xs ys):VK H F (x::xs) (y::ys):=by
 refine⟨by simp[h2.1],fun j d hd=> ?_⟩
 match j with
 |0=>simp at hd;subst hd;exact⟨y,rfl,h⟩
 |j+1=>exact h2.2 j d (by simpa using hd)
theorem amO {r:List D1} (h: ∀x∈r,x.dQ=true):VK H F r r:=⟨rfl,fun j d hd=>⟨d,hd,.same d (h d (List.mem_of_getElem? hd))⟩⟩
theorem A8 {r' r:List D1} (h:VK H F r' r):CvL H F σ nh r' r:=⟨h.1,fun i x y hx hy=>by
 obtain⟨d,h1,h2⟩:=h.2 i x hx
 rw[hy] at h1;cases h1
 exact .frz h2⟩
theorem QM {rows:List (List D1)} {n id off len cap:Nat} {o:bA} (hF:F id) (ho:H id=some o) (hn:o.n=n) (hl:len=rows.length) (hlen:off+len≤o.rows.length) (hcap:len≤cap)
 (hr: ∀i r',rows[i]?=some r'→r'.length=n∧ ∃r,o.rows[off+i]?=some r∧VK H F r' r):Frz H F (.isl rows) (.osl n id off len cap):=by
 subst hl
 refine .frz rows n id off cap o (fun i j=>((o.rows[off+i]?.getD [])[j]?).getD .dead) hF ho hn hlen hcap (fun i r' h=>(hr i r' h).1) (fun i j r' d' h1 h2=> ?_) (fun i j r' d' h1 h2=> ?_)
 ·obtain⟨_,r,h3,h4⟩:=hr i r' h1
  obtain⟨d,h5,_⟩:=h4.2 j d' h2
  exact⟨r,h3,by rw[h3];simp[h5]⟩
 ·obtain⟨_,r,h3,h4⟩:=hr i r' h1
  obtain⟨d,h5,h6⟩:=h4.2 j d' h2
  rw[h3];simpa [h5] using h6
theorem tZ.frz {n id off len cap:Nat} {R:List (List D1)} (h:tZ H n id off len cap R) (hi:alR n R) (hF:F id):Frz H F (.isl R) (.osl n id off len cap):=by
 obtain⟨m,rows,h1,h2,h3,h4,h5,h6⟩:=h.ex
 refine QM hF h1 rfl h4 h3 h5 fun i r' hr=>⟨(hi r' (List.mem_of_getElem? hr)).1,r',?_,amO fun x hx=>(hi r' (List.mem_of_getElem? hr)).2 x hx⟩
 subst h2
 rw[List.getElem?_drop] at hr
 exact hr
theorem getD_some {α:Type} [Inhabited α] {l:List α} {k:Nat} {x:α} (h:l[k]?=some x):l.getD k default=x∧k<l.length:=by
 refine⟨by simp[List.getD,h],(List.getElem?_eq_some_iff.1 h).1⟩
end
end Go.AM
end
section
namespace Go.Proofs.YtegiblhkjfiooaaGreat
open Go Go.AM
set_option maxRecDepth 100000
set_option maxHeartbeats 8000000
section
variable {H : aA} {nx : Nat} {K : D → aA → Nat → Prop}
end
end Go.Proofs.YtegiblhkjfiooaaGreat
end
section
namespace Go.Proofs.YtegiblhkjfiooaaGreat
open Go Go.AM
set_option maxRecDepth 100000
set_option maxHeartbeats 8000000
end Go.Proofs.YtegiblhkjfiooaaGreat
namespace Go.AM
def aaK (V:List (Int×Int)) (k:Nat) (u:List Int):Prop:=u.length=3∧ ∀w,w<3→u.getD w default= -1∨ ∃i,i<k∧V[i]?=some ((w:Int),u.getD w default)
theorem aaK.next {c:Cfg} {s:CSt} {st k:Nat} {u:List Int} {x:Int×Int} (hs:COk c s) (hst:st<4) (h:aaK (cS (aL s st)) k u) (hx:(cS (aL s st))[k]?=some x):
 (x.1=(x.1.toNat:Int)∧x.1.toNat<3)∧u.getD x.1.toNat default<x.2∧aaK (cS (aL s st)) (k+1) (u.set x.1.toNat x.2):=by
 obtain⟨hk,hxk⟩:=List.getElem?_eq_some_iff.1 hx
 have hm:x∈cS (aL s st):=hxk▸List.getElem_mem hk
 obtain⟨hw,h0,h1⟩:=hs.vIn hst hm
 have hw3:x.1.toNat<3:=by omega
 have hwe:x.1=(x.1.toNat:Int):=by omega
 refine⟨⟨hwe,hw3⟩,?_,by simp[h.1],fun w hw3'=> ?_⟩
 ·rcases h.2 _ hw3 with h2|⟨i,hi,h2⟩
  ·omega
  ·obtain⟨hi2,h3⟩:=List.getElem?_eq_some_iff.1 h2
   have h4:=List.pairwise_iff_getElem.1 (hs.slv st hst).inc i k hi2 hk hi
   rw[h3,hxk] at h4
   exact h4 hwe.symm
 ·by_cases he:w=x.1.toNat
  ·right
   refine⟨k,by omega,?_⟩
   rw[he,pY (by rw[h.1];omega),if_pos rfl,hx,←hwe]
  ·rw[pY (by rw[h.1];omega),if_neg he]
   exact(h.2 w hw3').imp (fun h=>h) fun⟨i,hi,h2⟩=>⟨i,by omega,h2⟩
end Go.AM
namespace Go.Proofs.YtegiblhkjfiooaaGreat
open Go Go.AM
set_option maxRecDepth 100000
set_option maxHeartbeats 8000000
section
variable {H : aA} {nx : Nat} {K : D → aA → Nat → Prop}
end
end Go.Proofs.YtegiblhkjfiooaaGreat
end
section
namespace Go.AM
theorem agO {M:List (List Int×Int)} {l l':List Int} {n:Int}:jT (vA M l n) l'=if l'=l then some n else jT M l':=by
 induction M with
 |nil=>
  by_cases h:l'=l
  ·simp[vA,jT,h]
  ·simp[vA,jT,h]
 |cons p M ih=>
  obtain⟨a,b⟩:=p
  simp only[vA]
  by_cases hl:l=a
  ·subst hl
   rw[if_pos rfl]
   by_cases h:l'=l
   ·simp[jT,h]
   ·simp[jT,h]
  ·rw[if_neg hl]
   unfold jT at ih ⊢
   simp only[List.find?_cons]
   by_cases h:l'=a
   ·subst h
    simp[Ne.symm hl]
   ·simp only[h,decide_false]
    rw[ih]
def XM (c:Cfg) (who:Nat) (out:List fC) (k:Nat) (M:List (List Int×Int)):Prop:=∀i v,jT M [i]=some v→∃j∈out.take k,(bT c who j.n).id=i∧j.left=v
theorem XM.next {c:Cfg} {who:Nat} {out:List fC} {k:Nat} {M:List (List Int×Int)} (h:XM c who out k M) (hk:k<out.length):XM c who out (k+1) (vA M [(bT c who (out.getD k default).n).id] (out.getD k default).left):=by
 intro i v hv
 rw[agO] at hv
 have hm:out.getD k default∈out.take (k+1):=by
  rw[nK hk];simp
 split at hv
 ·rename_i he
  simp only[List.cons.injEq,and_true] at he
  simp only[Option.some.injEq] at hv
  exact⟨_,hm,he.symm,hv⟩
 ·obtain⟨j,h1,h2⟩:=h i v hv
  exact⟨j,(List.take_sublist_take_left (by omega)).mem h1,h2⟩
end Go.AM
namespace Go.Proofs.YtegiblhkjfiooaaGreat
open Go Go.AM
set_option maxRecDepth 100000
set_option maxHeartbeats 8000000
section
variable {H : aA} {nx : Nat} {K : D → aA → Nat → Prop}
end
end Go.Proofs.YtegiblhkjfiooaaGreat
end
section
namespace Go.Proofs.YtegiblhkjfiooaaGreat
open Go Go.AM
set_option maxRecDepth 100000
end Go.Proofs.YtegiblhkjfiooaaGreat
end
section
namespace Go.Proofs.YtegiblhkjfiooaaGreat
open Go Go.AM
set_option maxRecDepth 100000
set_option maxHeartbeats 8000000
section
variable {H : aA} {nx : Nat} {K : D → aA → Nat → Prop}
end
end Go.Proofs.YtegiblhkjfiooaaGreat
end
section
namespace Go.AM
theorem GZ {c:Cfg} {f:CSt→Nat→Option Mic} {s:CSt} {k:Nat} {l:List Nat} (h:f s k=none):vE c f s (k::l)=vE c f s l:=by
 rw[vE,h]
theorem NH {c:Cfg} {f:CSt→Nat→Option Mic} {s:CSt} {k:Nat} {l:List Nat} {m:Mic} (h:f s k=some m):vE c f s (k::l)=m::vE c f (aR c s m) l:=by
 rw[vE,h]
def vU (c:Cfg) (f:CSt→Nat→Option Mic) (l:List Nat) (s:CSt) (es:List Ev) (S:CSt) (E:List Ev):Prop:=dR c s (vE c f s l)=S∧es++iP c s (vE c f s l)=E
theorem vU.none {c:Cfg} {f:CSt→Nat→Option Mic} {s S:CSt} {es E:List Ev} {k:Nat} {l:List Nat} (hl:vU c f (k::l) s es S E) (h:f s k=none):vU c f l s es S E:=by
 unfold vU at hl
 rw[GZ h] at hl
 exact hl
theorem vU.some {c:Cfg} {f:CSt→Nat→Option Mic} {s S:CSt} {es E:List Ev} {k:Nat} {l:List Nat} {m:Mic} (hl:vU c f (k::l) s es S E) (h:f s k=some m):vU c f l (aR c s m) (es++y0 s m) S E:=by
 unfold vU at hl
 rw[NH h] at hl
 refine⟨hl.1,?_⟩
 rw[List.append_assoc]
 exact hl.2
theorem vU.nil {c:Cfg} {f:CSt→Nat→Option Mic} {s S:CSt} {es E:List Ev} (hl:vU c f [] s es S E):s=S∧es=E:=by
 refine⟨hl.1,?_⟩
 have:=hl.2
 rw[vE,iP,List.append_nil] at this
 exact this
def LV (c:Cfg) (l:List Nat) (s:CSt) (u:List Bool) (S:CSt):Prop:=dR c s (oP c s u l)=S
theorem LV.none {c:Cfg} {s S:CSt} {u:List Bool} {k:Nat} {l:List Nat} (hl:LV c (k::l) s u S) (h:AO c s u k=none):LV c l s u S:=by
 unfold LV at hl
 rw[oP,h] at hl
 exact hl
theorem LV.some {c:Cfg} {s S:CSt} {u:List Bool} {k who:Nat} {l:List Nat} (hl:LV c (k::l) s u S) (h:AO c s u k=some who):LV c l (aR c s (.adm who k)) (u.set who true) S:=by
 unfold LV at hl
 rw[oP,h] at hl
 exact hl
end Go.AM
end
section
namespace Go.Proofs.YtegiblhkjfiooaaGreat
open Go Go.AM
set_option maxRecDepth 100000
set_option maxHeartbeats 8000000
section
variable {H : aA} {nx : Nat} {K : D → aA → Nat → Prop}
end
end Go.Proofs.YtegiblhkjfiooaaGreat
end
section
namespace Go.Proofs.YtegiblhkjfiooaaGreat
open Go Go.AM
set_option maxRecDepth 100000
set_option maxHeartbeats 8000000
theorem fZ {H:aA} {e:Env} {t n id m:Nat} {cs:List D1} (he:e t= .one (.c (.ptr n id 0 0))) (ho:H id=some ⟨n,m,[cs]⟩) (hl:cs.length=n):yT H e [.cell t n true]=some (dA cs):=by
 subst hl
 simp[yT,VP,he,tT,ho,mkV]
section
variable {H : aA} {nx : Nat} {K : D → aA → Nat → Prop}
end
end Go.Proofs.YtegiblhkjfiooaaGreat
end
section
namespace Go.Proofs.YtegiblhkjfiooaaGreat
open Go Go.AM
set_option maxRecDepth 100000
set_option maxHeartbeats 8000000
section
variable {H : aA} {nx : Nat} {K : D → aA → Nat → Prop}
end
end Go.Proofs.YtegiblhkjfiooaaGreat
end
section
namespace Go.Proofs.YtegiblhkjfiooaaGreat
open Go Go.AM
set_option maxRecDepth 100000
set_option maxHeartbeats 8000000
section
variable {H : aA} {nx : Nat} {K : D → aA → Nat → Prop}
end
end Go.Proofs.YtegiblhkjfiooaaGreat
end
section
namespace Go.Proofs.YtegiblhkjfiooaaGreat
open Go Go.AM
set_option maxRecDepth 100000
set_option maxHeartbeats 8000000
end Go.Proofs.YtegiblhkjfiooaaGreat
namespace Go.AM
theorem l9.cells {X:Nat→Prop} {H:aA} {nx i0 i1:Nat} {nm:Nat→Nat} {s:CSt} {es:List Ev} (h:l9 X H nx i0 i1 nm s es) {r r':List D1} {k:Nat} (hk:k<4) (h1:H i1=some ⟨5,1,[r]⟩) (hr:r'=r.set (1+k) (cI 1)):l9 X (H.set i1 ⟨5,1,[r']⟩) nx i0 i1 nm s es:=by
 subst hr
 have hav:=h.rep.names.av
 have hi0:=h.rep.i0
 refine⟨h.rep.frame (Nat.le_refl _) (aA.aC fun he=>hi0.2 (.inr he)) (fun k hk=>aA.aC fun he=>hav k hk (.inr he)) fun id hid=>⟨h.rep.x id hid,fun he=>hi0.2 (he▸hid),fun k hk he=>hav k hk (he▸hid)⟩,?_⟩
 obtain⟨⟨d,a,b,c,e,g1,g2⟩,g3,g4⟩:=h.hap
 rw[h1] at g1
 obtain rfl:r=[d,cI a,cI b,cI c,cI e]:=by simpa using g1
 have hd:aqA (fun id=>X id∨id=i0∨ ∃k,k<19∧id=nm k) (H.set i1 ⟨5,1,[[d,cI a,cI b,cI c,cI e].set (1+k) (cI 1)]⟩) nx i1 es d:=by
  rcases g2 with g2|⟨ev,cap,k1,k2,k3,k4,k5⟩
  ·exact .inl g2
  ·exact .inr ⟨ev,cap,k1,k2.frame (aA.aC k5),k3,k4,k5⟩
 refine⟨?_,g3,g4⟩
 obtain rfl|rfl|rfl|rfl:k=0∨k=1∨k=2∨k=3:=by omega
 ·exact⟨d,1,b,c,e,aA.bH,hd⟩
 ·exact⟨d,a,1,c,e,aA.bH,hd⟩
 ·exact⟨d,a,b,1,e,aA.bH,hd⟩
 ·exact⟨d,a,b,c,1,aA.bH,hd⟩
end Go.AM
namespace Go.Proofs.YtegiblhkjfiooaaGreat
open Go Go.AM
set_option maxRecDepth 100000
set_option maxHeartbeats 8000000
section
variable {H : aA} {nx : Nat} {K : D → aA → Nat → Prop}
end
end Go.Proofs.YtegiblhkjfiooaaGreat
end
section
namespace Go.Proofs.YtegiblhkjfiooaaGreat
open Go Go.AM
set_option maxRecDepth 100000
set_option maxHeartbeats 8000000
section
variable {H : aA} {nx : Nat} {K : D → aA → Nat → Prop}
end
end Go.Proofs.YtegiblhkjfiooaaGreat
end
section
namespace Go.Proofs.YtegiblhkjfiooaaGreat
open Go Go.AM
set_option maxRecDepth 100000
set_option maxHeartbeats 8000000
section
variable {H : aA} {nx : Nat} {K : D → aA → Nat → Prop}
end
end Go.Proofs.YtegiblhkjfiooaaGreat
end
section
namespace Go.Proofs.YtegiblhkjfiooaaGreat
open Go Go.AM
set_option maxRecDepth 100000
set_option maxHeartbeats 8000000
end Go.Proofs.YtegiblhkjfiooaaGreat
namespace Go.AM
structure Part (A:Nat→Prop) (lo hi:Nat) (nm:Nat→Nat):Prop where
 inj: ∀j k,A j→A k→nm j=nm k→j=k
 rng: ∀k,A k→lo≤nm k∧nm k<hi
theorem Part.mono {A:Nat→Prop} {lo hi hi':Nat} {nm:Nat→Nat} (h:Part A lo hi nm) (hh:hi≤hi'):Part A lo hi' nm:=⟨h.inj,fun k hk=>by have:=h.rng k hk;omega⟩
theorem Part.put {A B:Nat→Prop} {lo hi hi' k v:Nat} {nm:Nat→Nat} (h:Part A lo hi nm) (h0:lo≤hi) (h1:hi≤v) (h2:v<hi') (hB: ∀j,B j→A j∧j≠k∨j=k):Part B lo hi' (put nm k v):=by
 refine⟨fun i j hi hj he=> ?_,fun j hj=> ?_⟩
 ·rcases hB i hi with⟨az9,az2⟩|rfl<;>rcases hB j hj with⟨b1,b2⟩|rfl
  ·rw[jE az2,jE b2] at he;exact h.inj i j az9 b1 he
  ·rw[jE az2,t8] at he;have:=h.rng i az9;omega
  ·rw[jE b2,t8] at he;have:=h.rng j b1;omega
  ·rfl
 ·rcases hB j hj with⟨az9,az2⟩|rfl
  ·rw[jE az2];have:=h.rng j az9;omega
  ·rw[t8];omega
end Go.AM
namespace Go.Proofs.YtegiblhkjfiooaaGreat
open Go Go.AM
set_option maxRecDepth 100000
set_option maxHeartbeats 8000000
section
variable {H : aA} {nx : Nat} {K : D → aA → Nat → Prop}
end
end Go.Proofs.YtegiblhkjfiooaaGreat
end
section
namespace Go.AM
end Go.AM
end
section
namespace Go.AM
end Go.AM
namespace Go.Proofs.YtegiblhkjfiooaaGreat
open Go Go.AM
set_option maxRecDepth 100000
set_option maxHeartbeats 8000000
section
variable {H : aA} {nx : Nat} {K : D → aA → Nat → Prop}
end
end Go.Proofs.YtegiblhkjfiooaaGreat
end
section
namespace Go.Proofs.YtegiblhkjfiooaaGreat
open Go Go.AM
set_option maxRecDepth 100000
set_option maxHeartbeats 8000000
end Go.Proofs.YtegiblhkjfiooaaGreat
namespace Go.AM
def IQ (H:aA) (lo hi t:Nat) (s:CSt) (A:List Int) (W D:List Job):Prop:=
 ∃ia iw id_ ca cw cd ma mw md,H t=some ⟨6,1,[[.isl (s.words.map aJ),.isl (s.holds.map aJ),.osl 1 ia 0 A.length ca,.osl 5 iw 0 W.length cw,.osl 5 id_ 0 D.length cd,.isl (s.told.map aS)]]⟩∧
  (H ia=some ⟨1,ma,A.map aJ⟩∧A.length≤ca∧ca≤ma)∧(H iw=some ⟨5,mw,W.map aS⟩∧W.length≤cw∧cw≤mw)∧(H id_=some ⟨5,md,D.map aS⟩∧D.length≤cd∧cd≤md)∧
  (lo≤ia∧ia<hi∧lo≤iw∧iw<hi∧lo≤id_∧id_<hi)∧ia≠iw∧ia≠id_∧iw≠id_
theorem IQ.frame {H H':aA} {lo hi hi' t:Nat} {s:CSt} {A:List Int} {W D:List Job} (h:IQ H lo hi t s A W D) (ht:t<lo) (hh:hi≤hi') (hf: ∀id,id<hi→(id=t∨lo≤id)→H' id=H id):IQ H' lo hi' t s A W D:=by
 obtain⟨ia,iw,id_,ca,cw,cd,ma,mw,md,h0,⟨h1,h2⟩,⟨h3,h4⟩,⟨h5,h6⟩,h7,h8⟩:=h
 exact⟨ia,iw,id_,ca,cw,cd,ma,mw,md,by rw[hf t (by omega) (.inl rfl)];exact h0,⟨by rw[hf _ (by omega) (.inr (by omega))];exact h1,h2⟩,⟨by rw[hf _ (by omega) (.inr (by omega))];exact h3,h4⟩,⟨by rw[hf _ (by omega) (.inr (by omega))];exact h5,h6⟩,by omega,h8⟩
theorem apO {F:Nat→Prop} {H H':aA} {nx t:Nat} {o o':bA} (h1: ∀j,F j→H' j=none) (h2:H' t=some o') (h3:H t=some o) (h4: ¬F t) (h5:CvO H F id nx o' o) (h6: ∀j,j≠t→¬F j→H' j=H j):CvX F nx H H':=fun j x hj=>by
 have hF: ¬F j:=fun h=>by rw[h1 j h] at hj;cases hj
 by_cases he:j=t
 ·subst he
  rw[h2] at hj
  cases hj
  exact⟨hF,o,h3,.inr h5⟩
 ·rw[h6 j he hF] at hj
  exact⟨hF,x,hj,.inl rfl⟩
end Go.AM
namespace Go.Proofs.YtegiblhkjfiooaaGreat
open Go Go.AM
set_option maxRecDepth 100000
set_option maxHeartbeats 8000000
section
variable {H : aA} {nx : Nat} {K : D → aA → Nat → Prop}
end
end Go.Proofs.YtegiblhkjfiooaaGreat
end
section
namespace Go.AM
def jS (f:Nat→Int):Nat→Int
 |0=>0
 |n+1=>jS f n+f n
theorem KF {f:Nat→Int} {m:Int} (h0:0≤m): ∀n,(∀k,k<n→0≤f k∧f k≤m)→0≤jS f n∧jS f n≤m*n
 |0,_=>by simp[jS]
 |n+1,h=>by
  have h1:=KF h0 n fun k hk=>h k (by omega)
  have h2:=h n (by omega)
  have h3:m*((n+1:Nat):Int)=m*n+m:=by push_cast;rw[Int.mul_add,Int.mul_one]
  simp only[jS]
  omega
end Go.AM
namespace Go.Proofs.YtegiblhkjfiooaaGreat
open Go Go.AM
set_option maxRecDepth 100000
set_option maxHeartbeats 8000000
section
variable {H : aA} {nx : Nat} {K : D → aA → Nat → Prop}
end
end Go.Proofs.YtegiblhkjfiooaaGreat
end
