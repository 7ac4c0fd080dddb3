/- Texts laid together by a program: rules, contracts and the walk that leads to the law. -/
import Derived.Test.YtdkfhdmagdaceaaGreatPJ10
import Derived.Test.YtdkfhdmagdaceaaGreatPJ4
import Derived.Test.YtdkfhdmagdaceaaGreatPJ7
import Derived.Test.YtdkfhdmagdaceaaGreatPJ9
import Derived.Test.YtdkfhdmagdaceaaGreatPJ8
set_option linter.unusedVariables false
set_option linter.unusedSimpArgs false
set_option linter.unusedSectionVars false
set_option maxRecDepth 100000
set_option maxHeartbeats 8000000
namespace Go.Proofs.YtdkfhdmagdaceaaGreat
open Go Go.AM
attribute [local irreducible] aM wv aB vd wvH
section
variable {H : aA} {nx : Nat} {K : D → aA → Nat → Prop}
theorem ae5{old:Int}{new:Int}{g6:Int} (a:0≤old∧old≤65535) (b:0≤new∧new≤65535) (f:0≤g6∧g6≤3) (h:K (boP (xZ old new g6)) H nx):aB Tryz.prog DA [boP old,boP new,boP g6] H nx K:=by
 refine aB.pure (args0:=[boP old,boP new,boP g6]) (R:=fun d=>d=boP (xZ old new g6)) ?_ rfl (aI ⟨aE rfl,aE rfl,aE rfl,trivial⟩) (fun r hr=>hr▸h);clear h;refine ZG rfl fun Q c=> ?_;unfold GM;have e:g6=0∨g6=1∨g6=2∨g6=3:=by omega
 rcases e with rfl|rfl|rfl|rfl;all_goals repeat' first|apply bn1<;>(simp only[go_sem])|fail
 ·exact aZ c (boP (aeN old new (aaU 0))) rfl rfl (qA (by rw[arC];exact PW a b (by omega)))
 ·exact aZ c (boP (aeN old new (aaU 1))) rfl rfl (qA (by rw[aqD];exact PW a b (by omega)))
 ·exact aZ c (boP (aeN old new (aaU 2))) rfl rfl (qA (by rw[arO];exact PW a b (by omega)))
 ·exact aZ c (boP (aeN old new (aaU 3))) rfl rfl (qA (by rw[arA];exact PW a b (by omega)))
theorem aqI{w all:List Int}:(List.range all.length).map (fun k=>w.getD (all.getD k default).toNat default)=all.map fun a=>w.getD a.toNat default:=by
 apply List.ext_getElem;·simp
 ·intro i c b;simp only[bqW] at b;simp[List.getD,b]
theorem aw7 (m:List Rng) (s:TSt) (who:Int) (q:Req) (c0 c1 c2 c3 c4 c5 z m1:Nat) (bqD bqE bqF blC:bA) (an:m.length<2^21) (hf:WK s.words s.holds) (ao:s.words.length≤c0) (aq:s.holds.length≤c1) (hw:0≤who∧who≤2) (hq:dH q) (e:C7 bqD) (g:C7 bqE) (i:C7 bqF) (j:C7 blC):
 aB Tryz.prog pL [bkP 6 0,dS (m.map eN),boP who,boR (eB q)] (hp [(0,⟨6,1,[oIm 1 2 3 4 5 6 c0 c1 c2 c3 c4 c5 s]⟩),(1,⟨1,z,(s.words).map aJ⟩),(2,⟨1,m1,(s.holds).map aJ⟩),(3,bqD),(4,bqE),(5,bqF),(6,blC)]) 7
 fun r H' n'=>n'=7∧H'=hp [(0,⟨6,1,[oIm 1 2 3 4 5 6 c0 c1 c2 c3 c4 c5 s]⟩),(1,⟨1,z,((doM m s.words s.holds who q).1.1).map aJ⟩),(2,⟨1,m1,((doM m s.words s.holds who q).1.2).map aJ⟩),(3,bqD),(4,bqE),(5,bqF),(6,blC)]∧r=boR (tG (doM m s.words s.holds who q).2):=by
 obtain⟨ar,aa,au,aw⟩:=hf
 obtain⟨ax,ay,N,O,P,R,ab,az⟩:=hq
 have ba:=DF N
 have bb:=ai5 N
 have bc:=MK (addr:=q.addr) (many:=q.many) (wrap:=q.wrap)
 have S:All (bE q.addr q.many q.wrap) 0 63:=V1
 have t:=PQ (p:=(inR · ((bE q.addr q.many q.wrap).getD 0 default))) (l:=m)
 have bd:bV m (bE q.addr q.many q.wrap)<m.length:=by unfold bV;grind
 have ad:wrM q=true→q.data.length=(bE q.addr q.many q.wrap).length∧q.g6.length=(bE q.addr q.many q.wrap).length:=by intro h;unfold wrM at h;unfold n5 at O P;simp at h;simp only[h,if_true] at O P;omega
 have G:=W4 (q:=q)
 refine avS rfl fun Q y=> ?_
 unfold nS
 generalize d:bE q.addr q.many q.wrap=all at*
 have A: ∀{H:aA} {nx:Nat} {K:D→aA→Nat→Prop},K (boP (bV m all)) H nx→aB Tryz.prog mZ [dS (m.map eN),boR (eB q)] H nx K:=fun h=>KD (by omega) (by rw[d];exact h)
 have T: ∀{H:aA} {nx:Nat} {K:D→aA→Nat→Prop},K (dS (all.map aJ)) H nx→aB Tryz.prog fP [boR (eB q)] H nx K:=fun h=>vY (by rw[d];exact h)
 by_cases h1:bV m all<0
 ·rw[alZ (by rw[d];exact h1)] at y;simp only[oIm];repeat' first| (first|apply bn1|apply A)<;>(simp only[go_sem];try simp (disch:=omega) only[Iw])|apply bn2 (by omega)|refine⟨by omega,?_⟩|fail
  (refine y _ _ _ _ _ 7 (boR (tG ⟨q.id,4,[]⟩)) (hp [(0,⟨6,1,[oIm 1 2 3 4 5 6 c0 c1 c2 c3 c4 c5 s]⟩),(1,⟨1,z,(s.words).map aJ⟩),(2,⟨1,m1,(s.holds).map aJ⟩),(3,bqD),(4,bqE),(5,bqF),(6,blC)]) _ _ (.inr rfl) rfl (fU [0,1,2,3,4,5,6] (by omega) (by repeat' first|exact bo2| ((with_reducible apply bo0);first|exact bo9 rfl|exact bpE)| ((with_reducible apply bo1);apply bo6)|exact bo4|apply bo5|fail) ⟨⟨by simp,by simp[sgL],_,rfl,aP (by repeat' first|exact bo2| (with_reducible first|exact bo4|apply bo5)| ((with_reducible apply bo0);exact bpB (by omega) rfl rfl (by rfl) rfl)|apply bo5|fail)⟩,⟨by simp,by simp[sgL],_,rfl,bP (aG bF _) rfl rfl⟩,⟨by simp,by simp[sgL],_,rfl,bP (aG bF _) rfl rfl⟩,⟨by simp,by simp[sgL],_,rfl,bS e⟩,⟨by simp,by simp[sgL],_,rfl,bS g⟩,⟨by simp,by simp[sgL],_,rfl,bS i⟩,⟨by simp,by simp[sgL],_,rfl,bS j⟩,trivial⟩ (by simp[sgL])) ?_);exact⟨rfl,rfl,rfl⟩
 have u: ¬bV m (bE q.addr q.many q.wrap)<0:=by rw[d];exact h1
 by_cases E:wrM q=true
 ·obtain⟨bf,bg⟩:=ad E;by_cases U:(m.getD (bV m all).toNat default).only=true
  ·rw[anB u E (by rw[d];exact U)] at y;simp only[oIm];repeat' first| (first|apply bn1|apply A|apply gH)<;>(simp only[go_sem,E,U];try simp (disch:=omega) only[Iw])|apply bn3 (by omega)|refine⟨by omega,?_⟩|fail
   (refine y _ _ _ _ _ 7 (boR (tG ⟨q.id,3,[]⟩)) (hp [(0,⟨6,1,[oIm 1 2 3 4 5 6 c0 c1 c2 c3 c4 c5 s]⟩),(1,⟨1,z,(s.words).map aJ⟩),(2,⟨1,m1,(s.holds).map aJ⟩),(3,bqD),(4,bqE),(5,bqF),(6,blC)]) _ _ (.inr rfl) rfl (fU [0,1,2,3,4,5,6] (by omega) (by repeat' first|exact bo2| ((with_reducible apply bo0);first|exact bo9 rfl|exact bpE)| ((with_reducible apply bo1);apply bo6)|exact bo4|apply bo5|fail) ⟨⟨by simp,by simp[sgL],_,rfl,aP (by repeat' first|exact bo2| (with_reducible first|exact bo4|apply bo5)| ((with_reducible apply bo0);exact bpB (by omega) rfl rfl (by rfl) rfl)|apply bo5|fail)⟩,⟨by simp,by simp[sgL],_,rfl,bP (aG bF _) rfl rfl⟩,⟨by simp,by simp[sgL],_,rfl,bP (aG bF _) rfl rfl⟩,⟨by simp,by simp[sgL],_,rfl,bS e⟩,⟨by simp,by simp[sgL],_,rfl,bS g⟩,⟨by simp,by simp[sgL],_,rfl,bS i⟩,⟨by simp,by simp[sgL],_,rfl,bS j⟩,trivial⟩ (by simp[sgL])) ?_);exact⟨rfl,rfl,rfl⟩
  have I: ¬(m.getD (bV m (bE q.addr q.many q.wrap)).toNat default).only=true:=by rw[d];exact U
  have V:(m.getD (bV m all).toNat default).only=false:=by simpa using U
  by_cases W:q.kind=4∧ ¬s.holds.getD (who*2+q.id).toNat default=q.addr
  ·rw[aqU u I W.1 W.2] at y;have bh:=W.1;have bj:=W.2;simp only[oIm];repeat' first| (first|apply bn1|apply bpJ (by omega)|apply A|apply gH)<;>(simp only[go_sem,E,V];try simp (disch:=omega) only[Iw])|apply bn2 (by omega)|apply bn3 (by omega)|refine⟨by omega,?_⟩|fail
   (refine y _ _ _ _ _ 7 (boR (tG ⟨q.id,1,[]⟩)) (hp [(0,⟨6,1,[oIm 1 2 3 4 5 6 c0 c1 c2 c3 c4 c5 s]⟩),(1,⟨1,z,(s.words).map aJ⟩),(2,⟨1,m1,(s.holds).map aJ⟩),(3,bqD),(4,bqE),(5,bqF),(6,blC)]) _ _ (.inr rfl) rfl (fU [0,1,2,3,4,5,6] (by omega) (by repeat' first|exact bo2| ((with_reducible apply bo0);first|exact bo9 rfl|exact bpE)| ((with_reducible apply bo1);apply bo6)|exact bo4|apply bo5|fail) ⟨⟨by simp,by simp[sgL],_,rfl,aP (by repeat' first|exact bo2| (with_reducible first|exact bo4|apply bo5)| ((with_reducible apply bo0);exact bpB (by omega) rfl rfl (by rfl) rfl)|apply bo5|fail)⟩,⟨by simp,by simp[sgL],_,rfl,bP (aG bF _) rfl rfl⟩,⟨by simp,by simp[sgL],_,rfl,bP (aG bF _) rfl rfl⟩,⟨by simp,by simp[sgL],_,rfl,bS e⟩,⟨by simp,by simp[sgL],_,rfl,bS g⟩,⟨by simp,by simp[sgL],_,rfl,bS i⟩,⟨by simp,by simp[sgL],_,rfl,bS j⟩,trivial⟩ (by simp[sgL])) ?_);exact⟨rfl,rfl,rfl⟩
  obtain⟨code,o⟩: ∃code:Int,code=if q.kind=4 then 2 else 1:=⟨_,rfl⟩
  have bqA:doM m s.words s.holds who q=((FV s.words all q.data q.g6 all.length,iU s.holds all),⟨q.id,code,[]⟩):=by
   rcases G.1 E with F|F;·rw[ao1 u I F,d,o,if_neg (by omega)]
   ·rw[aoE u I F (Classical.byContradiction fun hc=>W ⟨F,hc⟩),d,o,if_pos F]
  rw[bqA] at y;simp only[oIm];have ae:=G.1 E;repeat' first| (first|apply bn1|refine bpL (fun h=> ?_) fun h=> ?_|apply A|apply T|apply gH)<;>(simp only[go_sem,E,V];try simp (disch:=omega) only[Iw])|apply bn2 (by omega)|apply bn3 (by omega)|refine⟨by omega,?_⟩|fail
  all_goals
   have bk:(code=2∧q.kind=4)∨(code=1∧ ¬q.kind=4):=by rw[o];split<;>simp[*]
   have X: ∀n:Int,code=n→D1.v (Value.int IntKind.i64 n)=cI code:=fun n hn=>by rw[hn]
   first|rw[X 2 (by omega)]|rw[X 1 (by omega)]|fail
   refine aM.sG 0 (β:=Nat) (fun b k=>en [(109,boP k),(108,boP all.length),(107,dS (all.map aJ)),(12,dS (all.map aJ)),(10,bkP 3 16),(8,bkP 3 8),(7,bkP 7 7),(0,bkP 6 0)])
    (fun b k=>hp [(0,⟨6,1,[[.osl 1 1 0 s.words.length c0,.osl 1 2 0 s.holds.length c1,.osl 1 3 0 s.asked.length c2,.osl 5 4 0 s.wait.length c3,.osl 5 5 0 s.done.length c4,.osl 5 6 0 s.told.length c5]]⟩),(1,⟨1,z,(FV s.words all q.data q.g6 k).map aJ⟩),(2,⟨1,m1,(s.holds).map aJ⟩),(3,bqD),(4,bqE),(5,bqF),(6,blC),(7,⟨7,1,[eB q]⟩),(8,⟨3,1,[[cI 0,cI 0,.osl 0 0 0 0 0]]⟩),(16,⟨3,1,[[cI q.id,cI code,.osl 0 0 0 0 0]]⟩)]) (fun k=>k≤all.length) (fun k=>all.length-k) 0
    (by(refine cR [0,1,2,3,4,5,6,7,8,16] (by omega) (by repeat' first|exact bo2|refine xqI rfl rfl ?_|refine xqP (by omega) rfl rfl ?_|fail) ⟨⟨by simp,by simp[sgL],_,rfl,aP (by repeat' first|exact bo2| (with_reducible first|exact bo4|apply bo5)| ((with_reducible apply bo0);exact bpB (by omega) rfl rfl (by rfl) rfl)|fail)⟩,⟨by simp,by simp[sgL],_,rfl,bP (aG bF _) rfl rfl⟩,⟨by simp,by simp[sgL],_,rfl,bP (aG bF _) rfl rfl⟩,⟨by simp,by simp[sgL],_,rfl,bS e⟩,⟨by simp,by simp[sgL],_,rfl,bS g⟩,⟨by simp,by simp[sgL],_,rfl,bS i⟩,⟨by simp,by simp[sgL],_,rfl,bS j⟩,⟨by simp,by simp[sgL],_,rfl,aP (GW fun x J=>w2.1 (rL q).2 x J)⟩,⟨by simp,by simp[sgL],_,rfl,aP (by repeat' first|exact bo2| (with_reducible first|exact bo4|apply bo5)| ((with_reducible apply bo0);first|exact bo9 rfl|exact bpA)|fail)⟩,⟨by simp,by simp[sgL],_,rfl,aP (by repeat' first|exact bo2| (with_reducible first|exact bo4|apply bo5)| ((with_reducible apply bo0);first|exact bo9 rfl|exact bpA)|fail)⟩,trivial⟩ (by simp[sgL]))) (by omega) ?_
   intro k F bpQ L
   have bm:=AX (w:=s.words) (all:=all) (data:=q.data) (g6:=q.g6) k
   have af:=afR (all:=all) (g6:=q.g6) aa R k
   by_cases t:k<all.length
   ·have hb:=HB S t;have ag:(all.getD k default).toNat<(FV s.words all q.data q.g6 k).length:=(by omega);repeat' first| (first|apply bn1|apply ae5 (HB af ag) (HB R (by omega)) (HB ab (by omega)))<;>(simp only[go_sem];try simp (disch:=omega) only[Iw])|apply bn2 (by omega)|refine⟨by omega,?_⟩|fail
    exact L _ _ _ (k+1) (by omega) (by(refine cR [0,1,2,3,4,5,6,7,8,16] (by omega) (by repeat' first|exact bo2|refine xqI rfl rfl ?_|refine xqP (by omega) rfl rfl ?_|fail) ⟨⟨by simp,by simp[sgL],_,rfl,aP (by repeat' first|exact bo2| (with_reducible first|exact bo4|apply bo5)| ((with_reducible apply bo0);exact bpB (by omega) rfl rfl (by rfl) rfl)|fail)⟩,⟨by simp,by simp[sgL],_,rfl,bP (aG bF _) rfl rfl⟩,⟨by simp,by simp[sgL],_,rfl,bP (aG bF _) rfl rfl⟩,⟨by simp,by simp[sgL],_,rfl,bS e⟩,⟨by simp,by simp[sgL],_,rfl,bS g⟩,⟨by simp,by simp[sgL],_,rfl,bS i⟩,⟨by simp,by simp[sgL],_,rfl,bS j⟩,⟨by simp,by simp[sgL],_,rfl,aP (GW fun x J=>w2.1 (rL q).2 x J)⟩,⟨by simp,by simp[sgL],_,rfl,aP (by repeat' first|exact bo2| (with_reducible first|exact bo4|apply bo5)| ((with_reducible apply bo0);first|exact bo9 rfl|exact bpA)|fail)⟩,⟨by simp,by simp[sgL],_,rfl,aP (by repeat' first|exact bo2| (with_reducible first|exact bo4|apply bo5)| ((with_reducible apply bo0);first|exact bo9 rfl|exact bpA)|fail)⟩,trivial⟩ (by simp[sgL]))) (by omega) (by omega)
   ·repeat' first|apply bn1<;>(simp only[go_sem])|apply bn3 (by omega)|fail
    have B:k=all.length:=(by omega);subst B
    refine aM.sG 0 (β:=Nat) (fun b k=>en [(146,boP k),(145,boP 6),(144,boQ 1 2 6 c1),(12,dS (all.map aJ)),(10,bkP 3 16),(8,bkP 3 8),(0,bkP 6 0)])
     (fun b k=>hp [(0,⟨6,1,[[.osl 1 1 0 s.words.length c0,.osl 1 2 0 s.holds.length c1,.osl 1 3 0 s.asked.length c2,.osl 5 4 0 s.wait.length c3,.osl 5 5 0 s.done.length c4,.osl 5 6 0 s.told.length c5]]⟩),(1,⟨1,z,(FV s.words all q.data q.g6 all.length).map aJ⟩),(2,⟨1,m1,(xI s.holds all k).map aJ⟩),(3,bqD),(4,bqE),(5,bqF),(6,blC),(8,⟨3,1,[[cI 0,cI 0,.osl 0 0 0 0 0]]⟩),(16,⟨3,1,[[cI q.id,cI code,.osl 0 0 0 0 0]]⟩)]) (fun k=>k≤6) (fun k=>6-k) 0
     (by(refine cR [0,1,2,3,4,5,6,8,16] (by omega) (by repeat' first|exact bo2|refine xqI rfl rfl ?_|refine xqP (by omega) rfl rfl ?_|refine xqO (by omega) rfl rfl (by first|rfl|omega) ?_|refine xqV rfl (by omega) ?_|fail) ⟨⟨by simp,by simp[sgL],_,rfl,aP (by repeat' first|exact bo2| (with_reducible first|exact bo4|apply bo5)| ((with_reducible apply bo0);exact bpB (by omega) rfl rfl (by rfl) rfl)|fail)⟩,⟨by simp,by simp[sgL],_,rfl,bP (aG bF _) rfl rfl⟩,⟨by simp,by simp[sgL],_,rfl,bP (aG bF _) (congrArg _ ac9) rfl⟩,⟨by simp,by simp[sgL],_,rfl,bS e⟩,⟨by simp,by simp[sgL],_,rfl,bS g⟩,⟨by simp,by simp[sgL],_,rfl,bS i⟩,⟨by simp,by simp[sgL],_,rfl,bS j⟩,⟨by simp,by simp[sgL],_,rfl,aP (by repeat' first|exact bo2| (with_reducible first|exact bo4|apply bo5)| ((with_reducible apply bo0);first|exact bo9 rfl|exact bpA)|fail)⟩,⟨by simp,by simp[sgL],_,rfl,aP (by repeat' first|exact bo2| (with_reducible first|exact bo4|apply bo5)| ((with_reducible apply bo0);first|exact bo9 rfl|exact bpA)|fail)⟩,trivial⟩ (by simp[sgL]))) (by omega) ?_
    intro k F bqG Y;have bn:=aiJ (all:=all) (show k≤s.holds.length by omega);by_cases t:k<6
    ·have ah:=akN (all:=all) (show k<s.holds.length by omega);have Z:=fun x=>agQ (all:=all) (x:=x) (show k<s.holds.length by omega);have ai:=acP (all:=all) (show k<s.holds.length by omega);repeat' first| (first|apply bn1|refine x8 (by omega) (aE rfl) ?_)<;>(simp only[go_sem,ah];try simp (disch:=omega) only[Iw])|apply bn2 (by omega)|refine bnE (fun h=> ?_) fun h=> ?_|refine⟨by omega,?_⟩|fail
     ·exact Y _ _ _ (k+1) (by omega) (by(refine cR [0,1,2,3,4,5,6,8,16] (by omega) (by repeat' first|exact bo2|refine xqI rfl rfl ?_|refine xqP (by omega) rfl rfl ?_|refine xqO (by omega) rfl rfl (by rfl) ?_|fail) ⟨⟨by simp,by simp[sgL],_,rfl,aP (by repeat' first|exact bo2| (with_reducible first|exact bo4|apply bo5)| ((with_reducible apply bo0);exact bpB (by omega) rfl rfl (by rfl) rfl)|fail)⟩,⟨by simp,by simp[sgL],_,rfl,bP (aG bF _) rfl rfl⟩,⟨by simp,by simp[sgL],_,rfl,bP (aG bF _) (congrArg _ (Z (-1) (by rw[if_pos (by assumption)])).symm) rfl⟩,⟨by simp,by simp[sgL],_,rfl,bS e⟩,⟨by simp,by simp[sgL],_,rfl,bS g⟩,⟨by simp,by simp[sgL],_,rfl,bS i⟩,⟨by simp,by simp[sgL],_,rfl,bS j⟩,⟨by simp,by simp[sgL],_,rfl,aP (by repeat' first|exact bo2| (with_reducible first|exact bo4|apply bo5)| ((with_reducible apply bo0);first|exact bo9 rfl|exact bpA)|fail)⟩,⟨by simp,by simp[sgL],_,rfl,aP (by repeat' first|exact bo2| (with_reducible first|exact bo4|apply bo5)| ((with_reducible apply bo0);first|exact bo9 rfl|exact bpA)|fail)⟩,trivial⟩ (by simp[sgL]))) (by omega) (by omega)
     ·exact Y _ _ _ (k+1) (by omega) (by(refine cR [0,1,2,3,4,5,6,8,16] (by omega) (by repeat' first|exact bo2|refine xqI rfl rfl ?_|refine xqP (by omega) rfl rfl ?_|refine xqO (by omega) rfl rfl (by rfl) ?_|fail) ⟨⟨by simp,by simp[sgL],_,rfl,aP (by repeat' first|exact bo2| (with_reducible first|exact bo4|apply bo5)| ((with_reducible apply bo0);exact bpB (by omega) rfl rfl (by rfl) rfl)|fail)⟩,⟨by simp,by simp[sgL],_,rfl,bP (aG bF _) rfl rfl⟩,⟨by simp,by simp[sgL],_,rfl,bP (aG bF _) (congrArg _ (ai.symm.trans (Z _ (by rw[if_neg (by assumption)]))).symm) rfl⟩,⟨by simp,by simp[sgL],_,rfl,bS e⟩,⟨by simp,by simp[sgL],_,rfl,bS g⟩,⟨by simp,by simp[sgL],_,rfl,bS i⟩,⟨by simp,by simp[sgL],_,rfl,bS j⟩,⟨by simp,by simp[sgL],_,rfl,aP (by repeat' first|exact bo2| (with_reducible first|exact bo4|apply bo5)| ((with_reducible apply bo0);first|exact bo9 rfl|exact bpA)|fail)⟩,⟨by simp,by simp[sgL],_,rfl,aP (by repeat' first|exact bo2| (with_reducible first|exact bo4|apply bo5)| ((with_reducible apply bo0);first|exact bo9 rfl|exact bpA)|fail)⟩,trivial⟩ (by simp[sgL]))) (by omega) (by omega)
    ·repeat' first|apply bn1<;>(simp only[go_sem])|apply bn3 (by omega)|fail
     have B:k=s.holds.length:=(by omega);subst B;(refine y _ _ _ _ _ 7 (boR (tG ⟨q.id,code,[]⟩)) (hp [(0,⟨6,1,[oIm 1 2 3 4 5 6 c0 c1 c2 c3 c4 c5 s]⟩),(1,⟨1,z,(FV s.words all q.data q.g6 all.length).map aJ⟩),(2,⟨1,m1,(iU s.holds all).map aJ⟩),(3,bqD),(4,bqE),(5,bqF),(6,blC)]) _ _ (.inr rfl) rfl (fU [0,1,2,3,4,5,6] (by omega) (by repeat' first|exact bo2| ((with_reducible apply bo0);first|exact bo9 rfl|exact bpE)| ((with_reducible apply bo1);apply bo6)|exact bo4|apply bo5|fail) ⟨⟨by simp,by simp[sgL],_,rfl,aP (by repeat' first|exact bo2| (with_reducible first|exact bo4|apply bo5)| ((with_reducible apply bo0);exact bpB (by omega) rfl rfl (by rfl) rfl)|apply bo5|fail)⟩,⟨by simp,by simp[sgL],_,rfl,bP (aG bF _) rfl rfl⟩,⟨by simp,by simp[sgL],_,rfl,bP (aG bF _) (congrArg _ ahC.symm) rfl⟩,⟨by simp,by simp[sgL],_,rfl,bS e⟩,⟨by simp,by simp[sgL],_,rfl,bS g⟩,⟨by simp,by simp[sgL],_,rfl,bS i⟩,⟨by simp,by simp[sgL],_,rfl,bS j⟩,trivial⟩ (by simp[sgL])) ?_);exact⟨rfl,rfl,rfl⟩
 have aj:wrM q=false:=by simpa using E
 have ak:q.kind=1∨q.kind=3:=by have U: ¬(q.kind=2∨q.kind=4):=fun h=>E (G.2 h);omega
 simp only[oIm]
 repeat' first| (first|apply bn1|apply bpK (by omega)|apply A|apply T|apply gH)<;>(simp only[go_sem,aj];try simp (disch:=omega) only[Iw])|apply bn3 (by omega)|refine⟨by omega,?_⟩|fail
 refine aM.sG 0 (β:=Nat) (fun b k=>en [(76,boP k),(75,boP all.length),(74,dS (all.map aJ)),(11,.one (.c (.ptr 1 2 (who*2+q.id).toNat 0))),(10,bkP 3 16),(8,bkP 3 8),(7,bkP 7 7),(0,bkP 6 0)])
  (fun b k=>hp [(0,⟨6,1,[[.osl 1 1 0 s.words.length c0,.osl 1 2 0 s.holds.length c1,.osl 1 3 0 s.asked.length c2,.osl 5 4 0 s.wait.length c3,.osl 5 5 0 s.done.length c4,.osl 5 6 0 s.told.length c5]]⟩),(1,⟨1,z,(s.words).map aJ⟩),(2,⟨1,m1,(s.holds).map aJ⟩),(3,bqD),(4,bqE),(5,bqF),(6,blC),(7,⟨7,1,[eB q]⟩),(8,⟨3,1,[[cI 0,cI 0,.osl 0 0 0 0 0]]⟩),(16,⟨3,1,[[cI q.id,cI 1,.osl 1 62 0 all.length all.length]]⟩),(62,⟨1,all.length,((List.range k).map (fun k=>s.words.getD (all.getD k default).toNat default)++List.replicate (all.length-k) (0:Int)).map aJ⟩)])
  (fun k=>k≤all.length) (fun k=>all.length-k) 0
  (by(refine cR [0,1,2,3,4,5,6,7,8,16,62] (by omega) (by repeat' first|exact bo2|refine xqI rfl rfl ?_|refine xqP (by omega) rfl rfl ?_|fail) ⟨⟨by simp,by simp[sgL],_,rfl,aP (by repeat' first|exact bo2| (with_reducible first|exact bo4|apply bo5)| ((with_reducible apply bo0);exact bpB (by omega) rfl rfl (by rfl) rfl)|fail)⟩,⟨by simp,by simp[sgL],_,rfl,bP (aG bF _) rfl rfl⟩,⟨by simp,by simp[sgL],_,rfl,bP (aG bF _) rfl rfl⟩,⟨by simp,by simp[sgL],_,rfl,bS e⟩,⟨by simp,by simp[sgL],_,rfl,bS g⟩,⟨by simp,by simp[sgL],_,rfl,bS i⟩,⟨by simp,by simp[sgL],_,rfl,bS j⟩,⟨by simp,by simp[sgL],_,rfl,aP (GW fun x J=>w2.1 (rL q).2 x J)⟩,⟨by simp,by simp[sgL],_,rfl,aP (by repeat' first|exact bo2| (with_reducible first|exact bo4|apply bo5)| ((with_reducible apply bo0);first|exact bo9 rfl|exact bpA)|fail)⟩,⟨by simp,by simp[sgL],_,rfl,aP (by repeat' first|exact bo2| (with_reducible first|exact bo4|apply bo5)| ((with_reducible apply bo0);first|exact bo9 rfl|exact bpB (by omega) rfl rfl (by rfl) rfl)|fail)⟩,⟨by simp,by simp[sgL],_,rfl,bP (aG bF _) (by simp[aJ]) rfl⟩,trivial⟩ (by simp[sgL]))) (by omega) ?_
 intro k F bpQ L
 have C:((List.range k).map (fun k=>s.words.getD (all.getD k default).toNat default)++List.replicate (all.length-k) (0:Int)).length=all.length:=by simp;omega
 by_cases t:k<all.length
 ·have hb:=HB S t;have al:=fun x=>XT (f:=fun k=>s.words.getD (all.getD k default).toNat default) (x:=x) t;repeat' first|apply bn1<;>(simp only[go_sem,C];try simp (disch:=omega) only[Iw])|apply bn2 (by omega)|refine⟨by omega,?_⟩|fail
  exact L _ _ _ (k+1) (by omega) (by(refine cR [0,1,2,3,4,5,6,7,8,16,62] (by omega) (by repeat' first|exact bo2|refine xqI rfl rfl ?_|refine xqP (by omega) rfl rfl ?_|fail) ⟨⟨by simp,by simp[sgL],_,rfl,aP (by repeat' first|exact bo2| (with_reducible first|exact bo4|apply bo5)| ((with_reducible apply bo0);exact bpB (by omega) rfl rfl (by rfl) rfl)|fail)⟩,⟨by simp,by simp[sgL],_,rfl,bP (aG bF _) rfl rfl⟩,⟨by simp,by simp[sgL],_,rfl,bP (aG bF _) rfl rfl⟩,⟨by simp,by simp[sgL],_,rfl,bS e⟩,⟨by simp,by simp[sgL],_,rfl,bS g⟩,⟨by simp,by simp[sgL],_,rfl,bS i⟩,⟨by simp,by simp[sgL],_,rfl,bS j⟩,⟨by simp,by simp[sgL],_,rfl,aP (GW fun x J=>w2.1 (rL q).2 x J)⟩,⟨by simp,by simp[sgL],_,rfl,aP (by repeat' first|exact bo2| (with_reducible first|exact bo4|apply bo5)| ((with_reducible apply bo0);first|exact bo9 rfl|exact bpA)|fail)⟩,⟨by simp,by simp[sgL],_,rfl,aP (by repeat' first|exact bo2| (with_reducible first|exact bo4|apply bo5)| ((with_reducible apply bo0);first|exact bo9 rfl|exact bpB (by omega) rfl rfl (by rfl) rfl)|fail)⟩,⟨by simp,by simp[sgL],_,rfl,bP (aG bF _) (congrArg _ (al _ rfl).symm) rfl⟩,trivial⟩ (by simp[sgL]))) (by omega) (by omega)
 ·have B:k=all.length:=by omega
  subst B;repeat' first|apply bn1<;>(simp only[go_sem,C])|apply bn3 (by omega)|refine bnE (fun h=> ?_) fun h=> ?_|refine⟨by omega,?_⟩|fail
  ·have M:(List.range all.length).map (fun k=>s.words.getD (all.getD k default).toNat default)++List.replicate (all.length-all.length) (0:Int)=all.map fun a=>s.words.getD a.toNat default:=by rw[aqI];simp
   rw[M];rw[amK u (by assumption),d] at y;(refine y _ _ _ _ _ 7 (boR (tG ⟨q.id,2,all.map fun a=>s.words.getD a.toNat default⟩)) (hp [(0,⟨6,1,[oIm 1 2 3 4 5 6 c0 c1 c2 c3 c4 c5 s]⟩),(1,⟨1,z,(s.words).map aJ⟩),(2,⟨1,m1,(s.holds.set (who*2+q.id).toNat q.addr).map aJ⟩),(3,bqD),(4,bqE),(5,bqF),(6,blC)]) _ _ (.inr rfl) rfl (fU [0,1,2,3,4,5,6] (by omega) (aH (bB rfl) (aH (bB rfl) (aH (bW (l:=all.map fun a=>s.words.getD a.toNat default) bF rfl (by simp) (by simp) (by simp)) eP))) ⟨⟨by simp,by simp[sgL],_,rfl,aP (by repeat' first|exact bo2| (with_reducible first|exact bo4|apply bo5)| ((with_reducible apply bo0);exact bpB (by omega) rfl rfl (by rfl) rfl)|apply bo5|fail)⟩,⟨by simp,by simp[sgL],_,rfl,bP (aG bF _) rfl rfl⟩,⟨by simp,by simp[sgL],_,rfl,bP (aG bF _) rfl rfl⟩,⟨by simp,by simp[sgL],_,rfl,bS e⟩,⟨by simp,by simp[sgL],_,rfl,bS g⟩,⟨by simp,by simp[sgL],_,rfl,bS i⟩,⟨by simp,by simp[sgL],_,rfl,bS j⟩,trivial⟩ (by simp[sgL])) ?_);exact⟨rfl,rfl,rfl⟩
  ·have M:(List.range all.length).map (fun k=>s.words.getD (all.getD k default).toNat default)++List.replicate (all.length-all.length) (0:Int)=all.map fun a=>s.words.getD a.toNat default:=by rw[aqI];simp
   rw[M];rw[akI u (by omega),d] at y;(refine y _ _ _ _ _ 7 (boR (tG ⟨q.id,1,all.map fun a=>s.words.getD a.toNat default⟩)) (hp [(0,⟨6,1,[oIm 1 2 3 4 5 6 c0 c1 c2 c3 c4 c5 s]⟩),(1,⟨1,z,(s.words).map aJ⟩),(2,⟨1,m1,(s.holds).map aJ⟩),(3,bqD),(4,bqE),(5,bqF),(6,blC)]) _ _ (.inr rfl) rfl (fU [0,1,2,3,4,5,6] (by omega) (aH (bB rfl) (aH (bB rfl) (aH (bW (l:=all.map fun a=>s.words.getD a.toNat default) bF rfl (by simp) (by simp) (by simp)) eP))) ⟨⟨by simp,by simp[sgL],_,rfl,aP (by repeat' first|exact bo2| (with_reducible first|exact bo4|apply bo5)| ((with_reducible apply bo0);exact bpB (by omega) rfl rfl (by rfl) rfl)|apply bo5|fail)⟩,⟨by simp,by simp[sgL],_,rfl,bP (aG bF _) rfl rfl⟩,⟨by simp,by simp[sgL],_,rfl,bP (aG bF _) rfl rfl⟩,⟨by simp,by simp[sgL],_,rfl,bS e⟩,⟨by simp,by simp[sgL],_,rfl,bS g⟩,⟨by simp,by simp[sgL],_,rfl,bS i⟩,⟨by simp,by simp[sgL],_,rfl,bS j⟩,trivial⟩ (by simp[sgL])) ?_);exact⟨rfl,rfl,rfl⟩
variable{s:TSt}{c0 c1 c2 c3 c4 c5 i0 i1 i2 i3 i4 i5:Nat}
theorem aw4{m:List Rng}{who:Int}{q:Req}{e m1 az6:Nat}{bqD bqE bqF blC:bA} (f:m.length<2^21) (n:WK s.words s.holds) (g:s.words.length≤c0) (i:s.holds.length≤c1) (hw:0≤who∧who≤2) (o:dH q) (a:C7 bqD) (b:C7 bqE) (c:C7 bqF) (d:C7 blC)
 (p:i0<nx∧i1<nx∧i2<nx∧i3<nx∧i4<nx∧i5<nx∧az6<nx) (j:[i0,i1,i2,i3,i4,i5,az6].Nodup) (t:H i0=some ⟨6,1,[oIm i1 i2 i3 i4 i5 az6 c0 c1 c2 c3 c4 c5 s]⟩) (u:H i1=some ⟨1,e,s.words.map aJ⟩) (v:H i2=some ⟨1,m1,s.holds.map aJ⟩) (w:H i3=some bqD) (y:H i4=some bqE) (z:H i5=some bqF) (A:H az6=some blC)
 (h:K (boR (tG (doM m s.words s.holds who q).2)) (((((((H.set i0 ⟨6,1,[oIm i1 i2 i3 i4 i5 az6 c0 c1 c2 c3 c4 c5 s]⟩).set i1 ⟨1,e,(doM m s.words s.holds who q).1.1.map aJ⟩).set i2 ⟨1,m1,(doM m s.words s.holds who q).1.2.map aJ⟩).set i3 bqD).set i4 bqE).set i5 bqF).set az6 blC) nx):aB Tryz.prog pL [bkP 6 i0,dS (m.map eN),boP who,boR (eB q)] H nx K:=by
 refine(aw7 m s who q c0 c1 c2 c3 c4 c5 e m1 bqD bqE bqF blC f n g i hw o a b c d).AF [i0,i1,i2,i3,i4,i5,az6] rfl ⟨DG (by simp) rfl,aE rfl,aE rfl,aE rfl,trivial⟩ ?_ ?_ ?_ j fun r H' I _ ⟨B,C,D⟩=> ?_
 ·refine⟨⟨by simp,id,_,t,aP ?_⟩,⟨by simp,id,_,u,bP (aG bF _) rfl rfl⟩,⟨by simp,id,_,v,bP (aG bF _) rfl rfl⟩,⟨by simp,id,_,w,bS a⟩,⟨by simp,id,_,y,bS b⟩,⟨by simp,id,_,z,bS c⟩,⟨by simp,id,_,A,bS d⟩,trivial⟩;unfold oIm;exact aH (aaF (by simp) rfl rfl rfl rfl) (aH (aaF (by simp) rfl rfl rfl rfl) (aH (aaF (by simp) rfl rfl rfl rfl) (aH (aaF (by simp) rfl rfl rfl rfl) (aH (aaF (by simp) rfl rfl rfl rfl) (aH (aaF (by simp) rfl rfl rfl rfl) eP)))))
 ·exact j
 ·intro x E;simp only[t3,bq7,or_false] at E;omega
 ·subst B;subst C;subst D;generalize (doM m s.words s.holds who q)=F at*;obtain⟨⟨k,l⟩,r'⟩:=F;have boU:bA.rn (tau 7 nx (nth [i0,i1,i2,i3,i4,i5,az6])) ⟨6,1,[oIm 1 2 3 4 5 6 c0 c1 c2 c3 c4 c5 s]⟩=⟨6,1,[oIm i1 i2 i3 i4 i5 az6 c0 c1 c2 c3 c4 c5 s]⟩:=rfl;have G:back (tau 7 nx (nth [i0,i1,i2,i3,i4,i5,az6])) (hp [(0,⟨6,1,[oIm 1 2 3 4 5 6 c0 c1 c2 c3 c4 c5 s]⟩),(1,⟨1,e,k.map aJ⟩),(2,⟨1,m1,l.map aJ⟩),(3,bqD),(4,bqE),(5,bqF),(6,blC)]) 7 H=(((((((H.set i0 ⟨6,1,[oIm i1 i2 i3 i4 i5 az6 c0 c1 c2 c3 c4 c5 s]⟩).set i1 ⟨1,e,k.map aJ⟩).set i2 ⟨1,m1,l.map aJ⟩).set i3 bqD).set i4 bqE).set i5 bqF).set az6 blC):=by simp only[back,hp,aA.set,Option.map_some,boU,uB,rF a,rF b,rF c,rF d,aA.eL,if_true,Nat.reduceEqDiff,if_false,reduceIte];rfl
  rw[←G] at h;exact h
theorem awS (c:Cfg) (s:TSt) (e:Ev) (c0 c1 c2 c3 c4 c5 z m1 bp3 bqM bqN bqQ:Nat) (A:aQ c) (f:BA c s) (B:X6 c s e=0) (Y:s.words.length≤c0∧s.holds.length≤c1∧s.asked.length≤c2∧s.wait.length≤c3∧s.done.length≤c4∧s.told.length≤c5) (hm:c3≤bqM∧c4≤bqN∧c5≤bqQ):
 aB Tryz.prog auD [boR (cU c),bkP 6 0,boR (eEv e)] (hp [(0,⟨6,1,[oIm 1 2 3 4 5 6 c0 c1 c2 c3 c4 c5 s]⟩),(1,⟨1,z,s.words.map aJ⟩),(2,⟨1,m1,s.holds.map aJ⟩),(3,⟨1,bp3,s.asked.map aJ⟩),(4,⟨5,bqM,s.wait.map aS⟩),(5,⟨5,bqN,s.done.map aS⟩),(6,⟨5,bqQ,s.told.map aS⟩)]) 7
 fun r H' Z=>∃o p t C D E,((lS c s e).wait.length≤o∧(lS c s e).done.length≤p∧(lS c s e).told.length≤t)∧(o≤C∧p≤D∧t≤E)∧Z=10∧
  H'=hp [(0,⟨6,1,[oIm 1 2 3 7 8 9 c0 c1 c2 o p t (lS c s e)]⟩),(1,⟨1,z,(lS c s e).words.map aJ⟩),(2,⟨1,m1,(lS c s e).holds.map aJ⟩),(3,⟨1,bp3,(lS c s e).asked.map aJ⟩),(7,⟨5,C,(lS c s e).wait.map aS⟩),(8,⟨5,D,(lS c s e).done.map aS⟩),(9,⟨5,E,(lS c s e).told.map aS⟩)]∧r= .tup []:=by
 have hl:=f.lens A
 have hf:=f.fit A
 obtain⟨aa,F⟩:=hC A
 have ab:=f.atm.wl
 have ad:=f.atm.hl
 have ae:=f.JI
 have T:=A.1.1
 have U:=F e.who.toNat
 obtain⟨N,O,af,j,k,G⟩:=Y
 obtain⟨u,v,H⟩:=hm
 obtain⟨I,w⟩:=M8 B
 have x:=GK A I
 obtain⟨P,ag⟩:=I
 have R:=ab0 f.nodup
 have ah:=f.DC e.who.toNat (by omega)
 refine awG rfl fun Q y=> ?_
 unfold auM
 simp only[oIm]
 rcases w with⟨V,hi⟩|⟨V,hi⟩|⟨V,hi⟩
 ·have g:(e.who,e.n)∉s.wait.map key:=fun hm=>by
   have:=(f.ab8 (e.who,e.n) (by simp only[keys,bqX];exact brA _ (brA _ hm))).2.2
   dsimp only at this;omega
  repeat' first| (first|apply bn1|refine ax1 (by omega) f.NR g j u (by omega) rfl (fun b J K L=> ?_))<;>(simp only[go_sem];try simp (disch:=omega) only[Iw])|apply bn2 (by omega)|refine⟨by omega,?_⟩|fail
  have h:lS c s e=({s with asked:=s.asked.set e.who.toNat (e.n+1),wait:=BM s.wait ⟨e.who,e.n,oW⟩}:TSt):=by simp only[lS];rw[if_pos (by assumption)]
  have S:s.asked.getD e.who.toNat default+1=e.n+1:=by omega
  rw[S]
  rw[h] at y
  try apply aM.nil
  (refine y _ _ _ _ _ 10 (.tup []) (hp [(0,⟨6,1,[oIm 1 2 3 7 8 9 c0 c1 c2 b c4 c5 ({s with asked:=s.asked.set e.who.toNat (e.n+1),wait:=BM s.wait ⟨e.who,e.n,oW⟩}:TSt)]⟩),(1,⟨1,z,({s with asked:=s.asked.set e.who.toNat (e.n+1),wait:=BM s.wait ⟨e.who,e.n,oW⟩}:TSt).words.map aJ⟩),(2,⟨1,m1,({s with asked:=s.asked.set e.who.toNat (e.n+1),wait:=BM s.wait ⟨e.who,e.n,oW⟩}:TSt).holds.map aJ⟩),(3,⟨1,bp3,({s with asked:=s.asked.set e.who.toNat (e.n+1),wait:=BM s.wait ⟨e.who,e.n,oW⟩}:TSt).asked.map aJ⟩),(7,⟨5,J,({s with asked:=s.asked.set e.who.toNat (e.n+1),wait:=BM s.wait ⟨e.who,e.n,oW⟩}:TSt).wait.map aS⟩),(8,⟨5,bqN,({s with asked:=s.asked.set e.who.toNat (e.n+1),wait:=BM s.wait ⟨e.who,e.n,oW⟩}:TSt).done.map aS⟩),(9,⟨5,bqQ,({s with asked:=s.asked.set e.who.toNat (e.n+1),wait:=BM s.wait ⟨e.who,e.n,oW⟩}:TSt).told.map aS⟩)]) _ _ (.inl rfl) rfl (fU [38,5,6,0,1,2,3] (by omega) (by repeat' ((with_reducible apply bo1);exact bo8 rfl)) ⟨⟨by simp,by simp[sgL],_,rfl,aP (by unfold oIm;repeat' first|exact bo2| (with_reducible first|exact bo4|apply bo5)| ((with_reducible apply bo0);(exact bpB (by omega) rfl rfl (by first|rfl| (simp;done)) rfl))|fail)⟩,⟨by simp,by simp[sgL],_,rfl,bP (aG bF _) rfl rfl⟩,⟨by simp,by simp[sgL],_,rfl,bP (aG bF _) rfl rfl⟩,⟨by simp,by simp[sgL],_,rfl,bP (aG bF _) rfl rfl⟩,⟨by simp,by simp[sgL],_,rfl,bP (aG dZ _) rfl rfl⟩,⟨by simp,by simp[sgL],_,rfl,bP (aG dZ _) rfl rfl⟩,⟨by simp,by simp[sgL],_,rfl,bP (aG dZ _) rfl rfl⟩,trivial⟩ (by simp[sgL])) ?_)
  exact⟨b,c4,c5,J,bqN,bqQ,⟨K,k,G⟩,⟨L,v,H⟩,rfl,rfl,rfl⟩
 ·have d:=pW hi;have g:(e.who,e.n)∉s.done.map key:=R _ (CF.2 ⟨_,cC d.1,d.2⟩);repeat' first| (first|apply bn1|refine avT (l:=s.wait) (by omega) (yP dZ rfl rfl j trivial) ?_|refine auH (by omega) hi d.1 j u (by omega) rfl (fun a i K L=> ?_)|refine aw4 (s:=({s with wait:=MT s.wait (bK (iM e.who e.n) s.wait).toNat}:TSt)) (c0:=c0) (c1:=c1) (c2:=c2) (c3:=a) (c4:=c4) (c5:=c5) (m:=c.map) (q:=bT c e.who e.n) (by omega) f.atm N O P x (oB bF _) (oB dZ _) (oB dZ _) (oB dZ _) (by omega) (by simp) rfl rfl rfl rfl rfl rfl rfl ?_|refine ax7 (by omega) f.NW g k v (by omega) rfl (fun b J q3 q4=> ?_))<;>(simp only[go_sem,oIm];try simp (disch:=omega) only[Iw])|apply bn2 (by omega)|apply bn3 (by omega)|refine⟨by omega,?_⟩|fail
  have h:lS c s e=({s with words:=(doM c.map s.words s.holds e.who (bT c e.who e.n)).1.1,holds:=(doM c.map s.words s.holds e.who (bT c e.who e.n)).1.2,wait:=MT s.wait (bK (iM e.who e.n) s.wait).toNat,done:=BM s.done ⟨e.who,e.n,(doM c.map s.words s.holds e.who (bT c e.who e.n)).2⟩}:TSt):=by simp only[lS];rw[if_neg (by omega),if_pos (by assumption)]
  have W:=(ao7 (m:=c.map) (who:=e.who) f.atm x).wl;have X:=(ao7 (m:=c.map) (who:=e.who) f.atm x).hl;rw[h] at y;try apply aM.nil
  (refine y _ _ _ _ _ 10 (.tup []) (hp [(0,⟨6,1,[oIm 1 2 3 7 8 9 c0 c1 c2 a b c5 ({s with words:=(doM c.map s.words s.holds e.who (bT c e.who e.n)).1.1,holds:=(doM c.map s.words s.holds e.who (bT c e.who e.n)).1.2,wait:=MT s.wait (bK (iM e.who e.n) s.wait).toNat,done:=BM s.done ⟨e.who,e.n,(doM c.map s.words s.holds e.who (bT c e.who e.n)).2⟩}:TSt)]⟩),(1,⟨1,z,({s with words:=(doM c.map s.words s.holds e.who (bT c e.who e.n)).1.1,holds:=(doM c.map s.words s.holds e.who (bT c e.who e.n)).1.2,wait:=MT s.wait (bK (iM e.who e.n) s.wait).toNat,done:=BM s.done ⟨e.who,e.n,(doM c.map s.words s.holds e.who (bT c e.who e.n)).2⟩}:TSt).words.map aJ⟩),(2,⟨1,m1,({s with words:=(doM c.map s.words s.holds e.who (bT c e.who e.n)).1.1,holds:=(doM c.map s.words s.holds e.who (bT c e.who e.n)).1.2,wait:=MT s.wait (bK (iM e.who e.n) s.wait).toNat,done:=BM s.done ⟨e.who,e.n,(doM c.map s.words s.holds e.who (bT c e.who e.n)).2⟩}:TSt).holds.map aJ⟩),(3,⟨1,bp3,({s with words:=(doM c.map s.words s.holds e.who (bT c e.who e.n)).1.1,holds:=(doM c.map s.words s.holds e.who (bT c e.who e.n)).1.2,wait:=MT s.wait (bK (iM e.who e.n) s.wait).toNat,done:=BM s.done ⟨e.who,e.n,(doM c.map s.words s.holds e.who (bT c e.who e.n)).2⟩}:TSt).asked.map aJ⟩),(7,⟨5,i,({s with words:=(doM c.map s.words s.holds e.who (bT c e.who e.n)).1.1,holds:=(doM c.map s.words s.holds e.who (bT c e.who e.n)).1.2,wait:=MT s.wait (bK (iM e.who e.n) s.wait).toNat,done:=BM s.done ⟨e.who,e.n,(doM c.map s.words s.holds e.who (bT c e.who e.n)).2⟩}:TSt).wait.map aS⟩),(8,⟨5,J,({s with words:=(doM c.map s.words s.holds e.who (bT c e.who e.n)).1.1,holds:=(doM c.map s.words s.holds e.who (bT c e.who e.n)).1.2,wait:=MT s.wait (bK (iM e.who e.n) s.wait).toNat,done:=BM s.done ⟨e.who,e.n,(doM c.map s.words s.holds e.who (bT c e.who e.n)).2⟩}:TSt).done.map aS⟩),(9,⟨5,bqQ,({s with words:=(doM c.map s.words s.holds e.who (bT c e.who e.n)).1.1,holds:=(doM c.map s.words s.holds e.who (bT c e.who e.n)).1.2,wait:=MT s.wait (bK (iM e.who e.n) s.wait).toNat,done:=BM s.done ⟨e.who,e.n,(doM c.map s.words s.holds e.who (bT c e.who e.n)).2⟩}:TSt).told.map aS⟩)]) _ _ (.inl rfl) rfl (fU [37,70,6,0,1,2,3] (by omega) (by repeat' ((with_reducible apply bo1);exact bo8 rfl)) ⟨⟨by simp,by simp[sgL],_,rfl,aP (by unfold oIm;repeat' first|exact bo2| (with_reducible first|exact bo4|apply bo5)| ((with_reducible apply bo0);(exact bpB (by omega) rfl rfl (by first|rfl| (dsimp only;omega)) rfl))|fail)⟩,⟨by simp,by simp[sgL],_,rfl,bP (aG bF _) rfl rfl⟩,⟨by simp,by simp[sgL],_,rfl,bP (aG bF _) rfl rfl⟩,⟨by simp,by simp[sgL],_,rfl,bP (aG bF _) rfl rfl⟩,⟨by simp,by simp[sgL],_,rfl,bP (aG dZ _) rfl rfl⟩,⟨by simp,by simp[sgL],_,rfl,bP (aG dZ _) rfl rfl⟩,⟨by simp,by simp[sgL],_,rfl,bP (aG dZ _) rfl rfl⟩,trivial⟩ (by simp[sgL])) ?_);exact⟨a,b,c5,i,J,bqQ,⟨K,q3,G⟩,⟨L,q4,H⟩,rfl,rfl,rfl⟩
 ·have d:=pW hi;repeat' first| (first|apply bn1|refine avT (l:=s.done) (by omega) (yP dZ rfl rfl k trivial) ?_|refine auH (by omega) hi d.1 k v (by omega) rfl (fun a i K L=> ?_))<;>(simp only[go_sem];try simp (disch:=omega) only[Iw])|apply bn2 (by omega)|apply bn3 (by omega)| (with_reducible first|refine fun(cap:Nat) (M:_≤cap)=> ?_|refine fun(ai:_≤cap)=> ?_)|refine⟨by omega,?_⟩|fail
  have h:lS c s e=({s with told:=s.told++[s.done.getD (bK (iM e.who e.n) s.done).toNat default],done:=MT s.done (bK (iM e.who e.n) s.done).toNat}:TSt):=by simp only[lS];rw[if_neg (by omega),if_neg (by omega)]
  rw[h] at y;try apply aM.nil
  (refine y _ _ _ _ _ 10 (.tup []) (hp [(0,⟨6,1,[oIm 1 2 3 7 8 9 c0 c1 c2 c3 a cap ({s with told:=s.told++[s.done.getD (bK (iM e.who e.n) s.done).toNat default],done:=MT s.done (bK (iM e.who e.n) s.done).toNat}:TSt)]⟩),(1,⟨1,z,({s with told:=s.told++[s.done.getD (bK (iM e.who e.n) s.done).toNat default],done:=MT s.done (bK (iM e.who e.n) s.done).toNat}:TSt).words.map aJ⟩),(2,⟨1,m1,({s with told:=s.told++[s.done.getD (bK (iM e.who e.n) s.done).toNat default],done:=MT s.done (bK (iM e.who e.n) s.done).toNat}:TSt).holds.map aJ⟩),(3,⟨1,bp3,({s with told:=s.told++[s.done.getD (bK (iM e.who e.n) s.done).toNat default],done:=MT s.done (bK (iM e.who e.n) s.done).toNat}:TSt).asked.map aJ⟩),(7,⟨5,bqM,({s with told:=s.told++[s.done.getD (bK (iM e.who e.n) s.done).toNat default],done:=MT s.done (bK (iM e.who e.n) s.done).toNat}:TSt).wait.map aS⟩),(8,⟨5,i,({s with told:=s.told++[s.done.getD (bK (iM e.who e.n) s.done).toNat default],done:=MT s.done (bK (iM e.who e.n) s.done).toNat}:TSt).done.map aS⟩),(9,⟨5,cap,({s with told:=s.told++[s.done.getD (bK (iM e.who e.n) s.done).toNat default],done:=MT s.done (bK (iM e.who e.n) s.done).toNat}:TSt).told.map aS⟩)]) _ _ (.inl rfl) rfl (fU [4,56,40,0,1,2,3] (by omega) (by repeat' ((with_reducible apply bo1);exact bo8 rfl)) ⟨⟨by simp,by simp[sgL],_,rfl,aP (by unfold oIm;repeat' first|exact bo2| (with_reducible first|exact bo4|apply bo5)| ((with_reducible apply bo0);(exact bpB (by omega) rfl rfl (by first|rfl| (simp;done)) rfl))|fail)⟩,⟨by simp,by simp[sgL],_,rfl,bP (aG bF _) rfl rfl⟩,⟨by simp,by simp[sgL],_,rfl,bP (aG bF _) rfl rfl⟩,⟨by simp,by simp[sgL],_,rfl,bP (aG bF _) rfl rfl⟩,⟨by simp,by simp[sgL],_,rfl,bP (aG dZ _) rfl rfl⟩,⟨by simp,by simp[sgL],_,rfl,bP (aG dZ _) rfl rfl⟩,⟨by simp,by simp[sgL],_,rfl,bP (aG dZ _) rfl rfl⟩,trivial⟩ (by simp[sgL])) ?_);exact⟨c3,a,cap,bqM,i,cap,⟨j,K,by simpa using M⟩,⟨u,L,m5 _⟩,rfl,rfl,rfl⟩
theorem awO{c:Cfg}{e:Ev}{k m1 bp3 bqM bqN bqQ az6:Nat} (n:aQ c) (o:BA c s) (l:X6 c s e=0) (p:s.words.length≤c0∧s.holds.length≤c1∧s.asked.length≤c2∧s.wait.length≤c3∧s.done.length≤c4∧s.told.length≤c5) (hm:c3≤bqM∧c4≤bqN∧c5≤bqQ)
 (q:i0<nx∧i1<nx∧i2<nx∧i3<nx∧i4<nx∧i5<nx∧az6<nx) (m:[i0,i1,i2,i3,i4,i5,az6].Nodup) (t:H i0=some ⟨6,1,[oIm i1 i2 i3 i4 i5 az6 c0 c1 c2 c3 c4 c5 s]⟩) (u:H i1=some ⟨1,k,s.words.map aJ⟩) (v:H i2=some ⟨1,m1,s.holds.map aJ⟩) (w:H i3=some ⟨1,bp3,s.asked.map aJ⟩) (y:H i4=some ⟨5,bqM,s.wait.map aS⟩) (z:H i5=some ⟨5,bqN,s.done.map aS⟩) (A:H az6=some ⟨5,bqQ,s.told.map aS⟩)
 (h: ∀a b d g i j,((lS c s e).wait.length≤a∧(lS c s e).done.length≤b∧(lS c s e).told.length≤d)→(a≤g∧b≤i∧d≤j)→K (.tup []) ((((((((((H.set i0 ⟨6,1,[oIm i1 i2 i3 nx (nx+1) (nx+2) c0 c1 c2 a b d (lS c s e)]⟩).set i1 ⟨1,k,(lS c s e).words.map aJ⟩).set i2 ⟨1,m1,(lS c s e).holds.map aJ⟩).set i3 ⟨1,bp3,(lS c s e).asked.map aJ⟩).del i4).del i5).del az6).set nx ⟨5,g,(lS c s e).wait.map aS⟩).set (nx+1) ⟨5,i,(lS c s e).done.map aS⟩).set (nx+2) ⟨5,j,(lS c s e).told.map aS⟩) (nx+3)):
 aB Tryz.prog auD [boR (cU c),bkP 6 i0,boR (eEv e)] H nx K:=by
 refine(awS c s e c0 c1 c2 c3 c4 c5 k m1 bp3 bqM bqN bqQ n o l p hm).AF [i0,i1,i2,i3,i4,i5,az6] rfl ⟨aE rfl,DG (by simp) rfl,aE rfl,trivial⟩ ?_ ?_ ?_ m fun r H' J _ ⟨a,b,d,g,i,j,B,C,D,E,F⟩=> ?_
 ·refine⟨⟨by simp,id,_,t,aP ?_⟩,⟨by simp,id,_,u,bP (aG bF _) rfl rfl⟩,⟨by simp,id,_,v,bP (aG bF _) rfl rfl⟩,⟨by simp,id,_,w,bP (aG bF _) rfl rfl⟩,⟨by simp,id,_,y,bP (aG dZ _) rfl rfl⟩,⟨by simp,id,_,z,bP (aG dZ _) rfl rfl⟩,⟨by simp,id,_,A,bP (aG dZ _) rfl rfl⟩,trivial⟩;unfold oIm;exact aH (aaF (by simp) rfl rfl rfl rfl) (aH (aaF (by simp) rfl rfl rfl rfl) (aH (aaF (by simp) rfl rfl rfl rfl) (aH (aaF (by simp) rfl rfl rfl rfl) (aH (aaF (by simp) rfl rfl rfl rfl) (aH (aaF (by simp) rfl rfl rfl rfl) eP)))))
 ·exact m
 ·intro x G;simp only[t3,bq7,or_false] at G;omega
 ·have h:=h a b d g i j B C;subst D;subst E;subst F;generalize lS c s e=f at*;have boU:bA.rn (tau 7 nx (nth [i0,i1,i2,i3,i4,i5,az6])) ⟨6,1,[oIm 1 2 3 7 8 9 c0 c1 c2 a b d f]⟩=⟨6,1,[oIm i1 i2 i3 nx (nx+1) (nx+2) c0 c1 c2 a b d f]⟩:=rfl;have I:back (tau 7 nx (nth [i0,i1,i2,i3,i4,i5,az6])) (hp [(0,⟨6,1,[oIm 1 2 3 7 8 9 c0 c1 c2 a b d f]⟩),(1,⟨1,k,(f).words.map aJ⟩),(2,⟨1,m1,(f).holds.map aJ⟩),(3,⟨1,bp3,(f).asked.map aJ⟩),(7,⟨5,g,(f).wait.map aS⟩),(8,⟨5,i,(f).done.map aS⟩),(9,⟨5,j,(f).told.map aS⟩)]) 10 H=((((((((((H.set i0 ⟨6,1,[oIm i1 i2 i3 nx (nx+1) (nx+2) c0 c1 c2 a b d f]⟩).set i1 ⟨1,k,f.words.map aJ⟩).set i2 ⟨1,m1,f.holds.map aJ⟩).set i3 ⟨1,bp3,f.asked.map aJ⟩).del i4).del i5).del az6).set nx ⟨5,g,f.wait.map aS⟩).set (nx+1) ⟨5,i,f.done.map aS⟩).set (nx+2) ⟨5,j,f.told.map aS⟩):=by simp only[back,hp,aA.set,aA.nil,Option.map_some,Option.map_none,boU,uB,BB,aA.eL,aA.yI,if_true,Nat.reduceEqDiff,if_false,reduceIte];rfl
  rw[←I] at h;exact h
theorem azA{H:aA}{F:Nat→Prop}{σ:Nat→Nat}{nh az6 a m1 bp3 bqM bqN bqQ:Nat} (b:s.words.length≤c0∧s.holds.length≤c1∧s.asked.length≤c2∧s.wait.length≤c3∧s.done.length≤c4∧s.told.length≤c5) (c:H i1=some ⟨1,a,s.words.map aJ⟩) (d:H i2=some ⟨1,m1,s.holds.map aJ⟩) (e:H i3=some ⟨1,bp3,s.asked.map aJ⟩) (f:H i4=some ⟨5,bqM,s.wait.map aS⟩) (g:H i5=some ⟨5,bqN,s.done.map aS⟩) (h:H az6=some ⟨5,bqQ,s.told.map aS⟩)
 (bpR:F i1) (i:F i2) (bpS:F i3) (bpT:F i4) (bpU:F i5) (bpV:F az6):CvL H F σ nh (eSt s) (oIm i1 i2 i3 i4 i5 az6 c0 c1 c2 c3 c4 c5 s):=by
 obtain⟨j,k,l,m,n,o⟩:=b
 exact aH (bW bF c rfl j bpR) (aH (bW bF d rfl k i) (aH (bW bF e rfl l bpS) (aH (bW dZ f rfl m bpT) (aH (bW dZ g rfl n bpU) (aH (bW dZ h rfl o bpV) eP)))))
theorem aoK:(oIm i0 i1 i2 i3 i4 i5 c0 c1 c2 c3 c4 c5 s).length=6:=rfl
theorem aj7:(oIm i0 i1 i2 i3 i4 i5 c0 c1 c2 c3 c4 c5 s).take 6=oIm i0 i1 i2 i3 i4 i5 c0 c1 c2 c3 c4 c5 s:=rfl
theorem akC:(oIm i0 i1 i2 i3 i4 i5 c0 c1 c2 c3 c4 c5 s).drop 6=[]:=rfl
theorem alF{k:Nat}{cs:List D1}:iA cs (k+1) (oIm i0 i1 i2 i3 i4 i5 c0 c1 c2 c3 c4 c5 s)=iA cs (k+1) [.osl 1 i0 0 s.words.length c0,.osl 1 i1 0 s.holds.length c1,.osl 1 i2 0 s.asked.length c2,.osl 5 i3 0 s.wait.length c3,.osl 5 i4 0 s.done.length c4,.osl 5 i5 0 s.told.length c5]:=rfl
attribute [go_sem] aoK aj7 akC alF
end
end Go.Proofs.YtdkfhdmagdaceaaGreat
namespace Go.AM
abbrev TE:=List Job
def IF (l:TE):List D1:=[.isl (l.map aS)]
theorem ag7 {l:TE}:(IF l).length=1:=rfl
theorem aaZ {l:TE}:(IF l).take 1=[.isl (l.map aS)]:=rfl
theorem ZY {l:TE}:(IF l).drop 1=[]:=rfl
theorem ae8 {l:TE} {cs:List D1} {k:Nat}:iA cs (k+1) (IF l)=iA cs (k+1) [.isl (l.map aS)]:=rfl
theorem al7 (l:TE):(IF l).length=1∧(IF l).all D1.dQ=true:=⟨rfl,rfl⟩
attribute [go_sem] ag7 aaZ ZY ae8
end Go.AM
namespace Go.Proofs.YtdkfhdmagdaceaaGreat
open Go Go.AM
attribute [local irreducible] aM wv aB vd wvH
section
variable {H : aA} {nx : Nat} {K : D → aA → Nat → Prop}
variable{l:List Job}
theorem ac0 (h: ∀i,i<l.length→1≤i→ad5 (l.getD (i-1) default) (l.getD i default)<0):kW l:=by
 have a: ∀(d i:Nat) (hi:i+d+1<l.length),uL (l.getD i default) (l.getD (i+d+1) default)=true:=by
  intro d
  induction d with
  |zero=>intro i hi;have:=h (i+1) (by omega) (by omega);rw[E7] at this;simpa using this
  |succ d b=>intro i hi;have g:=b i (by omega);have c:=h (i+d+2) (by omega) (by omega);rw[E7,show i+d+2-1=i+d+1 by omega] at c;rw[show i+(d+1)+1=i+d+2 by omega];rw[qL] at*;omega
 refine Z6.2 fun i j hi e f=> ?_;have:=a (j-i-1) i (by omega);rw[show i+(j-i-1)+1=j by omega] at this;simpa [List.getD,hi,e] using this
theorem IK (hl:l.length<2^21){j:D} (c:CvD H (fun _=>True) id 0 (dS (l.map aS)) j) (h:K (dB (decide (kW l))) H nx):aB Tryz.prog oI [j] H nx K:=by
 refine aB.pure (args0:=[dS (l.map aS)]) (R:=fun n=>n=dB (decide (kW l))) ?_ rfl (aI ⟨c,trivial⟩) (fun r hr=>hr▸h);clear h;refine Q2 rfl fun Q m=> ?_;unfold x7;repeat' first|apply bn1<;>(simp only[go_sem])|fail
 refine aM.sG 0 (β:=Nat) (fun b k=>en [(3,boP k),(0,dS (l.map aS))]) (fun b k=>hp []) (fun k=>(1≤k∧(k≤l.length∨k=1))∧ ∀i,i<k→i<l.length→1≤i→ad5 (l.getD (i-1) default) (l.getD i default)<0) (fun k=>l.length-k) 1 (bU (m5 _) (by repeat' first|exact bo2|refine xqI rfl rfl ?_|fail)) ⟨by omega,fun i hi _ _=>by omega⟩ ?_;rintro k ⟨s,hinv⟩ bpQ d;by_cases a:k<l.length
 ·have o:((k:Int)-1).toNat=k-1:=by omega
  repeat' first| (first|apply bn1|apply xM)<;>(simp only[go_sem,o];try simp (disch:=omega) only[Iw])|apply bn2 (by omega)|refine bnE (fun h=> ?_) fun h=> ?_|refine⟨by omega,?_⟩|fail
  ·refine aZ m (dB false) rfl rfl (j7 fun p=> ?_);have q:=Z6.1 p (k-1) k (by omega) a (by omega);have t:ad5 (l.getD (k-1) default) (l.getD k default)<0:=(by rw[E7];simpa [List.getD,a,show k-1<l.length by omega] using q);omega
  ·exact d _ _ _ (k+1) (by omega) (bU (m5 _) (by repeat' first|exact bo2|refine xqI rfl rfl ?_|fail)) ⟨by omega,fun i hi e f=>by
    rcases br8.1 hi with g|g
    ·exact hinv i g e f
    ·subst g;omega⟩ (by omega)
 ·repeat' first|apply bn1<;>(simp only[go_sem])|apply bn3 (by omega)|fail
  exact aZ m (dB true) rfl rfl (q9 (ac0 fun i hi f=>hinv i (by omega) hi f))
theorem JG{r:Rsp} (hr:r.data.length<2^40) (h:K (dB (decide (r=oW))) H nx):aB Tryz.prog iT [boR (tG r)] H nx K:=by
 refine aB.pure (args0:=[boR (tG r)]) (R:=fun a=>a=dB (decide (r=oW))) ?_ rfl (aI ⟨aE rfl,trivial⟩) (fun r hr=>hr▸h);clear h;refine HU rfl fun Q b=> ?_;unfold nO;repeat' first| (first|apply bn1|refine bpL (fun h=> ?_) fun h=> ?_)<;>(simp only[go_sem])|fail
 all_goals first|with_reducible refine aZ b _ rfl rfl ?_|skip
 all_goals (obtain⟨c,d,e⟩:=r;unfold oW;dsimp only at*;first|exact q9 (by simp_all)|exact j7 (by simp_all)|exact pD (by simp_all)|exact pD (by simp only[Rsp.mk.injEq];rw[←H4];omega))
theorem YD{r:Rsp} (hr:r.data.length<2^40) (h:K (dB (decide (pA r))) H nx):aB Tryz.prog m6 [boR (tG r)] H nx K:=by
 refine aB.pure (args0:=[boR (tG r)]) (R:=fun a=>a=dB (decide (pA r))) ?_ rfl (aI ⟨aE rfl,trivial⟩) (fun r hr=>hr▸h);clear h;refine UX rfl fun Q b=> ?_;unfold z8;repeat' first| (first|apply bn1|refine bpL (fun h=> ?_) fun h=> ?_|apply fE|refine vG hr (aE rfl) ?_)<;>(simp only[go_sem])|fail
 all_goals first|with_reducible refine aZ b _ rfl rfl ?_|skip
 all_goals first|exact j7 (by unfold pA;grind)|exact pD (by unfold pA;grind)|exact q9 (by unfold pA;grind)
theorem HK{r:Rsp} (hr:r.data.length<2^40) (h:K (dB (decide (r=oW))) H nx):aB Tryz.prog iT [.one (.agg [cI r.id,cI r.code,.isl (r.data.map aJ)])] H nx K:=JG hr h
theorem I8{r:Rsp} (hr:r.data.length<2^40) (h:K (dB (decide (pA r))) H nx):aB Tryz.prog m6 [.one (.agg [cI r.id,cI r.code,.isl (r.data.map aJ)])] H nx K:=YD hr h
def UB (l:List Job):List (List Int×Int):=l.map fun j=>([j.who,j.n],1)
theorem alK{j:Job} (h:key j∉l.map key):jT (UB l) [j.who,j.n]=none:=by unfold jT UB;rw[Option.map_eq_none_iff,List.find?_eq_none];intro p hp;obtain⟨x,a,rfl⟩:=CF.1 hp;simp only[List.cons.injEq,and_true,decide_eq_true_eq];intro he;exact h (CF.2 ⟨x,a,by simp[key,he.1,he.2]⟩)
theorem alD{j:Job} (h:key j∉l.map key):vA (UB l) [j.who,j.n] 1=UB (l++[j]):=by
 induction l with
 |nil=>rfl
 |cons x l b=>simp only[n3,t3,not_or] at h;have a: ¬[j.who,j.n]=[x.who,x.n]:=fun he=>h.1 (by simp only[List.cons.injEq,and_true] at he;simp[key,he.1,he.2]);show vA (([x.who,x.n],1)::UB l) _ _=_;simp only[vA,a,if_false,b h.2];rfl
theorem amR:(UB l).length=l.length:=by simp[UB]
theorem alS{l:List Int}{k:Nat} (h:k<l.length):(l.take (k+1)).sum=(l.take k).sum+l.getD k default:=by rw[brQ h,List.sum_append];simp[List.getD,h]
theorem af9{l:List Int} (h:l.length=3):(l.take 3).sum=l.getD 0 default+l.getD 1 default+l.getD 2 default:=by
 match l,h with
 | [a,b,c],_=>simp[List.getD];omega
theorem ZS{w u:List Int} (h:WK w u):JS w u:=⟨⟨by rw[h.wl];rfl,h.wr⟩,by rw[h.hl];rfl,h.hr⟩
theorem HQ{c:Cfg}{s:TSt} (hb:aQ c) (d:BA c s) (h:K (dB true) H nx):aB Tryz.prog j9 [boR (cU c),boR (eSt s)] H nx K:=by
 refine aB.pure (args0:=[boR (cU c),boR (eSt s)]) (R:=fun rr=>rr=dB true) ?_ rfl (aI ⟨aE rfl,aE rfl,trivial⟩) (fun r hr=>hr▸h);clear h;refine GV rfl fun Q hQ=> ?_;unfold mC;obtain⟨T,q⟩:=hC hb;have D:=ZS d.atm;have ax:=d.atm.wl;have ay:=d.atm.hl;have U:=d.JI;have az:=d.lens hb;have V:=d.DC;have W:=af9 U;have aa:=d.count
 have hd: ∀j∈s.wait++s.done++s.told,j.rsp.data.length<2^40:=fun j f=>by
  simp only[o3] at f;rcases f with(f|f)|f;·rw[d.P4 j f];decide
  ·have:=(d.R8 j (by simp[f])).1.2.2.1;omega
  ·have:=(d.R8 j (by simp[f])).1.2.2.1;omega
 repeat' first| (first|apply bn1|apply bpK (by omega)|refine JZ (w:=s.words) (u:=s.holds) (by omega) (by omega) (aE rfl) ?_|refine IK (l:=s.wait) (by omega) (aE rfl) ?_|refine IK (l:=s.done) (by omega) (aE rfl) ?_)<;>(simp only[go_sem,eq_true D,eq_true d.NR,eq_true d.NW])|fail
 refine aM.sG 0 (β:=Nat) (fun b k=>en [(38,boP k),(37,boP s.asked.length),(36,dS (s.asked.map aJ)),(5,boP (s.asked.take k).sum),(3,.one (.c (.fQ (eSt s)))),(2,.one (.c (.fQ (cU c))))]) (fun b k=>.nil) (fun k=>k≤3∧0≤(s.asked.take k).sum∧(s.asked.take k).sum≤12*k) (fun k=>3-k) 0 (bU (m5 _) (by repeat' first|exact bo2|refine xqI rfl rfl ?_| (with_reducible apply bo3)| ((with_reducible apply bo1);exact bpH rfl (by simp) rfl rfl rfl)|fail)) ⟨by omega,by simp,by simp⟩ ?_;rintro k ⟨B,h1,h2⟩ bpQ X;by_cases g:k<3
 ·have hg:=V k g;have y:=alS (l:=s.asked) (k:=k) (by omega);have Y:=q k;repeat' first| (first|apply bn1|apply fE)<;>(simp only[go_sem];try simp (disch:=omega) only[Iw])|apply bn2 (by omega)|apply bn3 (by omega)|refine⟨by omega,?_⟩|fail
  exact X _ _ _ (k+1) (by omega) (by rw[y];exact bU (by omega) (by repeat' first|exact bo2|refine xqI rfl rfl ?_|fail)) ⟨by omega,by rw[y];omega,by rw[y];omega⟩ (by omega)
 have z:k=3:=by omega
 subst z;repeat' first|apply bn1<;>(simp only[go_sem])|apply bn3 (by omega)|fail
 obtain⟨bm8,a⟩: ∃bm8:List TE,bm8=[s.wait,s.done,s.told]:=⟨_,rfl⟩
 have ba:bm8.length=3:=by subst a;rfl
 have E:[[D1.isl (s.wait.map aS)],[D1.isl (s.done.map aS)],[D1.isl (s.told.map aS)]]=bm8.map IF:=by subst a;rfl
 obtain⟨seen,o⟩: ∃seen:Nat→List Job,seen=fun k=>(bm8.take k).flatten:=⟨_,rfl⟩
 have Z:seen 0=[]:=by subst o;rfl
 have ab:(seen 3).length=s.wait.length+s.done.length+s.told.length:=by subst o;subst a;simp;omega
 have ad: ∀k,k<3→seen (k+1)=seen k++bm8.getD k default:=fun k B=>by subst o;simp only;rw[brQ (by omega),List.flatten_append];simp[List.getD,show k<bm8.length by omega]
 have ae: ∀k,k<3→((seen k++bm8.getD k default).map key).Nodup:=fun k B=>by
  have C:=d.nodup;unfold keys at C;have:k=0∨k=1∨k=2:=by omega
  subst o;subst a;rcases this with rfl|rfl|rfl
  ·have:(s.wait.map key).Nodup:=by
    simp only[bqX,C0] at C;exact(brG.1 C).1
   simpa [List.getD] using this
  ·have:((s.wait++s.done).map key).Nodup:=by
    rw[bqX] at C;exact(brG.1 C).1
   simpa [List.getD] using this
  ·simpa [List.getD] using C
 have F: ∀k,k<3→∀j∈bm8.getD k default,j∈s.wait++s.done++s.told:=fun k B j f=>by
  have:k=0∨k=1∨k=2:=by omega
  subst a;rcases this with rfl|rfl|rfl<;>(simp[List.getD] at f;simp[f])
 have af: ∀j∈bm8.getD 0 default,j.rsp=oW:=fun j f=>by subst a;simp[List.getD] at f;exact d.P4 j f
 have ag: ∀k,k<3→0<k→∀j∈bm8.getD k default,pA j.rsp∧j.rsp.id=(bT c j.who j.n).id:=fun k B h0 j f=>by
  have:k=1∨k=2:=by omega
  subst a;rcases this with rfl|rfl<;>(simp[List.getD] at f;exact d.R8 j (by simp[f]))
 have ah: ∀k,k<3→(bm8.getD k default).length≤36:=fun k B=>by
  have:k=0∨k=1∨k=2:=by omega
  subst a;rcases this with rfl|rfl|rfl<;>(simp[List.getD];omega)
 rw[E];clear E a o;refine aM.sG 1 (β:=Nat) (fun b k=>en [(65,boP k),(64,boP 3),(63,dS (bm8.map IF)),(8,.one (.c (.omap b))),(5,boP (s.asked.take 3).sum),(3,.one (.c (.fQ (eSt s)))),(2,.one (.c (.fQ (cU c))))]) (fun b k=>hp [(b,u4 ⟨2,true,UB (seen k)⟩)]) (fun k=>k≤3) (fun k=>3-k) 0 ?_ (by omega) ?_
 ·refine cR [31] (by omega) ?_ ⟨⟨by simp,by simp[sgL],_,rfl,GH (by rw[Z];rfl)⟩,trivial⟩ (by simp[sgL]);refine oF (oF (oF (oF (oF (oF (oF K6 ?_) ?_) ?_) ?_) ?_) ?_) ?_
  all_goals first
   |exact DJ (rows:=bm8.map IF) (aG al7 bm8) (by simp;omega) (by simp) rfl rfl (boL (by simp)) (by simp;omega)
   |exact apS (aa6 (by omega) rfl)
   | (repeat' ((with_reducible apply bo1);exact bo8 rfl);done)
 intro k B bqG ai;by_cases g:k<3
 ·have t:=ad k g;have p:=ae k g;have G:=F k g;have I:k=0→∀j∈bm8.getD k default,j.rsp=oW:=fun h=>by subst h;exact af
  have J:=ag k g;have aj:=ah k g;generalize L:bm8.getD k default=cur at t p G I J aj;repeat' first|apply bn1<;>(simp only[go_sem,L])|apply bn2 (by omega)|refine⟨by omega,?_⟩|fail
  refine aM.sG 1 (β:=Nat) (fun b i=>en [(72,boP i),(71,boP cur.length),(70,dS (cur.map aS)),(65,boP k),(64,boP 3),(63,dS (bm8.map IF)),(9,boP k),(8,.one (.c (.omap b))),(5,boP (s.asked.take 3).sum),(3,.one (.c (.fQ (eSt s)))),(2,.one (.c (.fQ (cU c))))]) (fun b i=>hp [(b,u4 ⟨2,true,UB (seen k++cur.take i)⟩)]) (fun i=>i≤cur.length) (fun i=>cur.length-i) 0 (by(refine cR [42] (by omega) (by repeat' first|exact bo2|refine xqI rfl rfl ?_| (with_reducible apply bo3)| ((with_reducible apply bo0);exact bpD (by omega) rfl)| ((with_reducible apply bo1);apply bo7)|fail) ⟨⟨by simp,by simp[sgL],_,rfl,GH (by simp)⟩,trivial⟩ (by simp[sgL]))) (by omega) ?_;intro i hi bqR M;by_cases m:i<cur.length
  ·have A:=G _ (cC m);have N:=hd _ A;have ak:=d.mem A;have al:=d.ab8 (key (cur.getD i default)) (brI A);have an:=fun h=>I h _ (cC m);have ao:=fun h=>J h _ (cC m);have O:cur.take (i+1)=cur.take i++[cur.getD i default]:=by rw[brQ m];simp[List.getD,m]
   have P:key (cur.getD i default)∉(seen k++cur.take i).map key:=fun hm=>by
    have e:seen k++cur=(seen k++cur.take i)++(cur.getD i default::cur.drop (i+1)):=by rw[C0];congr 1;have:cur.getD i default=cur[i]:=(by simp[List.getD,m]);rw[this,←brB m,boN]
    rw[e,bqX] at p;exact(brG.1 p).2.2 _ hm _ (by simp) rfl
   have v:=alK P;have x:=alD P;simp only[key] at al;have bb:=d.DC (cur.getD i default).who.toNat (by omega);have Y:=q (cur.getD i default).who.toNat;by_cases aq:k=0
   ·have ar:=an aq;repeat' first| (first|apply bn1|apply bpJ (by omega)|apply bpK (by omega)|apply oR|apply fE|apply HK N)<;>(simp only[go_sem,v,x,Option.getD_none,eq_true ar];try simp (disch:=omega) only[Iw])|apply bn2 (by omega)|refine⟨by omega,?_⟩|fail
    exact M _ _ _ (i+1) (by omega) (by(refine cR [52] (by omega) (by repeat' first|exact bo2|refine xqI rfl rfl ?_| (with_reducible apply bo3)| ((with_reducible apply bo0);exact bpD (by omega) rfl)| ((with_reducible apply bo1);apply bo7)|fail) ⟨⟨by simp,by simp[sgL],_,rfl,GH (by rw[O,C0])⟩,trivial⟩ (by simp[sgL]))) (by omega) (by omega)
   ·obtain⟨S,au⟩:=ao (by omega);repeat' first| (first|apply bn1|apply bpJ (by omega)|apply bpK (by omega)|apply oR|apply fE|apply I8 N|apply iJ T ak)<;>(simp only[go_sem,v,x,Option.getD_none,eq_true S];try simp (disch:=omega) only[Iw])|apply bn2 (by omega)|apply bn3 (by omega)|refine⟨by omega,?_⟩|fail
    exact M _ _ _ (i+1) (by omega) (by(refine cR [52] (by omega) (by repeat' first|exact bo2|refine xqI rfl rfl ?_| (with_reducible apply bo3)| ((with_reducible apply bo0);exact bpD (by omega) rfl)| ((with_reducible apply bo1);apply bo7)|fail) ⟨⟨by simp,by simp[sgL],_,rfl,GH (by rw[O,C0])⟩,trivial⟩ (by simp[sgL]))) (by omega) (by omega)
  ·have aw:i=cur.length:=(by omega);subst aw;rw[bq4,←t];repeat' first|apply bn1<;>(simp only[go_sem];try simp (disch:=omega) only[Iw])|apply bn3 (by omega)|fail
   exact ai _ _ _ (k+1) (by omega) (by(refine cR [52] (by omega) (by repeat' first|exact bo2|refine xqI rfl rfl ?_| (with_reducible apply bo3)| ((with_reducible apply bo0);exact bpD (by omega) rfl)| ((with_reducible apply bo1);apply bo7)|fail) ⟨⟨by simp,by simp[sgL],_,rfl,GH rfl⟩,trivial⟩ (by simp[sgL]))) (by omega) (by omega)
 ·have z:k=3:=by omega
  subst z;repeat' first|apply bn1<;>(simp only[go_sem])|apply bn3 (by omega)|fail
  refine aZ hQ (dB (decide (((UB (seen 3)).length:Int)=(s.asked.take 3).sum))) rfl rfl (congrArg dB (decide_eq_true ?_));rw[amR,ab];omega
theorem aST (c:Cfg) (s:TSt) (b:aQ c) (a:jO c) (e:BA c s):aB Tryz.prog au7 [boR (cU c),boR (eSt s)] .nil 0 fun d _ _=>d.plain=true∧d=dB true:=by
 refine ayK rfl fun Q f=> ?_;unfold av2;repeat' first| (first|apply bn1|apply W6 a|apply HQ b e)<;>(simp only[go_sem,eq_true b])|fail
 exact aZ f (dB true) rfl rfl rfl
theorem aPH{c:Cfg}{s:TSt} (b:aQ c) (a:jO c) (d:BA c s) (h:K (dB true) H nx):aB Tryz.prog au7 [boR (cU c),boR (eSt s)] H nx K:=(aST c s b a d).pure rfl (aI ⟨aE rfl,aE rfl,trivial⟩) fun r hr=>hr▸h
end
def stN:TSt:=⟨[],[],[],[],[],[]⟩
section
variable {H : aA} {nx : Nat} {K : D → aA → Nat → Prop}
end
end Go.Proofs.YtdkfhdmagdaceaaGreat
