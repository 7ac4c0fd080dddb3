/- Texts laid together by a program: rules, contracts and the walk that leads to the law. -/
import Derived.Test.YtmccpdapaccnoaaPG7
import Derived.Test.YtmccpdapaccnoaaPG3
import Derived.Test.YtmccpdapaccnoaaPG6
set_option linter.unusedVariables false
set_option linter.unusedSimpArgs false
set_option linter.unusedSectionVars false
section
namespace Go.Proofs.Ytmccpdapaccnoaa
open Go Go.AM
set_option maxRecDepth 100000
set_option maxHeartbeats 20000000
section
variable {H : aA} {nx : Nat} {K : D → aA → Nat → Prop}
def rq0 (id kind addr many:Int) (wrap:Bool):List D1:=[cI id,cI kind,cI addr,cI many,cB wrap,.osl 0 0 0 0 0,.osl 0 0 0 0 0]
structure Rq where
 id:Int
 kind:Int
 addr:Int
 many:Int
 wrap:Bool
 p:Nat
theorem UT (l:List Int) (p:Nat) (hl:kZ l) (hp50:p+40<2^50):aB Try.prog tS [bkP 2 0,dI 99999] (hp [(0,rdO l p)]) 1
 fun rr H' n'=>n'=1∧ ∃o',H'=hp [(0,o')]∧C7 o'∧ ∃(p':Nat) (q:Req),o'=rdO l p'∧p≤p'∧p'≤p+40∧rr=dA (eB q)∧(dH q):=by
 refine QN rfl fun Q hQ=> ?_
 unfold xW
 (refine aM.asL fun K hK=> ?_);(simp only[go_sem];try simp (disch:=omega) only[Iw]);(refine hK _ _ _ ?_;clear hK K)
 refine aM.join 2 (α:={u:Rq//(0≤u.id∧u.id≤1)∧(1≤u.kind∧u.kind≤4)∧(0≤u.addr∧u.addr≤63)∧(u.many=1∨u.many=2∨u.many=4)∧p≤u.p∧u.p≤p+11})
  (fun b u=>en [(5,bkP 7 (b+1)),(4,bkP 7 b),(1,dI 99999),(0,bkP 2 0)]) (fun b u=>hp [(0,rdO l u.1.p),(b,⟨7,1,[rq0 0 0 0 0 false]⟩),(b+1,⟨7,1,[rq0 u.1.id u.1.kind u.1.addr u.1.many u.1.wrap]⟩)]) (fun bkT hKJ=> ?_) ?_
 ·repeat' (first| (first| (with_reducible refine Y2 fun K hK=> ?_)| (refine aX hl (by omega) (by omega) (by omega) rfl (fun x h1 h2=> ?_))| (refine SE hl (by omega) (by omega) rfl (fun pa xa ha1 ha2 ha3=> ?_)))<;>(simp only[go_sem];try simp (disch:=omega) only[Iw])|refine⟨by omega,?_⟩|fail)
  have hx:x=0∨x=1∨x=2∨x=3:=by omega
  rcases hx with rfl|rfl|rfl|rfl
  all_goals simp only[go_sem];try simp (disch:=omega) only[Iw]
  all_goals repeat' (first| (with_reducible (refine hK _ _ _ ?_;clear hK K))| (refine aX hl (by omega) (by omega) (by omega) rfl (fun x h1 h2=> ?_))<;>(simp only[go_sem])| ((with_reducible refine Y0 ?_);simp only[AQ.then,AQ.blk])|fail)
  all_goals rename_i id hid1 hid2 kind hkind1 hkind2 _ _
  ·refine hKJ _ _ _ ⟨⟨id,1+kind,xa,1,decide (x=0),pa+1+1⟩,by dsimp only;omega,by dsimp only;omega,by dsimp only;omega,by dsimp only;omega,by dsimp only;omega,by dsimp only;omega⟩ (by(refine cR [1,18,0] (by omega) (by repeat' (first| (with_reducible first|exact C1|refine C2 ?_ ?_)| ((with_reducible refine C0 ?_);exact CE (by omega) rfl)| ((with_reducible refine D0 ?_);first|exact CA rfl|refine CJ ?_)|fail)) ⟨⟨by simp,by simp[sgL],_,rfl,bS (aV _ _)⟩,⟨by simp,by simp[sgL],_,rfl,aP (by(try unfold rq0);repeat' (first| (with_reducible first|exact C3|refine C4 ?_ ?_)| ((with_reducible refine C0 ?_);first|exact CB rfl|exact CC)|fail))⟩,⟨by simp,by simp[sgL],_,rfl,aP (by(try unfold rq0);repeat' (first| (with_reducible first|exact C3|refine C4 ?_ ?_)| ((with_reducible refine C0 ?_);first|exact CB rfl|exact CC)|fail))⟩,trivial⟩ (by simp[sgL])))
  ·refine hKJ _ _ _ ⟨⟨id,1+kind,xa,1,decide (x=0),pa+1+1⟩,by dsimp only;omega,by dsimp only;omega,by dsimp only;omega,by dsimp only;omega,by dsimp only;omega,by dsimp only;omega⟩ (by(refine cR [1,18,0] (by omega) (by repeat' (first| (with_reducible first|exact C1|refine C2 ?_ ?_)| ((with_reducible refine C0 ?_);exact CE (by omega) rfl)| ((with_reducible refine D0 ?_);first|exact CA rfl|refine CJ ?_)|fail)) ⟨⟨by simp,by simp[sgL],_,rfl,bS (aV _ _)⟩,⟨by simp,by simp[sgL],_,rfl,aP (by(try unfold rq0);repeat' (first| (with_reducible first|exact C3|refine C4 ?_ ?_)| ((with_reducible refine C0 ?_);first|exact CB rfl|exact CC)|fail))⟩,⟨by simp,by simp[sgL],_,rfl,aP (by(try unfold rq0);repeat' (first| (with_reducible first|exact C3|refine C4 ?_ ?_)| ((with_reducible refine C0 ?_);first|exact CB rfl|exact CC)|fail))⟩,trivial⟩ (by simp[sgL])))
  ·refine hKJ _ _ _ ⟨⟨id,1+kind,xa,2,decide (x=0),pa+1+1⟩,by dsimp only;omega,by dsimp only;omega,by dsimp only;omega,by dsimp only;omega,by dsimp only;omega,by dsimp only;omega⟩ (by(refine cR [1,18,0] (by omega) (by repeat' (first| (with_reducible first|exact C1|refine C2 ?_ ?_)| ((with_reducible refine C0 ?_);exact CE (by omega) rfl)| ((with_reducible refine D0 ?_);first|exact CA rfl|refine CJ ?_)|fail)) ⟨⟨by simp,by simp[sgL],_,rfl,bS (aV _ _)⟩,⟨by simp,by simp[sgL],_,rfl,aP (by(try unfold rq0);repeat' (first| (with_reducible first|exact C3|refine C4 ?_ ?_)| ((with_reducible refine C0 ?_);first|exact CB rfl|exact CC)|fail))⟩,⟨by simp,by simp[sgL],_,rfl,aP (by(try unfold rq0);repeat' (first| (with_reducible first|exact C3|refine C4 ?_ ?_)| ((with_reducible refine C0 ?_);first|exact CB rfl|exact CC)|fail))⟩,trivial⟩ (by simp[sgL])))
  ·refine hKJ _ _ _ ⟨⟨id,1+kind,xa,4,decide (x=0),pa+1+1⟩,by dsimp only;omega,by dsimp only;omega,by dsimp only;omega,by dsimp only;omega,by dsimp only;omega,by dsimp only;omega⟩ (by(refine cR [1,18,0] (by omega) (by repeat' (first| (with_reducible first|exact C1|refine C2 ?_ ?_)| ((with_reducible refine C0 ?_);exact CE (by omega) rfl)| ((with_reducible refine D0 ?_);first|exact CA rfl|refine CJ ?_)|fail)) ⟨⟨by simp,by simp[sgL],_,rfl,bS (aV _ _)⟩,⟨by simp,by simp[sgL],_,rfl,aP (by(try unfold rq0);repeat' (first| (with_reducible first|exact C3|refine C4 ?_ ?_)| ((with_reducible refine C0 ?_);first|exact CB rfl|exact CC)|fail))⟩,⟨by simp,by simp[sgL],_,rfl,aP (by(try unfold rq0);repeat' (first| (with_reducible first|exact C3|refine C4 ?_ ?_)| ((with_reducible refine C0 ?_);first|exact CB rfl|exact CC)|fail))⟩,trivial⟩ (by simp[sgL])))
 rintro⟨⟨id,kind,addr,many,wrap,q⟩,f1,f2,f3,f4,f5,f6⟩
 dsimp only at f1 f2 f3 f4 f5 f6
 refine aM.join 2 (α:={u:Rq//((0≤u.id∧u.id≤1)∧(1≤u.kind∧u.kind≤4)∧(0≤u.addr∧u.addr≤63)∧(u.many=1∨u.many=2∨u.many=4)∧p≤u.p∧u.p≤p+12)∧(3≤u.kind→u.many=1)})
  (fun b u=>en [(5,bkP 7 (b+1)),(4,bkP 7 b),(1,dI 99999),(0,bkP 2 0)]) (fun b u=>hp [(0,rdO l u.1.p),(b,⟨7,1,[rq0 0 0 0 0 false]⟩),(b+1,⟨7,1,[rq0 u.1.id u.1.kind u.1.addr u.1.many u.1.wrap]⟩)]) (fun bkT hKJ=> ?_) ?_
 ·repeat' (first| (with_reducible first| (refine hK _ _ _ ?_;clear hK K)| (refine hA ?_;clear hA hB A B)| (refine hB ?_;clear hA hB A B)|refine Z1 ?_|refine Z2 ?_|refine Z6 (fun h=> ?_) fun h=> ?_)| (first| (with_reducible first|refine Y2 fun K hK=> ?_|refine Y3 fun A B hA hB=> ?_)| (refine aX hl (by omega) (by omega) (by omega) rfl (fun x h1 h2=> ?_)))<;>(simp only[go_sem,rq0])| ((with_reducible refine Y0 ?_);simp only[AQ.then,AQ.blk])|refine⟨by omega,?_⟩|fail)
  ·have hx:x=0∨x=1∨x=2∨x=3:=by omega
   rcases hx with rfl|rfl|rfl|rfl
   all_goals simp only[go_sem];try simp (disch:=omega) only[Iw]
   all_goals repeat' (first| (with_reducible (refine hK _ _ _ ?_;clear hK K))| ((with_reducible refine Y0 ?_);simp only[AQ.then,AQ.blk])|fail)
   ·refine hKJ _ _ _ ⟨⟨id,kind,0,1,wrap,q+1⟩,by dsimp only;omega,by dsimp only;omega⟩ (by(refine cR [2,3,0] (by omega) (by repeat' (first| (with_reducible first|exact C1|refine C2 ?_ ?_)| ((with_reducible refine C0 ?_);exact CE (by omega) rfl)| ((with_reducible refine D0 ?_);first|exact CA rfl|refine CJ ?_)|fail)) ⟨⟨by simp,by simp[sgL],_,rfl,bS (aV _ _)⟩,⟨by simp,by simp[sgL],_,rfl,aP (by(try unfold rq0);repeat' (first| (with_reducible first|exact C3|refine C4 ?_ ?_)| ((with_reducible refine C0 ?_);first|exact CB rfl|exact CC)|fail))⟩,⟨by simp,by simp[sgL],_,rfl,aP (by(try unfold rq0);repeat' (first| (with_reducible first|exact C3|refine C4 ?_ ?_)| ((with_reducible refine C0 ?_);first|exact CB rfl|exact CC)|fail))⟩,trivial⟩ (by simp[sgL])))
   ·refine hKJ _ _ _ ⟨⟨id,kind,1,1,wrap,q+1⟩,by dsimp only;omega,by dsimp only;omega⟩ (by(refine cR [2,3,0] (by omega) (by repeat' (first| (with_reducible first|exact C1|refine C2 ?_ ?_)| ((with_reducible refine C0 ?_);exact CE (by omega) rfl)| ((with_reducible refine D0 ?_);first|exact CA rfl|refine CJ ?_)|fail)) ⟨⟨by simp,by simp[sgL],_,rfl,bS (aV _ _)⟩,⟨by simp,by simp[sgL],_,rfl,aP (by(try unfold rq0);repeat' (first| (with_reducible first|exact C3|refine C4 ?_ ?_)| ((with_reducible refine C0 ?_);first|exact CB rfl|exact CC)|fail))⟩,⟨by simp,by simp[sgL],_,rfl,aP (by(try unfold rq0);repeat' (first| (with_reducible first|exact C3|refine C4 ?_ ?_)| ((with_reducible refine C0 ?_);first|exact CB rfl|exact CC)|fail))⟩,trivial⟩ (by simp[sgL])))
   ·refine hKJ _ _ _ ⟨⟨id,kind,16,1,wrap,q+1⟩,by dsimp only;omega,by dsimp only;omega⟩ (by(refine cR [2,3,0] (by omega) (by repeat' (first| (with_reducible first|exact C1|refine C2 ?_ ?_)| ((with_reducible refine C0 ?_);exact CE (by omega) rfl)| ((with_reducible refine D0 ?_);first|exact CA rfl|refine CJ ?_)|fail)) ⟨⟨by simp,by simp[sgL],_,rfl,bS (aV _ _)⟩,⟨by simp,by simp[sgL],_,rfl,aP (by(try unfold rq0);repeat' (first| (with_reducible first|exact C3|refine C4 ?_ ?_)| ((with_reducible refine C0 ?_);first|exact CB rfl|exact CC)|fail))⟩,⟨by simp,by simp[sgL],_,rfl,aP (by(try unfold rq0);repeat' (first| (with_reducible first|exact C3|refine C4 ?_ ?_)| ((with_reducible refine C0 ?_);first|exact CB rfl|exact CC)|fail))⟩,trivial⟩ (by simp[sgL])))
   ·refine hKJ _ _ _ ⟨⟨id,kind,32,1,wrap,q+1⟩,by dsimp only;omega,by dsimp only;omega⟩ (by(refine cR [2,3,0] (by omega) (by repeat' (first| (with_reducible first|exact C1|refine C2 ?_ ?_)| ((with_reducible refine C0 ?_);exact CE (by omega) rfl)| ((with_reducible refine D0 ?_);first|exact CA rfl|refine CJ ?_)|fail)) ⟨⟨by simp,by simp[sgL],_,rfl,bS (aV _ _)⟩,⟨by simp,by simp[sgL],_,rfl,aP (by(try unfold rq0);repeat' (first| (with_reducible first|exact C3|refine C4 ?_ ?_)| ((with_reducible refine C0 ?_);first|exact CB rfl|exact CC)|fail))⟩,⟨by simp,by simp[sgL],_,rfl,aP (by(try unfold rq0);repeat' (first| (with_reducible first|exact C3|refine C4 ?_ ?_)| ((with_reducible refine C0 ?_);first|exact CB rfl|exact CC)|fail))⟩,trivial⟩ (by simp[sgL])))
  ·refine hKJ _ _ _ ⟨⟨id,kind,addr,many,wrap,q⟩,by dsimp only;omega,by dsimp only;omega⟩ (by(refine cR [2,3,0] (by omega) (by repeat' (first| (with_reducible first|exact C1|refine C2 ?_ ?_)| ((with_reducible refine C0 ?_);exact CE (by omega) rfl)| ((with_reducible refine D0 ?_);first|exact CA rfl|refine CJ ?_)|fail)) ⟨⟨by simp,by simp[sgL],_,rfl,bS (aV _ _)⟩,⟨by simp,by simp[sgL],_,rfl,aP (by(try unfold rq0);repeat' (first| (with_reducible first|exact C3|refine C4 ?_ ?_)| ((with_reducible refine C0 ?_);first|exact CB rfl|exact CC)|fail))⟩,⟨by simp,by simp[sgL],_,rfl,aP (by(try unfold rq0);repeat' (first| (with_reducible first|exact C3|refine C4 ?_ ?_)| ((with_reducible refine C0 ?_);first|exact CB rfl|exact CC)|fail))⟩,trivial⟩ (by simp[sgL])))
 rintro⟨⟨id,kind,addr,many,wrap,q⟩,⟨f1,f2,f3,f4,f5,f6⟩,f7⟩
 dsimp only at f1 f2 f3 f4 f5 f6 f7
 refine aM.join 2 (α:={u:Rq//((0≤u.id∧u.id≤1)∧(1≤u.kind∧u.kind≤4)∧p≤u.p∧u.p≤p+12)∧(3≤u.kind→u.many=1)∧o7 u.addr u.many u.wrap})
  (fun b u=>en [(5,bkP 7 (b+1)),(4,bkP 7 b),(1,dI 99999),(0,bkP 2 0)]) (fun b u=>hp [(0,rdO l u.1.p),(b,⟨7,1,[rq0 0 0 0 0 false]⟩),(b+1,⟨7,1,[rq0 u.1.id u.1.kind u.1.addr u.1.many u.1.wrap]⟩)]) (fun bkT hKJ=> ?_) ?_
 ·repeat' (first| (with_reducible first| (refine hK _ _ _ ?_;clear hK K)| (refine hA ?_;clear hA hB A B)| (refine hB ?_;clear hA hB A B)|refine Z1 ?_|refine Z2 ?_|refine Z6 (fun h=> ?_) fun h=> ?_)| (with_reducible first|refine Y2 fun K hK=> ?_|refine Y3 fun A B hA hB=> ?_| (refine Y7 (fun h=> ?_) (fun h=> ?_)<;>try subst h))<;>(simp only[go_sem,rq0];try simp (disch:=omega) only[Iw])| ((with_reducible refine Y0 ?_);simp only[AQ.then,AQ.blk])|fail)
  ·refine hKJ _ _ _ ⟨⟨id,kind,63-many+1,many,wrap,q⟩,by dsimp only;omega,by dsimp only;omega,by dsimp only;exact⟨by omega,by omega,.inr (by omega)⟩⟩ (by(refine cR [4,5,0] (by omega) (by repeat' (first| (with_reducible first|exact C1|refine C2 ?_ ?_)| ((with_reducible refine C0 ?_);exact CE (by omega) rfl)| ((with_reducible refine D0 ?_);first|exact CA rfl|refine CJ ?_)|fail)) ⟨⟨by simp,by simp[sgL],_,rfl,bS (aV _ _)⟩,⟨by simp,by simp[sgL],_,rfl,aP (by(try unfold rq0);repeat' (first| (with_reducible first|exact C3|refine C4 ?_ ?_)| ((with_reducible refine C0 ?_);first|exact CB rfl|exact CC)|fail))⟩,⟨by simp,by simp[sgL],_,rfl,aP (by(try unfold rq0);repeat' (first| (with_reducible first|exact C3|refine C4 ?_ ?_)| ((with_reducible refine C0 ?_);first|exact CB rfl|exact CC)|fail))⟩,trivial⟩ (by simp[sgL])))
  ·refine hKJ _ _ _ ⟨⟨id,kind,addr,many,wrap,q⟩,by dsimp only;omega,by dsimp only;omega,by dsimp only;exact⟨by omega,by omega,.inr (by omega)⟩⟩ (by(refine cR [4,5,0] (by omega) (by repeat' (first| (with_reducible first|exact C1|refine C2 ?_ ?_)| ((with_reducible refine C0 ?_);exact CE (by omega) rfl)| ((with_reducible refine D0 ?_);first|exact CA rfl|refine CJ ?_)|fail)) ⟨⟨by simp,by simp[sgL],_,rfl,bS (aV _ _)⟩,⟨by simp,by simp[sgL],_,rfl,aP (by(try unfold rq0);repeat' (first| (with_reducible first|exact C3|refine C4 ?_ ?_)| ((with_reducible refine C0 ?_);first|exact CB rfl|exact CC)|fail))⟩,⟨by simp,by simp[sgL],_,rfl,aP (by(try unfold rq0);repeat' (first| (with_reducible first|exact C3|refine C4 ?_ ?_)| ((with_reducible refine C0 ?_);first|exact CB rfl|exact CC)|fail))⟩,trivial⟩ (by simp[sgL])))
  ·refine hKJ _ _ _ ⟨⟨id,kind,addr,many,wrap,q⟩,by dsimp only;omega,by dsimp only;omega,by dsimp only;exact⟨by omega,by omega,.inl (by simp_all)⟩⟩ (by(refine cR [4,5,0] (by omega) (by repeat' (first| (with_reducible first|exact C1|refine C2 ?_ ?_)| ((with_reducible refine C0 ?_);exact CE (by omega) rfl)| ((with_reducible refine D0 ?_);first|exact CA rfl|refine CJ ?_)|fail)) ⟨⟨by simp,by simp[sgL],_,rfl,bS (aV _ _)⟩,⟨by simp,by simp[sgL],_,rfl,aP (by(try unfold rq0);repeat' (first| (with_reducible first|exact C3|refine C4 ?_ ?_)| ((with_reducible refine C0 ?_);first|exact CB rfl|exact CC)|fail))⟩,⟨by simp,by simp[sgL],_,rfl,aP (by(try unfold rq0);repeat' (first| (with_reducible first|exact C3|refine C4 ?_ ?_)| ((with_reducible refine C0 ?_);first|exact CB rfl|exact CC)|fail))⟩,trivial⟩ (by simp[sgL])))
 rintro⟨⟨id,kind,addr,many,wrap,q⟩,⟨f1,f2,f5,f6⟩,f7,f8⟩
 dsimp only at f1 f2 f5 f6 f7 f8
 have f4:=f8.1
 refine aM.join 2 (α:={u:Req×Nat//dH u.1∧p≤u.2∧u.2≤p+40})
  (fun b u=>en [(5,bkP 7 (b+1)),(4,bkP 7 b),(1,dI 99999),(0,bkP 2 0)]) (fun b u=>hp [(0,rdO l u.1.2),(b,⟨7,1,[rq0 0 0 0 0 false]⟩),(b+1,⟨7,1,[eB u.1.1]⟩)]) (fun bkT hKJ=> ?_) ?_
 ·repeat' (first| (with_reducible first| (refine hK _ _ _ ?_;clear hK K)| (refine hA ?_;clear hA hB A B)| (refine hB ?_;clear hA hB A B)|refine Z1 ?_|refine Z2 ?_|refine Z3 fun KB hKB=> ?_|refine Z6 (fun h=> ?_) fun h=> ?_)| (with_reducible first|refine Y2 fun K hK=> ?_|refine Y3 fun A B hA hB=> ?_|refine Y6 (fun h=> ?_) fun h=> ?_)<;>(simp only[go_sem,rq0])| ((with_reducible refine Y0 ?_);simp only[AQ.then,AQ.blk])|fail)
  rotate_left 2
  ·refine hKJ _ _ _ ⟨(⟨id,kind,addr,many,wrap,[],[]⟩,q),⟨f1,f2,f8,?_,?_,?_,?_,by dsimp only;omega⟩,by dsimp only;omega,by dsimp only;omega⟩ (by(refine cR [6,7,0] (by omega) (by repeat' (first| (with_reducible first|exact C1|refine C2 ?_ ?_)| ((with_reducible refine C0 ?_);exact CE (by omega) rfl)| ((with_reducible refine D0 ?_);first|exact CA rfl|refine CJ ?_)|fail)) ⟨⟨by simp,by simp[sgL],_,rfl,bS (aV _ _)⟩,⟨by simp,by simp[sgL],_,rfl,aP (by(try unfold rq0);repeat' (first| (with_reducible first|exact C3|refine C4 ?_ ?_)| ((with_reducible refine C0 ?_);first|exact CB rfl|exact CC)|fail))⟩,⟨by simp,by simp[sgL],_,rfl,aP (by(try unfold rq0);repeat' (first| (with_reducible first|exact C3|refine C4 ?_ ?_)| ((with_reducible refine C0 ?_);first|exact CB rfl|exact CF)|refine C4 ?_ ?_|fail))⟩,trivial⟩ (by simp[sgL])))
   ·simp only[n5];rw[if_neg (by omega)];rfl
   ·simp only[n5];rw[if_neg (by omega)];rfl
   ·intro x hx;simp at hx
   ·intro x hx;simp at hx
  all_goals
   have hkind:kind=2∨kind=4:=by omega
   refine aM.EJ 1 (aM.EJ 1 ?_)
   (have hKX:=hKB;clear hKB)
   refine aM.sG 4 (β:=(Nat×Nat)×(List Int×Nat)×(List Int×Nat))
    (fun b u=>en [(6,dI u.1.1),(5,bkP 7 (b+1)),(4,bkP 7 b),(1,dI 99999),(0,bkP 2 0)])
    (fun b u=>hp [(0,rdO l u.1.2),(b,⟨7,1,[rq0 0 0 0 0 false]⟩),(b+1,⟨7,1,[[cI id,cI kind,cI addr,cI many,cB wrap,.osl 1 (b+2) 0 u.1.1 u.2.1.2,.osl 1 (b+3) 0 u.1.1 u.2.2.2]]⟩),(b+2,⟨1,u.2.1.2,u.2.1.1.map aJ⟩),(b+3,⟨1,u.2.2.2,u.2.2.1.map aJ⟩)])
    (fun u=>((u.1.1:Int)≤many∧u.1.2≤q+4*u.1.1∧q≤u.1.2)∧(u.2.1.1.length=u.1.1∧All u.2.1.1 0 65535∧u.1.1≤u.2.1.2)∧(u.2.2.1.length=u.1.1∧All u.2.2.1 0 3∧u.1.1≤u.2.2.2))
    (fun u=>many.toNat-u.1.1) ((0,q),([],0),([],0)) ?_ ⟨⟨by dsimp only;omega,by dsimp only;omega,by dsimp only;omega⟩,⟨rfl,by simp[All],by simp⟩,⟨rfl,by simp[All],by simp⟩⟩ ?_
   · (refine cR [6,7,17,18,0] (by omega) (by repeat' (first| (with_reducible first|exact C1|refine C2 ?_ ?_)| ((with_reducible refine C0 ?_);exact CE (by omega) rfl)| ((with_reducible refine D0 ?_);first|exact CA rfl|refine CJ ?_)|fail)) ⟨⟨by simp,by simp[sgL],_,rfl,bS (aV _ _)⟩,⟨by simp,by simp[sgL],_,rfl,aP (by unfold rq0;repeat' (first| (with_reducible first|exact C3|refine C4 ?_ ?_)| ((with_reducible refine C0 ?_);first|exact CB rfl|exact CC)|fail))⟩,⟨by simp,by simp[sgL],_,rfl,aP (by(try unfold rq0);repeat' (first| (with_reducible first|exact C3|refine C4 ?_ ?_)| ((with_reducible refine C0 ?_);first|exact CB rfl|exact CC)|fail))⟩,⟨by simp,by simp[sgL],_,rfl,bP (aG bF _) rfl rfl⟩,⟨by simp,by simp[sgL],_,rfl,bP (aG bF _) rfl rfl⟩,trivial⟩ (by simp[sgL]))
   ·rintro⟨⟨k,q'⟩,⟨da,ca⟩,⟨la,cl⟩⟩ ⟨⟨g1,g2,g3⟩,⟨g4,g5,bkU⟩,⟨bkV,g8,g9⟩⟩ KL hKL
    dsimp only at g1 g2 g3 g4 g5 bkU bkV g8 g9
    have hta:da.take k=da:=List.take_of_length_le (by omega)
    have htl:la.take k=la:=List.take_of_length_le (by omega)
    by_cases hlt:k<many.toNat
    ·repeat' (first| (with_reducible first| (refine hK _ _ _ ?_;clear hK K)| (refine hA ?_;clear hA hB A B)|refine Z1 ?_|refine Z2 ?_|refine Z3 fun KB hKB=> ?_|refine Z4 (by omega) ?_)| (first| (with_reducible first|refine Y2 fun K hK=> ?_|refine Y3 fun A B hA hB=> ?_)| (refine aX hl (by omega) (by omega) (by omega) rfl (fun x h1 h2=> ?_)))<;>(simp only[go_sem,rq0];try simp (disch:=omega) only[Iw])|refine⟨by omega,?_⟩|fail)
     have hx:x=0∨x=1∨x=2∨x=3:=by omega
     rcases hx with rfl|rfl|rfl|rfl
     all_goals simp only[go_sem,hta,htl];try simp (disch:=omega) only[Iw]
     all_goals repeat' (first| (with_reducible first| (refine hK _ _ _ ?_;clear hK K)|refine fun(cap:Nat) (hcap:_≤cap)=> ?_|refine fun(hcp:_≤cap)=> ?_)| (first| (with_reducible refine Y2 fun K hK=> ?_)| (refine aX hl (by omega) (by omega) (by omega) rfl (fun x h1 h2=> ?_)))<;>(simp only[go_sem,hta,htl])|refine⟨by omega,?_⟩|fail)
     all_goals
      have hx:x=0∨x=1∨x=2∨x=3∨x=4:=by omega
      rcases hx with rfl|rfl|rfl|rfl|rfl
     all_goals simp only[go_sem,hta,htl];try simp (disch:=omega) only[Iw]
     all_goals repeat' (first| (with_reducible first| (refine hK _ _ _ ?_;clear hK K)|refine fun(cap:Nat) (hcap:_≤cap)=> ?_|refine fun(hcp:_≤cap)=> ?_)| (with_reducible refine Y2 fun K hK=> ?_)<;>(simp only[go_sem,hta,htl];try simp (disch:=omega) only[Iw])| ((with_reducible refine Y0 ?_);simp only[AQ.then,AQ.blk])|refine⟨by omega,?_⟩| (with_reducible refine hKB _ _ _ ?_)|fail)
     all_goals
      refine hKL _ _ _ ((k+1,_),(da++[_],_),(la++[_],_)) (by omega) (by(refine cR [19,20,40,51,0] (by omega) (by repeat' (first| (with_reducible first|exact C1|refine C2 ?_ ?_)| ((with_reducible refine C0 ?_);exact CE (by omega) rfl)| ((with_reducible refine D0 ?_);first|exact CA rfl|refine CJ ?_)|fail)) ⟨⟨by simp,by simp[sgL],_,rfl,bS (aV _ _)⟩,⟨by simp,by simp[sgL],_,rfl,aP (by unfold rq0;repeat' (first| (with_reducible first|exact C3|refine C4 ?_ ?_)| ((with_reducible refine C0 ?_);first|exact CB rfl|exact CC)|fail))⟩,⟨by simp,by simp[sgL],_,rfl,aP (by repeat' (first| (with_reducible first|exact C3|refine C4 ?_ ?_)| ((with_reducible refine C0 ?_);first|exact CB rfl|exact CQ (by omega) rfl rfl (by rfl) rfl)|fail))⟩,⟨by simp,by simp[sgL],_,rfl,bP (aG bF _) rfl rfl⟩,⟨by simp,by simp[sgL],_,rfl,bP (aG bF _) rfl rfl⟩,trivial⟩ (by simp[sgL])))
       ⟨⟨by dsimp only;omega,by dsimp only;omega,by dsimp only;omega⟩,⟨by simp;omega,KC g5 (by omega) (by omega),by dsimp only;omega⟩,⟨by simp;omega,KC g8 (by omega) (by omega),by dsimp only;omega⟩⟩ (by dsimp only;omega)
    ·repeat' (first| (with_reducible first| (refine hK _ _ _ ?_;clear hK K)| (refine hB ?_;clear hA hB A B)|refine Z1 ?_|refine Z5 (by omega) ?_|refine hKX _ _ _ ?_)| (with_reducible first|refine Y2 fun K hK=> ?_|refine Y3 fun A B hA hB=> ?_)<;>(simp only[go_sem,rq0])| ((with_reducible refine Y9 ?_);try simp only[AQ.then,AQ.blk,reduceIte,Nat.reduceEqDiff])| ((with_reducible refine Y0 ?_);simp only[AQ.then,AQ.blk])|fail)
     refine hKJ _ _ _ ⟨(⟨id,kind,addr,many,wrap,da,la⟩,q'),⟨f1,f2,f8,?_,?_,g5,g8,by dsimp only;omega⟩,by dsimp only;omega,by dsimp only;omega⟩ (by(refine cR [19,20,0] (by omega) (by repeat' (first| (with_reducible first|exact C1|refine C2 ?_ ?_)| ((with_reducible refine C0 ?_);exact CE (by omega) rfl)| ((with_reducible refine D0 ?_);first|exact CA rfl|refine CJ ?_)|fail)) ⟨⟨by simp,by simp[sgL],_,rfl,bS (aV _ _)⟩,⟨by simp,by simp[sgL],_,rfl,aP (by(try unfold rq0);repeat' (first| (with_reducible first|exact C3|refine C4 ?_ ?_)| ((with_reducible refine C0 ?_);first|exact CB rfl|exact CC)|fail))⟩,⟨by simp,by simp[sgL],_,rfl,aP (aH (bB rfl) (aH (bB rfl) (aH (bB rfl) (aH (bB rfl) (aH (bB rfl) (aH (bW bF rfl (by dsimp only;omega) (by dsimp only;omega) (by simp)) (aH (bW bF rfl (by dsimp only;omega) (by dsimp only;omega) (by simp)) eP)))))))⟩,trivial⟩ (by simp[sgL])))
     ·simp only[n5];rw[if_pos hkind];omega
     ·simp only[n5];rw[if_pos hkind];omega
 rintro⟨⟨qq,q'⟩,hok,g1,g2⟩
 dsimp only at hok g1 g2
 repeat' (first| (with_reducible first| (refine hK _ _ _ ?_;clear hK K)| (refine hB ?_;clear hA hB A B)|refine Z1 ?_|refine Z2 ?_)| (first| (with_reducible first|refine Y2 fun K hK=> ?_|refine Y3 fun A B hA hB=> ?_)| (refine uA (by omega) rfl ?_))<;>(simp only[go_sem,rq0])| ((with_reducible refine Y8 ?_);try simp only[AQ.then,AQ.blk,reduceIte,Nat.reduceEqDiff])|fail)
 exact lA hQ (dA (eB qq)) _ _ rfl (aE rfl) rfl (aV l q') ⟨_,_,rfl,by omega,by omega,rfl,hok⟩
theorem ID {l:List Int} {p i:Nat} (hl:kZ l) (hp50:p+40<2^50) (hi:i<nx) (ho:H i=some (rdO l p)) (h: ∀(p':Nat) (q:Req),p≤p'→p'≤p+40→(dH q)→K (dA (eB q)) (H.set i (rdO l p')) nx):
 aB Try.prog tS [bkP 2 i,dI 99999] H nx K:=
 (UT l p hl hp50).OU i rfl (gW ⟨DG (by omega) rfl,aE rfl,trivial⟩) hi ho (aV l p) fun r o' ⟨p',q,h1,h2,h3,h4,h5⟩=>by
  subst h1;subst h4;exact EW (A:=fun d=>K d (H.set i (rdO l p')) nx) rfl (h p' q h2 h3 h5)
end
end Go.Proofs.Ytmccpdapaccnoaa
end
section
namespace Go.Proofs.Ytmccpdapaccnoaa
open Go Go.AM
set_option maxRecDepth 100000
def yF:AC:=
 (.seq (.region [rq 0 1 (.box true (.tm 0)),
 rq 1 2 (.alloc [OZ,OZ,OZ,OZ,OZ,OZ])] 2 [1,2])
 (.seq (.region [RF 0 12 0 1,
 rq 1 13 (.load 2 true (.tm 12)),
 RF 2 14 4 1,
 RL 3 15 14,
 rq 4 16 (.build [OZ,OZ,OZ,OZ,OZ,OZ] [(0,2,(.tm 13)),(5,1,(.tm 15))]),
 rq 5 3 (.alloc [OZ,OZ,OZ,OZ,OZ,OZ]),
 rn 6 (.store 6 true (.tm 3) (.tm 16))] 7 [1,2,3])
 (.seq (.seq (.region [RF 0 17 2 1,
 RL 1 18 17,
 rq 2 19 (.len false (.tm 18)),
 rq 3 20 (.move (ki 0))] 4 [1,2,3,18,19,20])
 (.block 0
 (.loop
 (.seq (.region [rq 0 21 (.bin .lss (.tm 20) (.tm 19))] 1 [1,2,3,18,19,20,21])
 (.seq (.cond (.tm 21)
 .skip
 (.exit 0))
 (.seq (.block 1
 (.seq (.region [RM 0 22 20,
 rq 1 23 (.idx 4 (.tm 18) (.tm 20)),
 rq 2 24 (.load 4 true (.tm 23)),
 rq 3 5 (.alloc [VZ,OZ,OZ,VZ]),
 RM 4 4 22,
 rn 5 (.store 4 true (.tm 5) (.tm 24))] 6 [1,2,3,4,5,18,19,20])
 (.seq (.region [RF 0 25 2 3,
 RL 1 26 25,
 RF 2 27 0 5,
 RL 3 28 27,
 rq 4 29 (.bC 1 1 [VZ] [(0,1,(.tm 28))]),
 rq 5 30 (.append 1 (.tm 26) (.tm 29)),
 RF 6 31 2 3,
 rn 7 (.store 1 false (.tm 31) (.tm 30))] 8 [1,2,3,4,5,18,19,20])
 (.seq (.region [RF 0 32 1 5,
 RL 1 33 32,
 rq 2 34 (.len false (.tm 33)),
 rq 3 35 (.move (ki 0))] 4 [1,2,3,4,18,19,20,33,34,35])
 (.block 2
 (.loop
 (.seq (.region [rq 0 36 (.bin .lss (.tm 35) (.tm 34))] 1 [1,2,3,4,18,19,20,33,34,35,36])
 (.seq (.cond (.tm 36)
 .skip
 (.exit 2))
 (.seq (.block 3
 (.seq (.region [rq 0 37 (.idx 1 (.tm 33) (.tm 35)),
 RL 1 38 37,
 RM 2 7 38] 3 [1,2,3,4,7,18,19,20,33,34,35])
 (.region [RF 0 39 3 3,
 RL 1 40 39,
 RM 2 41 4,
 RM 3 42 7,
 rq 4 43 (.build [VZ,VZ,VZ,VZ,OZ] [(0,1,(.tm 41)),(1,1,(.tm 42))]),
 rq 5 44 (.bC 5 1 [VZ,VZ,VZ,VZ,OZ] [(0,5,(.tm 43))]),
 rq 6 45 (.append 5 (.tm 40) (.tm 44)),
 RF 7 46 3 3,
 rn 8 (.store 1 false (.tm 46) (.tm 45))] 9 [1,2,3,4,18,19,20,33,34,35])))
 (.region [rq 0 47 (.bin .add (.tm 35) (ki 1)),
 RM 1 35 47] 2 [1,2,3,4,18,19,20,33,34,35]))))))))))
 (.region [rq 0 48 (.bin .add (.tm 20) (ki 1)),
 RM 1 20 48] 2 [1,2,3,18,19,20])))))))
 (.seq (.seq (.region [RF 0 49 3 1,
 RL 1 50 49,
 rq 2 51 (.len false (.tm 50)),
 rq 3 52 (.move (ki 0))] 4 [2,3,50,51,52])
 (.block 4
 (.loop
 (.seq (.region [rq 0 53 (.bin .lss (.tm 52) (.tm 51))] 1 [2,3,50,51,52,53])
 (.seq (.cond (.tm 53)
 .skip
 (.exit 4))
 (.seq (.block 5
 (.seq (.region [rq 0 54 (.idx 3 (.tm 50) (.tm 52)),
 rq 1 55 (.load 3 true (.tm 54)),
 rq 2 9 (.alloc [OZ,OZ,VZ]),
 rn 3 (.store 3 true (.tm 9) (.tm 55))] 4 [2,3,9,50,51,52])
 (.seq (.seq (.region [RF 0 56 0 9,
 RL 1 57 56,
 rq 2 58 (.len false (.tm 57)),
 rq 3 59 (.move (ki 0))] 4 [2,3,9,50,51,52,57,58,59])
 (.block 6
 (.loop
 (.seq (.region [rq 0 60 (.bin .lss (.tm 59) (.tm 58))] 1 [2,3,9,50,51,52,57,58,59,60])
 (.seq (.cond (.tm 60)
 .skip
 (.exit 6))
 (.seq (.block 7
 (.seq (.region [rq 0 61 (.idx 3 (.tm 57) (.tm 59)),
 rq 1 62 (.load 3 true (.tm 61)),
 rq 2 11 (.alloc [VZ,VZ,VZ]),
 rn 3 (.store 3 true (.tm 11) (.tm 62))] 4 [2,3,9,11,50,51,52,57,58,59])
 (.region [RF 0 63 3 3,
 RL 1 64 63,
 RF 2 65 0 11,
 RL 3 66 65,
 RF 4 67 1 11,
 RL 5 68 67,
 rq 6 69 (.build [VZ,VZ,VZ,VZ,OZ] [(0,1,(.tm 66)),(1,1,(.tm 68))]),
 rq 7 70 (.bC 5 1 [VZ,VZ,VZ,VZ,OZ] [(0,5,(.tm 69))]),
 rq 8 71 (.append 5 (.tm 64) (.tm 70)),
 RF 9 72 3 3,
 rn 10 (.store 1 false (.tm 72) (.tm 71))] 11 [2,3,9,50,51,52,57,58,59])))
 (.region [rq 0 73 (.bin .add (.tm 59) (ki 1)),
 RM 1 59 73] 2 [2,3,9,50,51,52,57,58,59])))))))
 (.region [RF 0 74 4 3,
 RL 1 75 74,
 RF 2 76 1 9,
 RL 3 77 76,
 rq 4 78 (.append 5 (.tm 75) (.tm 77)),
 RF 5 79 4 3,
 rn 6 (.store 1 false (.tm 79) (.tm 78))] 7 [2,3,50,51,52]))))
 (.region [rq 0 80 (.bin .add (.tm 52) (ki 1)),
 RM 1 52 80] 2 [2,3,50,51,52])))))))
 (.seq (.region [RF 0 81 3 3,
 RL 1 82 81,
 rq 2 83 (.call cG [(.tm 82),(.fn bJ)])] 3 [2,3])
 (.seq (.region [RF 0 84 4 3,
 RL 1 85 84,
 rq 2 86 (.call cG [(.tm 85),(.fn bJ)])] 3 [2,3])
 (.seq (.region [rq 0 87 (.load 6 true (.tm 3)),
 rq 1 88 (.call iG [(.tm 87)]),
 rn 2 (.store 6 true (.tm 2) (.tm 88))] 3 [2])
 .ret)))))))
def SH:List Cert:=[⟨[],[1,2]⟩,⟨[],[1,2,3]⟩,⟨[],[1,2,3,18,19,20]⟩,⟨[],[1,2,3,18,19,20,21]⟩,⟨[],[1,2,3,4,5,18,19,20]⟩,⟨[],[1,2,3,4,5,18,19,20]⟩,⟨[],[1,2,3,4,18,19,20,33,34,35]⟩,⟨[],[1,2,3,4,18,19,20,33,34,35,36]⟩,⟨[],[1,2,3,4,7,18,19,20,33,34,35]⟩,⟨[],[1,2,3,4,18,19,20,33,34,35]⟩,⟨[],[1,2,3,4,18,19,20,33,34,35]⟩,⟨[],[1,2,3,18,19,20]⟩,⟨[],[2,3,50,51,52]⟩,⟨[],[2,3,50,51,52,53]⟩,⟨[],[2,3,9,50,51,52]⟩,⟨[],[2,3,9,50,51,52,57,58,59]⟩,⟨[],[2,3,9,50,51,52,57,58,59,60]⟩,⟨[],[2,3,9,11,50,51,52,57,58,59]⟩,⟨[],[2,3,9,50,51,52,57,58,59]⟩,⟨[],[2,3,9,50,51,52,57,58,59]⟩,⟨[],[2,3,50,51,52]⟩,⟨[],[2,3,50,51,52]⟩,⟨[],[2,3]⟩,⟨[],[2,3]⟩,⟨[],[2]⟩]
def GJ:List aW:=[.cell 2 6 true]
theorem RY:aO Try.prog Try.f5 SH=some (yF,GJ):=by kernel_rfl
def dF:AC:=
 (.region [RM 0 4 0,
 RM 1 5 0,
 rq 2 6 (.len false (.tm 5)),
 RM 3 7 1,
 rq 4 8 (.call gL [(.tm 4),(.tm 6),(.tm 7)])] 5 [])
def l4:List Cert:=[⟨[],[]⟩]
def gD:List aW:=[]
theorem mB:aO Try.prog Try.f12 l4=some (dF,gD):=by kernel_rfl
def gA:AC:=
 (.seq (.region [rq 0 6 (.move (ki 20))] 1 [0,1,2,6])
 (.seq (.region [RM 0 10 6,
 rq 1 7 (.move (ki 0)),
 RM 2 8 10] 3 [0,1,2,6,7,8])
 (.seq (.block 0
 (.loop
 (.seq (.seq (.region [RM 0 11 8,
 RM 1 12 1,
 rq 2 13 (.bin .leq (.tm 11) (.tm 12))] 3 [0,1,2,6,7,8,13])
 (.cond (.tm 13)
 .skip
 (.exit 0)))
 (.block 1
 (.seq (.region [RM 0 14 0,
 RM 1 15 7,
 RM 2 16 8,
 RM 3 17 2,
 rq 4 18 (.call cL [(.tm 14),(.tm 15),(.tm 16),(.tm 17)])] 5 [0,1,2,6,8])
 (.seq (.region [RM 0 19 8,
 RM 1 7 19] 2 [0,1,2,6,7,8])
 (.region [RM 0 20 8,
 RM 1 21 6,
 rq 2 22 (.bin .add (.tm 20) (.tm 21)),
 RM 3 8 22] 4 [0,1,2,6,7,8])))))))
 (.seq (.region [RM 0 23 0,
 RM 1 24 7,
 RM 2 25 1,
 RM 3 26 2,
 rq 4 27 (.call cL [(.tm 23),(.tm 24),(.tm 25),(.tm 26)])] 5 [0,1,2,6])
 (.block 2
 (.loop
 (.seq (.seq (.region [RM 0 28 6,
 RM 1 29 1,
 rq 2 30 (.bin .lss (.tm 28) (.tm 29))] 3 [0,1,2,6,30])
 (.cond (.tm 30)
 .skip
 (.exit 2)))
 (.block 3
 (.seq (.region [RM 0 31 6,
 rq 1 32 (.bin .mul (ki 2) (.tm 31)),
 rq 2 7 (.move (ki 0)),
 RM 3 8 32] 4 [0,1,2,6,7,8])
 (.seq (.block 4
 (.loop
 (.seq (.seq (.region [RM 0 33 8,
 RM 1 34 1,
 rq 2 35 (.bin .leq (.tm 33) (.tm 34))] 3 [0,1,2,6,7,8,35])
 (.cond (.tm 35)
 .skip
 (.exit 4)))
 (.block 5
 (.seq (.region [RM 0 36 0,
 RM 1 37 7,
 RM 2 38 7,
 RM 3 39 6,
 rq 4 40 (.bin .add (.tm 38) (.tm 39)),
 RM 5 41 8,
 RM 6 42 2,
 rq 7 43 (.call jW [(.tm 36),(.tm 37),(.tm 40),(.tm 41),(.tm 42)])] 8 [0,1,2,6,8])
 (.seq (.region [RM 0 44 8,
 RM 1 7 44] 2 [0,1,2,6,7,8])
 (.region [RM 0 45 8,
 RM 1 46 6,
 rq 2 47 (.bin .mul (ki 2) (.tm 46)),
 rq 3 48 (.bin .add (.tm 45) (.tm 47)),
 RM 4 8 48] 5 [0,1,2,6,7,8])))))))
 (.seq (.seq (.region [RM 0 49 7,
 RM 1 50 6,
 rq 2 51 (.bin .add (.tm 49) (.tm 50)),
 RM 3 9 51] 4 [0,1,2,6,7,9])
 (.seq (.region [RM 0 52 9,
 RM 1 53 1,
 rq 2 54 (.bin .lss (.tm 52) (.tm 53))] 3 [0,1,2,6,7,9,54])
 (.cond (.tm 54)
 (.region [RM 0 55 0,
 RM 1 56 7,
 RM 2 57 9,
 RM 3 58 1,
 RM 4 59 2,
 rq 5 60 (.call jW [(.tm 55),(.tm 56),(.tm 57),(.tm 58),(.tm 59)])] 6 [0,1,2,6])
 .skip)))
 (.region [RM 0 61 6,
 rq 1 62 (.bin .mul (.tm 61) (ki 2)),
 RM 2 6 62] 3 [0,1,2,6]))))))))))))
def tH:List Cert:=[⟨[],[0,1,2,6]⟩,⟨[],[0,1,2,6,7,8]⟩,⟨[],[0,1,2,6,7,8,13]⟩,⟨[],[0,1,2,6,8]⟩,⟨[],[0,1,2,6,7,8]⟩,⟨[],[0,1,2,6,7,8]⟩,⟨[],[0,1,2,6]⟩,⟨[],[0,1,2,6,30]⟩,⟨[],[0,1,2,6,7,8]⟩,⟨[],[0,1,2,6,7,8,35]⟩,⟨[],[0,1,2,6,8]⟩,⟨[],[0,1,2,6,7,8]⟩,⟨[],[0,1,2,6,7,8]⟩,⟨[],[0,1,2,6,7,9]⟩,⟨[],[0,1,2,6,7,9,54]⟩,⟨[],[0,1,2,6]⟩,⟨[],[0,1,2,6]⟩]
def kJ:List aW:=[]
theorem sX:aO Try.prog Try.f29 tH=some (gA,kJ):=by kernel_rfl
def dU:AC:=
 (.seq (.region [RM 0 10 1,
 rq 1 11 (.bin .add (.tm 10) (ki 1)),
 RM 2 8 11] 3 [0,1,2,3,8])
 (.block 0
 (.loop
 (.seq (.seq (.region [RM 0 12 8,
 RM 1 13 2,
 rq 2 14 (.bin .lss (.tm 12) (.tm 13))] 3 [0,1,2,3,8,14])
 (.cond (.tm 14)
 .skip
 (.exit 0)))
 (.seq (.block 1
 (.seq (.region [RM 0 17 8,
 RM 1 9 17] 2 [0,1,2,3,8,9])
 (.block 2
 (.loop
 (.seq (.seq (.region [RM 0 18 9,
 RM 1 19 1,
 rq 2 20 (.bin .gtr (.tm 18) (.tm 19)),
 RM 3 21 20,
 GQ 4 22 (.move (.tm 3)) 21 true,
 GQ 5 23 (.move (.tm 0)) 21 true,
 GQ 6 24 (.move (.tm 9)) 21 true,
 GQ 7 25 (.idx 5 (.tm 23) (.tm 24)) 21 true,
 GQ 8 26 (.load 5 true (.tm 25)) 21 true,
 GQ 9 27 (.move (.tm 0)) 21 true,
 GQ 10 28 (.move (.tm 9)) 21 true,
 GQ 11 29 (.bin .sub (.tm 28) (ki 1)) 21 true,
 GQ 12 30 (.idx 5 (.tm 27) (.tm 29)) 21 true,
 GQ 13 31 (.load 5 true (.tm 30)) 21 true,
 GQ 14 32 (.t5 (.tm 22) [(.tm 26),(.tm 31)]) 21 true,
 GQ 15 33 (.bin .lss (.tm 32) (ki 0)) 21 true,
 rq 16 34 (.pick (.tm 21) (.tm 33) (.kv (.bool false)))] 17 [0,1,2,3,8,9,34])
 (.cond (.tm 34)
 .skip
 (.exit 2)))
 (.seq (.block 3
 (.region [RM 0 37 0,
 RM 1 38 9,
 RM 2 39 0,
 RM 3 40 9,
 rq 4 41 (.bin .sub (.tm 40) (ki 1)),
 RM 5 42 0,
 RM 6 43 9,
 rq 7 44 (.bin .sub (.tm 43) (ki 1)),
 rq 8 45 (.idx 5 (.tm 42) (.tm 44)),
 rq 9 46 (.load 5 true (.tm 45)),
 RM 10 47 0,
 RM 11 48 9,
 rq 12 49 (.idx 5 (.tm 47) (.tm 48)),
 rq 13 50 (.load 5 true (.tm 49)),
 rq 14 51 (.idx 5 (.tm 37) (.tm 38)),
 rn 15 (.store 5 true (.tm 51) (.tm 46)),
 rq 16 52 (.idx 5 (.tm 39) (.tm 41)),
 rn 17 (.store 5 true (.tm 52) (.tm 50))] 18 [0,1,2,3,8,9]))
 (.region [RM 0 35 9,
 rq 1 36 (.bin .sub (.tm 35) (ki 1)),
 RM 2 9 36] 3 [0,1,2,3,8,9])))))))
 (.region [RM 0 15 8,
 rq 1 16 (.bin .add (.tm 15) (ki 1)),
 RM 2 8 16] 3 [0,1,2,3,8]))))))
def nG:List Cert:=[⟨[],[0,1,2,3,8]⟩,⟨[],[0,1,2,3,8,14]⟩,⟨[],[0,1,2,3,8,9]⟩,⟨[cz 0,cz 1,cz 2,cz 3,cz 4,cz 5,cz 6,cz 7,cz 8,cz 9,cz 10,cz 11,cz 12,cz 13,cz 14,cz 15,cz 16],[0,1,2,3,8,9,34]⟩,⟨[cz 0,cz 1,cz 2,cz 3,cz 4,cz 5,cz 6,cz 7,cz 8,cz 9,cz 10,cz 11,cz 12,cz 13,cz 14,cz 15,cz 16,cz 17],[0,1,2,3,8,9]⟩,⟨[],[0,1,2,3,8,9]⟩,⟨[],[0,1,2,3,8]⟩]
def gU:List aW:=[]
theorem m9:aO Try.prog Try.f48 nG=some (dU,gU):=by kernel_rfl
end Go.Proofs.Ytmccpdapaccnoaa
end
section
namespace Go.AM
open Go.RowKit
def aaS (e' e:Env):Prop:=∀t,e' t=e t∨e' t= .dead
theorem aaS.refl (e:Env):aaS e e:=fun _=>.inl rfl
theorem ER.le {c:Cf} {T:Nat} {e e':Env} {a:Act} (he:ER c T e a) (h:aaS e' e):ER c T e' a:=by
 refine⟨he.1,he.2.1,fun t=> ?_⟩
 rcases h t with h1|h1
 ·rw[h1];exact he.2.2 t
 ·rw[h1];exact trivial
section
variable {P : Program} {T : Nat} {e : Env} {H : aA} {nx : Nat} {Q : AQ}
theorem AWP.le {x:AC} {e':Env} (hE:aaS e' e) (h:AWP P T x e' H nx Q):AWP P T x e H nx Q:=
 fun code hc c a hs he hN=>h code hc c a hs (he.le hE) hN
theorem aM.le {x:AC} {zs:List AC} {e':Env} (hE:aaS e' e) (h:aM P T (x::zs) e' H nx Q):aM P T (x::zs) e H nx Q:=AWP.le hE h
theorem aB.ofH {f:FuncId} {fn:Func} {code:Code} {ac:AC} {rs:List aW} {cs cs':List Cert} {args:List D} {K:D→aA→Nat→Prop}
 (hok:qY P f=true) (hf:P.funcs[f]?=some fn) (hb:fn.body=some code) (hc:compile P fn.ntmps code cs=some (ac,cs')) (hr:AJ P fn.results.toList=some rs) (hl:args.length≤fn.ntmps)
 (h: ∀Q:AQ,(∀ex e' H' nx' d,ex= .normal∨ex= .ret→yT H' e' rs=some d→K d H' nx'→Q ex e' H' nx')→AWP P fn.ntmps ac (Env.args 0 args) H nx Q):aB P f args H nx K:=by
 refine⟨hok,fun c vs hs hN hlen hrel=> ?_⟩
 refine calls_of_wp hf hb ?_
 have hcm:=JA _ _ _ _ hc
 have her:ER c fn.ntmps (Env.args 0 args) {tmps:=vs.toArray++Array.replicate (fn.ntmps-vs.toArray.size) undef,defers:=[]}:=by
  refine⟨by simp;omega,rfl,fun t=> ?_⟩
  rw[Env.ML]
  simp only[Nat.zero_le,if_true,Nat.sub_zero]
  cases hd:args[t]? with
  |none=>exact trivial
  |some d=>
   have ht:t<vs.length:=by rw[hlen];exact(List.getElem?_eq_some_iff.1 hd).1
   have hv:(vs.toArray++Array.replicate (fn.ntmps-vs.toArray.size) undef).getD t undef=vs[t]:=by
    rw[Array.getD_eq_getD_getElem?,Array.getElem?_append]
    simp[ht]
   rw[hv]
   exact hrel t d _ hd (List.getElem?_eq_getElem ht)
 refine wp_mono (h _ (fun ex e' H' nx' d h1 h2 h4=>(⟨h1,d,h2,h4⟩:(ex= .normal∨ex= .ret)∧ ∃d,yT H' e' rs=some d∧K d H' nx')) code hcm c _ hs her hN) ?_
 rintro ex a w ⟨aex,e',H',nx',c',rfl,rfl,p1,p2,p3,p4,p5,p6,d,q1,q3⟩
 obtain⟨v,hv,hd⟩:=aa3 p1 p3 hr q1
 have hfin:a.defers=[]∧ ∃v,(results fn a.tmps).run P c'.w= .ok v c'.w∧ ∃v' c'' r H'' nx',Ending.returned v= .returned v'∧c''.w=c'.w∧St c'' H''∧Step c H c'' H''∧(∀i,c''.N i→c.N i∨(nx≤i∧i<nx'))∧nx≤nx'∧fD c'' r v'∧K r H'' nx':=
  ⟨p3.2.1,v,hv,v,c',d,H',nx',rfl,rfl,p1,p2,p4,p5,hd,q3⟩
 rcases p6 with rfl|rfl
 ·exact hfin
 ·exact hfin
def cJ (P:Program) (f:FuncId) (fn:Func) (ac:AC) (rs:List aW):Prop:=
 ∀{args:List D} {H:aA} {nx:Nat} {KK:D→aA→Nat→Prop} (_hl:Nat.ble args.length fn.ntmps=true)
  (_h: ∀Q:AQ,(∀ex e2 H2 nx2 d,ex= .normal∨ex= .ret→yT H2 e2 rs=some d→KK d H2 nx2→Q ex e2 H2 nx2)→aM P fn.ntmps [ac] (Env.args 0 args) H nx Q),aB P f args H nx KK
theorem cJ.mk {P:Program} {f:FuncId} {fn:Func} {ac:AC} {rs:List aW} {cs:List Cert}
 (hf:P.funcs[f]?=some fn) (hok:qY P f=true) (hc:aO P fn cs=some (ac,rs)):cJ P f fn ac rs:=by
 intro args H nx KK hl h
 unfold aO at hc
 split at hc
 ·rename_i b hb
  split at hc
  ·rename_i ac' cs' rs' h1 h2
   simp only[Option.some.injEq,Prod.mk.injEq] at hc
   obtain⟨rfl,rfl⟩:=hc
   exact aB.ofH hok hf hb h1 h2 (Nat.le_of_ble_eq_true hl) fun Q hQ=>(h Q hQ).run
  ·simp at hc
 ·simp at hc
end
def CvX (F:Nat→Prop) (nx:Nat) (H H':aA):Prop:=∀i o',H' i=some o'→¬F i∧ ∃o,H i=some o∧(o'=o∨CvO H F id nx o' o)
theorem MR {c:Cf} {nx:Nat} {I':Nat→Prop} (hI: ∀b,c.I b→I' b) (hN: ∀i,c.N i→i<nx) {d:D1} {x:Value} (h:Rel c d x):Rel (c.conv nx nx id I') d x:=by
 have h0: ∀d x,bY c d x→bY (c.conv nx nx id I') d x:=by
  intro d x h
  cases d<;>simp only[bY] at h ⊢ <;>first
   |exact h.wT hI (fun _ _=>rfl)
   |exact⟨h.1,h.2.imp (fun h=>h) fun⟨h1,h2,h3⟩=>⟨h1,.inl ⟨hN _ h2,h2⟩,h3⟩⟩
   |exact⟨.inl ⟨hN _ h.1,h.1⟩,h.2⟩
   |exact h
 cases d with
 |clo f caps=>obtain⟨vs,hx,hl,hf⟩:=h;exact⟨vs,hx,hl,fun i d u h1 h2=>h0 _ _ (hf i d u h1 h2)⟩
 |_=>simp only[Rel] at h ⊢;exact h0 _ _ h
theorem ac6 {c:Cf} {nx:Nat} {I':Nat→Prop} (hI: ∀b,c.I b→I' b) (hN: ∀i,c.N i→i<nx) {d:D} {x:Value} (h:fD c d x):fD (c.conv nx nx id I') d x:=by
 have hV: ∀d x,jZ c d x→jZ (c.conv nx nx id I') d x:=by
  intro d x h
  cases d with
  |c d=>exact MR hI hN h
  |agg cs=>obtain⟨vs,hx,hl,hf⟩:=h;exact⟨vs,hx,hl,fun i d u h1 h2=>MR hI hN (hf i d u h1 h2)⟩
 cases d with
 |one d=>exact hV d x h
 |tup ds=>obtain⟨vs,hx,hl,hf⟩:=h;exact⟨vs,hx,hl,fun i d u h1 h2=>hV d u (hf i d u h1 h2)⟩
 |dead=>trivial
theorem YO {c c0:Cf} {H H0 H':aA} {F:Nat→Prop} {nx:Nat} (hs:St c H) (hstep:Step c0 H0 c H) (hN: ∀i,c.N i→i<nx) (hH:CvX F nx H H'):
 St (c.conv nx nx id (c.frI H F)) H'∧Step c0 H0 (c.conv nx nx id (c.frI H F)) H':=by
 have hO: ∀{i:Nat} {o':bA},H' i=some o'→¬F i∧ ∃o,H i=some o∧o'.n=o.n∧o'.ext=o.ext∧o'.rows.length≤o.rows.length∧(o.n=0→o'.rows=[]→o.rows=[]):=by
  intro i o' h
  obtain⟨h1,o,h2,rfl|h3⟩:=hH i o' h
  ·exact⟨h1,_,h2,rfl,rfl,Nat.le_refl _,fun _ h=>h⟩
  ·exact⟨h1,o,h2,h3.1,h3.2.1,h3.2.2.1,h3.2.2.2.1⟩
 refine⟨?_,?_⟩
 ·refine {named:= ?_,wf:= ?_,blk:= ?_,cells:= ?_,sep:= ?_,imm:= ?_,old:= ?_}
  ·intro id o' h
   obtain⟨_,o,h2,_⟩:=hO h
   exact .inl ⟨hN _ (hs.named _ o h2),hs.named _ o h2⟩
  ·intro id o' h
   obtain⟨_,o,h2,rfl|⟨h3,h4,h5,_,h6⟩⟩:=hH id o' h
   ·exact hs.wf _ _ h2
   ·obtain⟨k1,k2⟩:=hs.wf _ o h2
    refine⟨by omega,fun i r hr=> ?_⟩
    obtain⟨r0,h7,h8⟩:=h6 i r hr
    rw[h8.1,k2 i r0 h7,h3]
  ·intro id o' h he
   obtain⟨_,o,h2,h3,h4,h5,h7⟩:=hO h
   exact(hs.blk _ o h2 (by omega)).arW h3 h4 fun h0=>⟨h7 h0,fun hr=>by rw[hr] at h5;exact List.length_eq_zero_iff.1 (by simpa using h5)⟩
  ·intro id o' i j r d h h1 h2
   obtain⟨_,o,k2,rfl|⟨k3,k4,k5,_,k6⟩⟩:=hH id o' h
   ·obtain⟨u,k9,k10⟩:=hs.cells _ _ i j r d k2 h1 h2
    exact⟨u,k9,MR (fun b h=>.inl h) hN k10⟩
   ·obtain⟨r0,k7,k8⟩:=k6 i r h1
    have hj:j<r0.length:=by rw[←k8.1];exact(List.getElem?_eq_some_iff.1 h2).1
    obtain⟨u,k9,k10⟩:=hs.cells _ o i j r0 _ k2 k7 (List.getElem?_eq_getElem hj)
    refine⟨u,by rw[k3];exact k9,?_⟩
    exact PM hs (fun b h=>.inl h) (fun id o h1 h2 h3=>.inr ⟨id,o,h1,h2,h3,rfl⟩) (fun _ _=>rfl) (k8.2 j d _ h2 (List.getElem?_eq_getElem hj)) k10
  ·intro i j o o' hi hj he he' hne
   obtain⟨_,o1,k2,k3,k4,_⟩:=hO hi
   obtain⟨_,o2,k6,k7,k8,_⟩:=hO hj
   exact hs.sep i j o1 o2 k2 k6 (by omega) (by omega) hne
  ·intro i o' h he
   obtain⟨hnF,o,h2,h3,h4,_⟩:=hO h
   rintro(hI|⟨id2,o2,k1,k2,k3,k4⟩)
   ·exact hs.imm _ o h2 (by omega) hI
   ·have hne:id2≠i:=by rintro rfl;exact hnF k1
    exact hs.sep id2 i o2 o k2 h2 k3 (by omega) hne k4
  ·rintro b (hI|⟨id2,o2,k1,k2,k3,rfl⟩)
   ·exact hs.old b hI
   ·exact(hs.blk id2 o2 k2 k3).lt
 ·exact {
   ρ:=fun i hid=>hstep.ρ i hid
   N:=fun i hid=>.inl ⟨hN i (hstep.N i hid),hstep.N i hid⟩
   I:=fun b hb=>.inl (hstep.I b hb)
   I':=by
    rintro b (hI|⟨id2,o2,k1,k2,k3,rfl⟩)
    ·exact hstep.I' b hI
    ·exact .inr (hstep.own _ ⟨id2,o2,k2,k3,rfl⟩)
   size:=hstep.size
   os:=hstep.os
   tape:=hstep.tape
   output:=hstep.output
   frame:=hstep.frame
   own:=by
    rintro b ⟨id,o',h,he,hb⟩
    obtain⟨_,o,h2,h3,h4,_⟩:=hO h
    exact hstep.own b ⟨id,o,h2,by omega,hb⟩}
theorem aK {nx:Nat} {H:aA}:CvX noF nx H H:=fun _ o h=>⟨fun h=>h,o,h,.inl rfl⟩
theorem aM.gP {P:Program} {T:Nat} {e:Env} {H:aA} {nx:Nat} {Q:AQ} {x:AC} {zs:List AC} {β:Type} (E:β→Env) (Φ:β→aA→Nat→Prop) (μ:β→Nat) (b0:β) (h0: ∃F H1,CvE H F id nx (E b0) e∧CvX F nx H H1∧Φ b0 H1 nx)
 (h: ∀b H1 nx1,nx≤nx1→Φ b H1 nx1→∀K:Env→aA→Nat→Prop,(∀e' H' nx' b' F H2,nx1≤nx'→μ b'<μ b→CvE H' F id nx' (E b') e'→CvX F nx' H' H2→Φ b' H2 nx'→K e' H' nx')→aM P T [x] (E b) H1 nx1 (AQ.then K Q)):aM P T (.loop x::zs) e H nx Q:=by
 intro code hc c a hs he hN
 obtain⟨F0,H0,g1,g2,g3⟩:=h0
 have hc0: ∀{c1:Cf} {H1 H2:aA} {nx1:Nat} {F:Nat→Prop} {e1 e2:Env} {a:Act},St c1 H1→Step c H c1 H1→(∀i,c1.N i→i<nx1)→ER c1 T e1 a→CvE H1 F id nx1 e2 e1→CvX F nx1 H1 H2→
  ∃c2:Cf,c2.w=c1.w∧St c2 H2∧Step c H c2 H2∧ER c2 T e2 a∧ ∀i,c2.N i→c1.N i:=by
  intro c1 H1 H2 nx1 F e1 e2 a k1 k2 k3 k4 k5 k6
  obtain⟨q1,q2⟩:=YO k1 k2 k3 k6
  refine⟨c1.conv nx1 nx1 id (c1.frI H1 F),rfl,q1,q2,⟨k4.1,k4.2.1,fun t=>zD k1 (fun b h=>.inl h) (fun id o h1 h2 h3=>.inr ⟨id,o,h1,h2,h3,rfl⟩) (fun _ _=>rfl) (k5 t) (k4.2.2 t)⟩,fun i hi=> ?_⟩
  rcases hi with⟨_,hi⟩|⟨h1,h2,h3⟩
  ·exact hi
  ·omega
 cases hc with
 |loop h1=>
  obtain⟨c1,r1,r2,r3,r4,r5⟩:=hc0 hs (Step.refl c H) hN he g1 g2
  refine wp_loop_ghost (fun n a w=>∃b c1 H1 nx1,μ b=n∧c1.w=w∧St c1 H1∧ER c1 T (E b) a∧Step c H c1 H1∧(∀i,c1.N i→c.N i∨(nx≤i∧i<nx1))∧nx≤nx1∧Φ b H1 nx1) (μ b0) ⟨b0,c1,H0,nx,rfl,r1,r2,r4,r3,fun i hi=>.inl (r5 i hi),Nat.le_refl _,g3⟩ ?_
  rintro n a w ⟨b,c1,H1,nx1,rfl,rfl,j1,j2,j3,j4,j5,j6⟩
  refine wp_mono (h b H1 nx1 j5 j6 (fun e' H' nx'=>∃b' F H2,nx1≤nx'∧μ b'<μ b∧CvE H' F id nx' (E b') e'∧CvX F nx' H' H2∧Φ b' H2 nx') (fun _ _ _ b' F H2 h1 h2 h3 h4 h5=>⟨b',F,H2,h1,h2,h3,h4,h5⟩) _ h1 c1 a j1 j2 fun i hi=> ?_) fun ex a' w' ⟨aex,e',H',nx',c',hp⟩=> ?_
  ·rcases j4 i hi with h|h
   ·have:=hN i h;omega
   ·omega
  ·obtain⟨rfl,rfl,p1,p2,p3,p4,p5,p6⟩:=hp
   have hNc: ∀i,c'.N i→c.N i∨(nx≤i∧i<nx'):=by
    intro i hi
    rcases p4 i hi with h|h
    ·rcases j4 i h with h|h
     ·exact .inl h
     ·exact .inr ⟨h.1,by omega⟩
    ·exact .inr ⟨by omega,h.2⟩
   cases aex with
   |normal=>
    obtain⟨b',F,H2,q1,q2,q3,q4,q5⟩:=p6
    obtain⟨c2,s1,s2,s3,s4,s5⟩:=hc0 p1 (j3.trans p2) (fun i hi=>by rcases hNc i hi with h|h;have:=hN i h;omega;exact h.2) p3 q3 q4
    exact⟨μ b',q2,b',c2,H2,nx',rfl,s1,s2,s4,s3,fun i hi=>hNc i (s5 i hi),by omega,q5⟩
   |exit id=>exact⟨.exit id,e',H',nx',c',rfl,rfl,p1,j3.trans p2,p3,hNc,by omega,p6⟩
   |ret=>exact⟨.ret,e',H',nx',c',rfl,rfl,p1,j3.trans p2,p3,hNc,by omega,p6⟩
theorem aB.tW {P:Program} {f:FuncId} {args:List D} {H:aA} {nx:Nat} {K:D→aA→Nat→Prop}
 (h:aB P f args H nx fun r H' n'=>∃r2 H2 F,CvD H' F id n' r2 r∧CvX F n' H' H2∧K r2 H2 n'):aB P f args H nx K:=by
 refine⟨h.1,fun c vs hs hN hl hr=> ?_⟩
 refine(h.2 c vs hs hN hl hr).mono ?_
 rintro x w' ⟨v,c2,r,H2,n2,rfl,rfl,p1,p2,p3,p4,p5,r2,H3,F,q1,q2,q3⟩
 have hN2: ∀i,c2.N i→i<n2:=fun i hi=>by
  rcases p3 i hi with h|h
  ·have:=hN i h;omega
  ·exact h.2
 obtain⟨k1,k2⟩:=YO p1 p2 hN2 q2
 refine⟨v,c2.conv n2 n2 id (c2.frI H2 F),r2,H3,n2,rfl,rfl,k1,k2,fun i hi=> ?_,p4,zD p1 (fun b h=>.inl h) (fun id o h1 h2 h3=>.inr ⟨id,o,h1,h2,h3,rfl⟩) (fun _ _=>rfl) q1 p5,q3⟩
 rcases hi with⟨_,hi⟩|⟨h1,h2,h3⟩
 ·exact p3 i hi
 ·omega
section
variable {P : Program} {T : Nat} {e : Env} {H : aA} {nx : Nat} {Q : AQ}
theorem AWP.tW {x:AC} (e':Env) (H':aA) (F:Nat→Prop) (hE: ∀t,e' t=e t∨CvD H F id nx (e' t) (e t)) (hH:CvX F nx H H') (h:AWP P T x e' H' nx Q):AWP P T x e H nx Q:=by
 intro code hc c a hs he hN
 obtain⟨k1,k2⟩:=YO hs (Step.refl c H) hN hH
 refine wp_mono (h code hc (c.conv nx nx id (c.frI H F)) a k1 ⟨he.1,he.2.1,fun t=> ?_⟩ fun i hi=> ?_) ?_
 ·rcases hE t with h1|h1
  ·rw[h1]
   exact ac6 (fun b h=>.inl h) hN (he.2.2 t)
  ·exact zD hs (fun b h=>.inl h) (fun id o h1 h2 h3=>.inr ⟨id,o,h1,h2,h3,rfl⟩) (fun _ _=>rfl) h1 (he.2.2 t)
 ·rcases hi with⟨_,hi⟩|⟨h1,h2,h3⟩
  ·exact hN i hi
  ·omega
 ·rintro ex a w ⟨aex,e',H',nx',c',rfl,rfl,p1,p2,p3,p4,p5,p6⟩
  refine⟨aex,e',H',nx',c',rfl,rfl,p1,k2.trans p2,p3,fun i hi=> ?_,p5,p6⟩
  rcases p4 i hi with h|h
  ·rcases h with⟨_,hi⟩|⟨h1,h2,h3⟩
   ·exact .inl hi
   ·omega
  ·exact .inr h
theorem aM.tW {x:AC} {zs:List AC} (e':Env) (H':aA) (F:Nat→Prop) (hE: ∀t,e' t=e t∨CvD H F id nx (e' t) (e t)) (hH:CvX F nx H H') (h:aM P T (x::zs) e' H' nx Q):aM P T (x::zs) e H nx Q:=AWP.tW e' H' F hE hH h
theorem AWP.BW {x:AC} (h:(∀i,nx≤i→H i=none)→AWP P T x e H nx Q):AWP P T x e H nx Q:=
 fun code hc c a hs he hN=>h (fun i hi=>by
  cases ho:H i with
  |none=>rfl
  |some o=>have:=hN i (hs.named i o ho);omega) code hc c a hs he hN
theorem aM.BW {x:AC} {zs:List AC} (h:(∀i,nx≤i→H i=none)→aM P T (x::zs) e H nx Q):aM P T (x::zs) e H nx Q:=AWP.BW h
theorem BV {b:Nat} {l:List Nat} {H:aA} (h: ∀i,nx≤i→H i=none) (hb:nx≤b):msk b l H=H:=by
 funext i
 simp only[msk]
 split
 ·rename_i hi
  obtain⟨j,_,rfl⟩:=List.mem_map.1 hi
  exact(h _ (by omega)).symm
 ·rfl
theorem umS {b i:Nat} {l:List Nat} {H G:aA} {o:bA}:dT b l (H.set i o) G=if i∈l.map (b+ ·) then (dT b l H G).set i o else dT b l H G:=by
 split
 ·rename_i h
  funext j;simp only[dT,aA.set]
  by_cases hj:j=i
  ·subst hj;simp only[h,if_true]
  ·simp only[hj,if_false]
 ·rename_i h
  funext j;simp only[dT,aA.set]
  by_cases hj:j=i
  ·subst hj;simp only[h,if_false]
  ·simp only[hj,if_false]
theorem umD {b i:Nat} {l:List Nat} {H G:aA}:dT b l (H.del i) G=if i∈l.map (b+ ·) then (dT b l H G).del i else dT b l H G:=by
 split
 ·rename_i h
  funext j;simp only[dT,aA.del]
  by_cases hj:j=i
  ·subst hj;simp only[h,if_true]
  ·simp only[hj,if_false]
 ·rename_i h
  funext j;simp only[dT,aA.del]
  by_cases hj:j=i
  ·subst hj;simp only[h,if_false]
  ·simp only[hj,if_false]
theorem umB {b:Nat} {l:List Nat} {G:aA}:dT b l G G=G:=by
 funext j;simp only[dT];split<;>rfl
end
end Go.AM
end
section
namespace Go.AM
end Go.AM
end
section
namespace Go.AM
structure Sam (k:Int) (s s':TSt):Prop where
 asked:s'.asked.getD k.toNat default=s.asked.getD k.toNat default
 wait: ∀n,(k,n)∈s'.wait.map key↔(k,n)∈s.wait.map key
 done: ∀n,(k,n)∈s'.done.map key↔(k,n)∈s.done.map key
theorem Sam.refl {k:Int} {s:TSt}:Sam k s s:=⟨rfl,fun _=>.rfl,fun _=>.rfl⟩
theorem Sam.symm {k:Int} {s s':TSt} (h:Sam k s s'):Sam k s' s:=⟨h.asked.symm,fun n=>(h.wait n).symm,fun n=>(h.done n).symm⟩
theorem Sam.trans {k:Int} {s s' s2:TSt} (h:Sam k s s') (h2:Sam k s' s2):Sam k s s2:=⟨h2.asked.trans h.asked,fun n=>(h2.wait n).trans (h.wait n),fun n=>(h2.done n).trans (h.done n)⟩
end Go.AM
end
section
namespace Go.AM
end Go.AM
end
section
namespace Go.AM
def kP (q:Req):List Int:=bE q.addr q.many q.wrap
def hB (br:Nat) (who:Int) (q:Req) (h:List Int):List Int:=if br=5 then iU h (kP q) else if br=3 then h.set (who*2+q.id).toNat q.addr else h
def u9 (a b:Req):Prop:=∀x∈kP a,x∉kP b
theorem u9.symm {a b:Req} (h:u9 a b):u9 b a:=fun x hx hy=>h x hy hx
def ajR (c:Cfg) (a b:Ev):Prop:=a.who≠b.who∧ ¬(a.kind=3∧b.kind=3)∧(a.kind=2→b.kind=2→u9 (bT c a.who a.n) (bT c b.who b.n))
instance {a b:Req}:Decidable (u9 a b):=by unfold u9;infer_instance
instance {c:Cfg} {a b:Ev}:Decidable (ajR c a b):=by unfold ajR;infer_instance
theorem SD: ∀{l l':List Job},kW l→kW l'→(∀x,x∈l↔x∈l')→l=l'
 | [],[],_,_,_=>rfl
 | [],y::l',_,_,hm=>by have:=(hm y).2 (by simp);cases this
 |x::l,[],_,_,hm=>by have:=(hm x).1 (by simp);cases this
 |x::l,y::l',h,h',hm=>by
  have irr: ∀z:Job,uL z z=false:=fun z=>by simp[uL]
  obtain⟨h1,h2⟩:=List.pairwise_cons.1 h
  obtain⟨h3,h4⟩:=List.pairwise_cons.1 h'
  have hxy:x=y:=by
   rcases List.mem_cons.1 ((hm x).1 (by simp)) with hx|hx
   ·exact hx
   ·rcases List.mem_cons.1 ((hm y).2 (by simp)) with hy|hy
    ·exact hy.symm
    ·have b1:=h3 x hx
     have b2:=h1 y hy
     rw[qL] at b1 b2
     omega
  subst hxy
  congr 1
  refine SD h2 h4 fun z=>⟨fun hz=> ?_,fun hz=> ?_⟩
  ·rcases List.mem_cons.1 ((hm z).1 (by simp[hz])) with he|he
   ·subst he;have:=h1 z hz;rw[irr] at this;cases this
   ·exact he
  ·rcases List.mem_cons.1 ((hm z).2 (by simp[hz])) with he|he
   ·subst he;have:=h3 z hz;rw[irr] at this;cases this
   ·exact he
end Go.AM
end
section
namespace Go.AM
theorem wW {c:Cfg} {s:TSt} {e:Ev} {l:List Ev}:runM c s (e::l)=runM c (lS c s e) l:=rfl
theorem ZL {c:Cfg} {s:TSt} {a b:List Ev}:runM c s (a++b)=runM c (runM c s a) b:=by simp[runM]
theorem xB {c:Cfg} {s:TSt} {e:Ev} {l:List Ev}:F9 c s (e::l)↔X6 c s e=0∧F9 c (lS c s e) l:=by
 constructor
 ·intro h
  refine⟨h 0 (by simp),fun k hk=> ?_⟩
  have:=h (k+1) (by simpa using hk)
  rwa [List.take_succ_cons,wW,List.getD_cons_succ] at this
 ·rintro⟨h1,h2⟩ k hk
  match k with
  |0=>exact h1
  |k+1=>
   rw[List.take_succ_cons,wW,List.getD_cons_succ]
   exact h2 k (by simpa using hk)
theorem WS {c:Cfg} {s:TSt} {a b:List Ev}:F9 c s (a++b)↔F9 c s a∧F9 c (runM c s a) b:=by
 induction a generalizing s with
 |nil=>simp[runM,pV]
 |cons e a ih=>rw[List.cons_append,xB,xB,ih,wW,and_assoc]
end Go.AM
end
section
namespace Go.AM
end Go.AM
end
section
namespace Go.AM
structure aTQ (s:TSt):Prop where
 words:s.words.length<2^21
 holds:s.holds.length<2^21
 asked:s.asked.length<2^21
 wait:s.wait.length<2^21
 done:s.done.length<2^21
 told:s.told.length<2^21
 data: ∀j∈s.wait++s.done++s.told,j.rsp.data.length<2^21
def as5 (c:Cfg) (j:Job):Prop:=pA j.rsp∧j.rsp.id=(bT c j.who j.n).id
theorem zG {l:List Job} (h:kW l):(l.map key).Nodup:=by
 refine List.pairwise_map.2 (h.imp ?_)
 intro a b hab he
 rw[qL] at hab
 simp only[key,Prod.mk.injEq] at he
 omega
theorem ZP {l:List Job} {who n:Int}:0≤bK (iM who n) l↔(who,n)∈l.map key:=by
 rw[cH,List.mem_map]
 refine⟨fun⟨x,hx,h⟩=>⟨x,hx,?_⟩,fun⟨x,hx,h⟩=>⟨x,hx,?_⟩⟩
 ·have:=of_decide_eq_true h;simp[key,this.1,this.2]
 ·simp only[key,Prod.mk.injEq] at h;exact decide_eq_true h
theorem BA.apart {c:Cfg} {s:TSt} (h:BA c s):(s.told.map key).Nodup∧(∀j∈s.told,key j∉s.wait.map key∧key j∉s.done.map key)∧(∀j∈s.done,key j∉s.wait.map key):=by
 have hn:=h.nodup
 unfold keys at hn
 rw[List.map_append,List.map_append,List.nodup_append,List.nodup_append] at hn
 obtain⟨⟨h1,h2,h3⟩,h4,h5⟩:=hn
 refine⟨h4,fun j hj=>⟨fun hm=> ?_,fun hm=> ?_⟩,fun j hj hm=> ?_⟩
 ·exact h5 _ (List.mem_append_left _ hm) _ (List.mem_map_of_mem hj) rfl
 ·exact h5 _ (List.mem_append_right _ hm) _ (List.mem_map_of_mem hj) rfl
 ·exact h3 _ hm _ (List.mem_map_of_mem hj) rfl
theorem aEA {l:List Int} {lo up:Int} (h: ∀i,i<l.length→lo≤l.getD i default∧l.getD i default≤up):All l lo up:=fun x hx=>by
 obtain⟨i,hi,rfl⟩:=List.mem_iff_getElem.1 hx
 simpa [List.getD,hi] using h i hi
theorem aj1 {l:List Int} {lo up:Int} (h:All l lo up) {i:Nat} (hi:i<l.length):lo≤l.getD i default∧l.getD i default≤up:=h _ (by simp[List.getD,hi])
end Go.AM
end
section
namespace Go.AM
structure fC where
 who:Int
 n:Int
 left:Int
 deriving Inhabited,DecidableEq
structure fR where
 next:Int
 queue:List Int
 out:List fC
 last:Int
 deriving Inhabited,DecidableEq
structure nY where
 pipe:List fC
 done:List Job
 last:Int
 deriving Inhabited,DecidableEq
structure CSt where
 words:List Int
 holds:List Int
 bM:List fR
 dD:List nY
 told:List Job
 deriving Inhabited,DecidableEq
structure CIn where
 ready:List Bool
 n9:List Bool
 send:List Bool
 deriving Inhabited,DecidableEq
def gZ (m:List Rng) (q:Req):Int:=if bV m (bE q.addr q.many q.wrap)<0 then 3 else (m.getD (bV m (bE q.addr q.many q.wrap)).toNat default).K5
def aF (s:CSt) (k:Nat):fR:=s.bM.getD k default
def aL (s:CSt) (k:Nat):nY:=s.dD.getD k default
def jX (l:List Job):List Job:=l.foldl BM []
def jJ (s:CSt) (k:Nat):List Job:=(aF s k).queue.map fun n=>⟨k,n,oW⟩
def hJ (s:CSt) (k:Nat):List Job:=(aL s k).pipe.map fun j=>⟨j.who,j.n,oW⟩
def qU (s:CSt):List Job:=(List.range s.bM.length).flatMap (jJ s)++(List.range s.dD.length).flatMap (hJ s)
def uQ (s:CSt):List Job:=(List.range s.dD.length).flatMap fun k=>(aL s k).done
def cX (s:CSt):TSt:=⟨s.words,s.holds,s.bM.map (·.next),jX (qU s),jX (uQ s),s.told⟩
def B3 {α:Type} (l:List α) (k:Nat):List α:=l.take k++l.drop (k+1)
def isC (n:Int) (j:fC):Bool:=decide (j.n=n)
def PE (l:List fC) (n:Int):List fC:=B3 l (bK (isC n) l).toNat
inductive Mic where
 |tell (who st:Nat)
 |tick (st:Nat)
 |work (st:Nat)
 |adm (who st:Nat)
 |ask (who:Nat)
def HV (c:Cfg) (s:CSt) (who st:Nat):Prop:=0<(aF s who).queue.length∧(aF s who).out.length<4∧gZ c.map (bT c who ((aF s who).queue.getD 0 default))=st∧
 ∀j∈(aF s who).out,(bT c who j.n).id=(bT c who ((aF s who).queue.getD 0 default)).id→j.left=st
instance {c:Cfg} {s:CSt} {who st:Nat}:Decidable (HV c s who st):=by unfold HV;infer_instance
def EH (c:Cfg) (s:CSt):Mic→Prop
 | .tell who st=>who<3∧st<4∧0<(aL s st).done.length∧((aL s st).done.getD 0 default).who=who
 | .tick st=>st<4∧0<(aL s st).pipe.length∧0<((aL s st).pipe.getD 0 default).left
 | .work st=>st<4∧0<(aL s st).pipe.length∧ ¬0<((aL s st).pipe.getD 0 default).left∧(aL s st).done.length<2
 | .adm who st=>who<3∧st<4∧(aL s st).pipe.length<2∧HV c s who st
 | .ask who=>who<3∧(aF s who).queue.length<2∧(aF s who).next<(c.cP.getD who default).length
def iF (s:CSt) (st:Nat):Job:=(aL s st).done.getD 0 default
def bI (s:CSt) (st:Nat):fC:=(aL s st).pipe.getD 0 default
def jD (c:Cfg) (s:CSt) (st:Nat):(List Int×List Int)×Rsp:=doM c.map s.words s.holds (bI s st).who (bT c (bI s st).who (bI s st).n)
def aR (c:Cfg) (s:CSt):Mic→CSt
 | .tell who st=>{s with told:=s.told++[iF s st],dD:=s.dD.set st {aL s st with done:=(aL s st).done.drop 1},bM:=s.bM.set who {aF s who with out:=PE (aF s who).out (iF s st).n,last:=st}}
 | .tick st=>{s with dD:=s.dD.set st {aL s st with pipe:=(aL s st).pipe.set 0 {bI s st with left:=(bI s st).left-1}}}
 | .work st=>{s with words:=(jD c s st).1.1,holds:=(jD c s st).1.2,dD:=s.dD.set st {aL s st with pipe:=(aL s st).pipe.drop 1,done:=(aL s st).done++[⟨(bI s st).who,(bI s st).n,(jD c s st).2⟩]}}
 | .adm who st=>{s with bM:=s.bM.set who {aF s who with queue:=(aF s who).queue.drop 1,out:=(aF s who).out++[⟨who,(aF s who).queue.getD 0 default,st⟩]},dD:=s.dD.set st {aL s st with pipe:=(aL s st).pipe++[⟨who,(aF s who).queue.getD 0 default,c.lat.getD st default⟩],last:=who}}
 | .ask who=>{s with bM:=s.bM.set who {aF s who with queue:=(aF s who).queue++[(aF s who).next],next:=(aF s who).next+1}}
def y0 (s:CSt):Mic→List Ev
 | .tell who st=>[⟨3,who,(iF s st).n⟩]
 | .work st=>[⟨2,(bI s st).who,(bI s st).n⟩]
 | .ask who=>[⟨1,who,(aF s who).next⟩]
 |_=>[]
theorem fH (l:List Job):(jX l).Perm l:=by
 have h: ∀(l acc:List Job),(l.foldl BM acc).Perm (acc++l):=by
  intro l
  induction l with
  |nil=>intro acc;simp
  |cons x l ih=>
   intro acc
   simp only[List.foldl_cons]
   refine(ih _).trans ?_
   refine((nE acc x).append_right l).trans ?_
   simpa using List.perm_middle.symm
 simpa [jX] using h l []
theorem J9 {l:List Job} (hn:(l.map key).Nodup):kW (jX l):=by
 have h: ∀(l acc:List Job),kW acc→((acc++l).map key).Nodup→kW (l.foldl BM acc):=by
  intro l
  induction l with
  |nil=>intro acc hs _;exact hs
  |cons x l ih=>
   intro acc hs hn
   simp only[List.foldl_cons]
   have hp:(BM acc x++l).Perm (acc++x::l):=((nE acc x).append_right l).trans (by simpa using List.perm_middle.symm)
   refine ih _ (FW hs fun hm=> ?_) ((hp.map key).nodup_iff.2 hn)
   rw[List.map_append,List.nodup_append] at hn
   exact hn.2.2 _ hm (key x) (by simp) rfl
 exact h l [] List.Pairwise.nil (by simpa using hn)
theorem GN {l l':List Job} (hs:kW l') (hp:l.Perm l'):jX l=l':=
 SD (J9 ((hp.map key).nodup_iff.2 (zG hs))) hs fun x=>((fH l).trans hp).mem_iff
theorem aoD {β:Type} {n k:Nat} (hk:k<n): ∃a b:List Nat,List.range n=a++k::b∧ ∀f g:Nat→List β,(∀i,i≠k→f i=g i)→a.flatMap f=a.flatMap g∧b.flatMap f=b.flatMap g:=by
 obtain⟨a,b,h⟩:=List.append_of_mem (List.mem_range.2 hk)
 have hn:(List.range n).Nodup:=List.nodup_range
 rw[h,List.nodup_append] at hn
 obtain⟨h1,h2,h3⟩:=hn
 refine⟨a,b,h,fun f g hfg=>⟨?_,?_⟩⟩
 ·simp only[List.flatMap_def]
  congr 1
  exact List.map_congr_left fun i hi=>hfg i fun he=>h3 i hi k (by simp) he
 ·simp only[List.flatMap_def]
  congr 1
  exact List.map_congr_left fun i hi=>hfg i fun he=>(List.nodup_cons.1 h2).1 (he▸hi)
theorem tE {β:Type} [DecidableEq β] {n k:Nat} (hk:k<n) {f g:Nat→List β} (hfg: ∀i,i≠k→f i=g i) (z:β):((List.range n).flatMap f).count z+(g k).count z=((List.range n).flatMap g).count z+(f k).count z:=by
 obtain⟨a,b,h1,h2⟩:=aoD (β:=β) hk
 obtain⟨h3,h4⟩:=h2 f g hfg
 rw[h1]
 simp only[List.flatMap_append,List.flatMap_cons,List.count_append]
 rw[h3,h4]
 omega
end Go.AM
end
