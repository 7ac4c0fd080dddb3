/- Texts laid together by a program: rules, contracts and the walk that leads to the law. -/
import Derived.Test.YtegiblhkjfiooaaGreatPu18
import Derived.Test.YtegiblhkjfiooaaGreatPu20
import Derived.Test.YtegiblhkjfiooaaGreatPu3
set_option linter.unusedVariables false
set_option linter.unusedSimpArgs false
set_option linter.unusedSectionVars false
section
namespace Go.AM
theorem aN1 {L:List (List D1)} (h: ∀r∈L,∃v:Int,r=[.v (.int .i64 v)]) {x:Int} (h1:0≤x) (h2:x<L.length): ∃v:Int,L[x.toNat]?=some [.v (.int .i64 v)]:=by
 have h3:x.toNat<L.length:=by omega
 obtain⟨v,hv⟩:=h _ (List.getElem_mem h3)
 exact⟨v,by rw[List.getElem?_eq_getElem h3,hv]⟩
end Go.AM
namespace Go.Proofs.YtegiblhkjfiooaaGreat
open Go Go.AM
set_option maxRecDepth 100000
set_option maxHeartbeats 20000000
section
variable {H : aA} {nx : Nat} {K : D → aA → Nat → Prop}
def rqB (b1 b2 c1 c2:Nat) (q:Req):List D1:=[cI q.id,cI q.kind,cI q.addr,cI q.many,cB q.wrap,.osl 1 b1 0 q.data.length c1,.osl 1 b2 0 q.lanes.length c2]
theorem aSU {l:List Int} {p:Nat} {Q:AQ} (hQ: ∀ex e2 H2 nx2 d nh d2 H3 F σ,ex=AEx.normal∨ex=AEx.ret→yT H2 e2 E5=some d→CvR 1 d H2 nh d2 H3 F σ→(nh=1∧ ∃o',H3=hp [(0,o')]∧C7 o'∧ ∃(p':Nat) (q:Req),o'=rdO l p'∧p≤p'∧p'≤p+45∧d2=dA (eB q)∧(q.data.length≤8∧q.lanes.length≤8))→Q ex e2 H2 nx2)
 {e2:Env} {H2:aA} {nx2 b1 b2 n1 n2 c1 c2 m1 m2 p':Nat} {id kind addr many:Int} {wrap:Bool} {D L:List Int} (h1:yT H2 e2 E5=some (dA [cI id,cI kind,cI addr,cI many,cB wrap,.osl 1 b1 0 n1 c1,.osl 1 b2 0 n2 c2])) (h2:H2 0=some (rdO l p')) (h3:H2 b1=some ⟨1,m1,D.map aJ⟩) (h4:H2 b2=some ⟨1,m2,L.map aJ⟩)
 (h5:p≤p'∧p'≤p+45) (h6:n1=D.length∧n2=L.length) (h7:n1≤c1∧n2≤c2∧b1≠0∧b2≠0∧n1≤8∧n2≤8):Q .ret e2 H2 nx2:=by
 obtain⟨h7,h8,h9,h10,h11,h12⟩:=h7
 obtain⟨rfl,rfl⟩:=h6
 exact lA hQ (dA (eB ⟨id,kind,addr,many,wrap,D,L⟩)) _ _ h1 (aH (bB rfl) (aH (bB rfl) (aH (bB rfl) (aH (bB rfl) (aH (bB rfl) (aH (bW bF h3 rfl h7 (by simpa using h9)) (aH (bW bF h4 rfl h8 (by simpa using h10)) eP))))))) h2 (aV _ _) ⟨p',_,rfl,h5.1,h5.2,rfl,h11,h12⟩
theorem aQK (l:List Int) (p:Nat) (hl:kZ l) (hp50:p+45<2^50):aB Tryz.prog tS [dP 2 0,dI 1] (hp [(0,rdO l p)]) 1
 fun rr H' n'=>n'=1∧ ∃o',H'=hp [(0,o')]∧C7 o'∧ ∃(p':Nat) (q:Req),o'=rdO l p'∧p≤p'∧p'≤p+45∧rr=dA (eB q)∧(q.data.length≤8∧q.lanes.length≤8):=by
 refine QN rfl fun Q hQ=> ?_
 unfold xW
 (refine aM.asL fun K hK=> ?_);(simp only[go_sem];try simp (disch:=omega) only[Iw]);(refine hK _ _ _ ?_;clear hK K)
 refine aM.join 2 (α:={u:Rq//(0≤u.id∧u.id≤1)∧(1≤u.kind∧u.kind≤4)∧(0≤u.addr∧u.addr≤63)∧(u.many=1∨u.many=2∨u.many=4)∧p≤u.p∧u.p≤p+11})
  (fun b u=>en [(5,dP 7 (b+1)),(4,dP 7 b),(1,dI 1),(0,dP 2 0)]) (fun b u=>hp [(0,rdO l u.1.p),(b,⟨7,1,[rq0 0 0 0 0 false]⟩),(b+1,⟨7,1,[rq0 u.1.id u.1.kind u.1.addr u.1.many u.1.wrap]⟩)]) (fun KJ hKJ=> ?_) ?_
 ·repeat' (first| (first| (with_reducible refine Y2 fun K hK=> ?_)| (refine aX hl (by omega) (by omega) (by omega) rfl (fun x h1 h2=> ?_))| (refine SE hl (by omega) (by omega) rfl (fun pa xa ha1 ha2 ha3=> ?_)))<;>(simp only[go_sem];try simp (disch:=omega) only[Iw])|refine⟨by omega,?_⟩|fail)
  have hx:x=0∨x=1∨x=2∨x=3:=by omega
  rcases hx with rfl|rfl|rfl|rfl
  all_goals simp only[go_sem];try simp (disch:=omega) only[Iw]
  all_goals repeat' (first| (with_reducible (refine hK _ _ _ ?_;clear hK K))| (refine aX hl (by omega) (by omega) (by omega) rfl (fun x h1 h2=> ?_))<;>(simp only[go_sem])| ((with_reducible refine Y0 ?_);simp only[AQ.then,AQ.blk])|fail)
  all_goals rename_i id hid1 hid2 kind hkind1 hkind2 _ _
  ·refine hKJ _ _ _ ⟨⟨id,1+kind,xa,1,decide (x=0),pa+1+1⟩,by dsimp only;omega,by dsimp only;omega,by dsimp only;omega,by dsimp only;omega,by dsimp only;omega,by dsimp only;omega⟩ (by(refine cR [1,18,0] (by omega) (by repeat' (first| (with_reducible first|exact C1|refine C2 ?_ ?_)| ((with_reducible refine C0 ?_);exact CE (by omega) rfl)| ((with_reducible refine D0 ?_);first|exact CA rfl|refine CJ ?_)|fail)) ⟨⟨by simp,by simp[sgL],_,rfl,bS (aV _ _)⟩,⟨by simp,by simp[sgL],_,rfl,aP (by(try unfold rq0);repeat' (first| (with_reducible first|exact C3|refine C4 ?_ ?_)| ((with_reducible refine C0 ?_);first|exact CB rfl|exact CC)|fail))⟩,⟨by simp,by simp[sgL],_,rfl,aP (by(try unfold rq0);repeat' (first| (with_reducible first|exact C3|refine C4 ?_ ?_)| ((with_reducible refine C0 ?_);first|exact CB rfl|exact CC)|fail))⟩,trivial⟩ (by simp[sgL])))
  ·refine hKJ _ _ _ ⟨⟨id,1+kind,xa,1,decide (x=0),pa+1+1⟩,by dsimp only;omega,by dsimp only;omega,by dsimp only;omega,by dsimp only;omega,by dsimp only;omega,by dsimp only;omega⟩ (by(refine cR [1,18,0] (by omega) (by repeat' (first| (with_reducible first|exact C1|refine C2 ?_ ?_)| ((with_reducible refine C0 ?_);exact CE (by omega) rfl)| ((with_reducible refine D0 ?_);first|exact CA rfl|refine CJ ?_)|fail)) ⟨⟨by simp,by simp[sgL],_,rfl,bS (aV _ _)⟩,⟨by simp,by simp[sgL],_,rfl,aP (by(try unfold rq0);repeat' (first| (with_reducible first|exact C3|refine C4 ?_ ?_)| ((with_reducible refine C0 ?_);first|exact CB rfl|exact CC)|fail))⟩,⟨by simp,by simp[sgL],_,rfl,aP (by(try unfold rq0);repeat' (first| (with_reducible first|exact C3|refine C4 ?_ ?_)| ((with_reducible refine C0 ?_);first|exact CB rfl|exact CC)|fail))⟩,trivial⟩ (by simp[sgL])))
  ·refine hKJ _ _ _ ⟨⟨id,1+kind,xa,2,decide (x=0),pa+1+1⟩,by dsimp only;omega,by dsimp only;omega,by dsimp only;omega,by dsimp only;omega,by dsimp only;omega,by dsimp only;omega⟩ (by(refine cR [1,18,0] (by omega) (by repeat' (first| (with_reducible first|exact C1|refine C2 ?_ ?_)| ((with_reducible refine C0 ?_);exact CE (by omega) rfl)| ((with_reducible refine D0 ?_);first|exact CA rfl|refine CJ ?_)|fail)) ⟨⟨by simp,by simp[sgL],_,rfl,bS (aV _ _)⟩,⟨by simp,by simp[sgL],_,rfl,aP (by(try unfold rq0);repeat' (first| (with_reducible first|exact C3|refine C4 ?_ ?_)| ((with_reducible refine C0 ?_);first|exact CB rfl|exact CC)|fail))⟩,⟨by simp,by simp[sgL],_,rfl,aP (by(try unfold rq0);repeat' (first| (with_reducible first|exact C3|refine C4 ?_ ?_)| ((with_reducible refine C0 ?_);first|exact CB rfl|exact CC)|fail))⟩,trivial⟩ (by simp[sgL])))
  ·refine hKJ _ _ _ ⟨⟨id,1+kind,xa,4,decide (x=0),pa+1+1⟩,by dsimp only;omega,by dsimp only;omega,by dsimp only;omega,by dsimp only;omega,by dsimp only;omega,by dsimp only;omega⟩ (by(refine cR [1,18,0] (by omega) (by repeat' (first| (with_reducible first|exact C1|refine C2 ?_ ?_)| ((with_reducible refine C0 ?_);exact CE (by omega) rfl)| ((with_reducible refine D0 ?_);first|exact CA rfl|refine CJ ?_)|fail)) ⟨⟨by simp,by simp[sgL],_,rfl,bS (aV _ _)⟩,⟨by simp,by simp[sgL],_,rfl,aP (by(try unfold rq0);repeat' (first| (with_reducible first|exact C3|refine C4 ?_ ?_)| ((with_reducible refine C0 ?_);first|exact CB rfl|exact CC)|fail))⟩,⟨by simp,by simp[sgL],_,rfl,aP (by(try unfold rq0);repeat' (first| (with_reducible first|exact C3|refine C4 ?_ ?_)| ((with_reducible refine C0 ?_);first|exact CB rfl|exact CC)|fail))⟩,trivial⟩ (by simp[sgL])))
 rintro⟨⟨id,kind,addr,many,wrap,q⟩,f1,f2,f3,f4,f5,f6⟩
 dsimp only at f1 f2 f3 f4 f5 f6
 refine aM.join 2 (α:={u:Rq//((0≤u.id∧u.id≤1)∧(1≤u.kind∧u.kind≤4)∧(0≤u.addr∧u.addr≤63)∧(u.many=1∨u.many=2∨u.many=4)∧p≤u.p∧u.p≤p+12)∧(3≤u.kind→u.many=1)})
  (fun b u=>en [(5,dP 7 (b+1)),(4,dP 7 b),(1,dI 1),(0,dP 2 0)]) (fun b u=>hp [(0,rdO l u.1.p),(b,⟨7,1,[rq0 0 0 0 0 false]⟩),(b+1,⟨7,1,[rq0 u.1.id u.1.kind u.1.addr u.1.many u.1.wrap]⟩)]) (fun KJ hKJ=> ?_) ?_
 ·repeat' (first| (with_reducible first| (refine hK _ _ _ ?_;clear hK K)| (refine hA ?_;clear hA hB A B)| (refine hB ?_;clear hA hB A B)|refine Z1 ?_|refine Z2 ?_|refine Z6 (fun h=> ?_) fun h=> ?_)| (first| (with_reducible first|refine Y2 fun K hK=> ?_|refine Y3 fun A B hA hB=> ?_)| (refine aX hl (by omega) (by omega) (by omega) rfl (fun x h1 h2=> ?_)))<;>(simp only[go_sem,rq0])| ((with_reducible refine Y0 ?_);simp only[AQ.then,AQ.blk])|refine⟨by omega,?_⟩|fail)
  ·have hx:x=0∨x=1∨x=2∨x=3:=by omega
   rcases hx with rfl|rfl|rfl|rfl
   all_goals simp only[go_sem];try simp (disch:=omega) only[Iw]
   all_goals repeat' (first| (with_reducible (refine hK _ _ _ ?_;clear hK K))| ((with_reducible refine Y0 ?_);simp only[AQ.then,AQ.blk])|fail)
   ·refine hKJ _ _ _ ⟨⟨id,kind,0,1,wrap,q+1⟩,by dsimp only;omega,by dsimp only;omega⟩ (by(refine cR [2,3,0] (by omega) (by repeat' (first| (with_reducible first|exact C1|refine C2 ?_ ?_)| ((with_reducible refine C0 ?_);exact CE (by omega) rfl)| ((with_reducible refine D0 ?_);first|exact CA rfl|refine CJ ?_)|fail)) ⟨⟨by simp,by simp[sgL],_,rfl,bS (aV _ _)⟩,⟨by simp,by simp[sgL],_,rfl,aP (by(try unfold rq0);repeat' (first| (with_reducible first|exact C3|refine C4 ?_ ?_)| ((with_reducible refine C0 ?_);first|exact CB rfl|exact CC)|fail))⟩,⟨by simp,by simp[sgL],_,rfl,aP (by(try unfold rq0);repeat' (first| (with_reducible first|exact C3|refine C4 ?_ ?_)| ((with_reducible refine C0 ?_);first|exact CB rfl|exact CC)|fail))⟩,trivial⟩ (by simp[sgL])))
   ·refine hKJ _ _ _ ⟨⟨id,kind,1,1,wrap,q+1⟩,by dsimp only;omega,by dsimp only;omega⟩ (by(refine cR [2,3,0] (by omega) (by repeat' (first| (with_reducible first|exact C1|refine C2 ?_ ?_)| ((with_reducible refine C0 ?_);exact CE (by omega) rfl)| ((with_reducible refine D0 ?_);first|exact CA rfl|refine CJ ?_)|fail)) ⟨⟨by simp,by simp[sgL],_,rfl,bS (aV _ _)⟩,⟨by simp,by simp[sgL],_,rfl,aP (by(try unfold rq0);repeat' (first| (with_reducible first|exact C3|refine C4 ?_ ?_)| ((with_reducible refine C0 ?_);first|exact CB rfl|exact CC)|fail))⟩,⟨by simp,by simp[sgL],_,rfl,aP (by(try unfold rq0);repeat' (first| (with_reducible first|exact C3|refine C4 ?_ ?_)| ((with_reducible refine C0 ?_);first|exact CB rfl|exact CC)|fail))⟩,trivial⟩ (by simp[sgL])))
   ·refine hKJ _ _ _ ⟨⟨id,kind,16,1,wrap,q+1⟩,by dsimp only;omega,by dsimp only;omega⟩ (by(refine cR [2,3,0] (by omega) (by repeat' (first| (with_reducible first|exact C1|refine C2 ?_ ?_)| ((with_reducible refine C0 ?_);exact CE (by omega) rfl)| ((with_reducible refine D0 ?_);first|exact CA rfl|refine CJ ?_)|fail)) ⟨⟨by simp,by simp[sgL],_,rfl,bS (aV _ _)⟩,⟨by simp,by simp[sgL],_,rfl,aP (by(try unfold rq0);repeat' (first| (with_reducible first|exact C3|refine C4 ?_ ?_)| ((with_reducible refine C0 ?_);first|exact CB rfl|exact CC)|fail))⟩,⟨by simp,by simp[sgL],_,rfl,aP (by(try unfold rq0);repeat' (first| (with_reducible first|exact C3|refine C4 ?_ ?_)| ((with_reducible refine C0 ?_);first|exact CB rfl|exact CC)|fail))⟩,trivial⟩ (by simp[sgL])))
   ·refine hKJ _ _ _ ⟨⟨id,kind,32,1,wrap,q+1⟩,by dsimp only;omega,by dsimp only;omega⟩ (by(refine cR [2,3,0] (by omega) (by repeat' (first| (with_reducible first|exact C1|refine C2 ?_ ?_)| ((with_reducible refine C0 ?_);exact CE (by omega) rfl)| ((with_reducible refine D0 ?_);first|exact CA rfl|refine CJ ?_)|fail)) ⟨⟨by simp,by simp[sgL],_,rfl,bS (aV _ _)⟩,⟨by simp,by simp[sgL],_,rfl,aP (by(try unfold rq0);repeat' (first| (with_reducible first|exact C3|refine C4 ?_ ?_)| ((with_reducible refine C0 ?_);first|exact CB rfl|exact CC)|fail))⟩,⟨by simp,by simp[sgL],_,rfl,aP (by(try unfold rq0);repeat' (first| (with_reducible first|exact C3|refine C4 ?_ ?_)| ((with_reducible refine C0 ?_);first|exact CB rfl|exact CC)|fail))⟩,trivial⟩ (by simp[sgL])))
  ·refine hKJ _ _ _ ⟨⟨id,kind,addr,many,wrap,q⟩,by dsimp only;omega,by dsimp only;omega⟩ (by(refine cR [2,3,0] (by omega) (by repeat' (first| (with_reducible first|exact C1|refine C2 ?_ ?_)| ((with_reducible refine C0 ?_);exact CE (by omega) rfl)| ((with_reducible refine D0 ?_);first|exact CA rfl|refine CJ ?_)|fail)) ⟨⟨by simp,by simp[sgL],_,rfl,bS (aV _ _)⟩,⟨by simp,by simp[sgL],_,rfl,aP (by(try unfold rq0);repeat' (first| (with_reducible first|exact C3|refine C4 ?_ ?_)| ((with_reducible refine C0 ?_);first|exact CB rfl|exact CC)|fail))⟩,⟨by simp,by simp[sgL],_,rfl,aP (by(try unfold rq0);repeat' (first| (with_reducible first|exact C3|refine C4 ?_ ?_)| ((with_reducible refine C0 ?_);first|exact CB rfl|exact CC)|fail))⟩,trivial⟩ (by simp[sgL])))
 rintro⟨⟨id,kind,addr,many,wrap,q⟩,⟨f1,f2,f3,f4,f5,f6⟩,f7⟩
 dsimp only at f1 f2 f3 f4 f5 f6 f7
 refine aM.join 2 (α:={u:Rq//((0≤u.id∧u.id≤1)∧(1≤u.kind∧u.kind≤4)∧p≤u.p∧u.p≤p+12)∧(3≤u.kind→u.many=1)∧o7 u.addr u.many u.wrap})
  (fun b u=>en [(5,dP 7 (b+1)),(4,dP 7 b),(1,dI 1),(0,dP 2 0)]) (fun b u=>hp [(0,rdO l u.1.p),(b,⟨7,1,[rq0 0 0 0 0 false]⟩),(b+1,⟨7,1,[rq0 u.1.id u.1.kind u.1.addr u.1.many u.1.wrap]⟩)]) (fun KJ hKJ=> ?_) ?_
 ·repeat' (first| (with_reducible first| (refine hK _ _ _ ?_;clear hK K)| (refine hA ?_;clear hA hB A B)| (refine hB ?_;clear hA hB A B)|refine Z1 ?_|refine Z2 ?_|refine Z6 (fun h=> ?_) fun h=> ?_)| (with_reducible first|refine Y2 fun K hK=> ?_|refine Y3 fun A B hA hB=> ?_| (refine Y7 (fun h=> ?_) (fun h=> ?_)<;>try subst h))<;>(simp only[go_sem,rq0];try simp (disch:=omega) only[Iw])| ((with_reducible refine Y0 ?_);simp only[AQ.then,AQ.blk])|fail)
  ·refine hKJ _ _ _ ⟨⟨id,kind,63-many+1,many,wrap,q⟩,by dsimp only;omega,by dsimp only;omega,by dsimp only;exact⟨by omega,by omega,.inr (by omega)⟩⟩ (by(refine cR [4,5,0] (by omega) (by repeat' (first| (with_reducible first|exact C1|refine C2 ?_ ?_)| ((with_reducible refine C0 ?_);exact CE (by omega) rfl)| ((with_reducible refine D0 ?_);first|exact CA rfl|refine CJ ?_)|fail)) ⟨⟨by simp,by simp[sgL],_,rfl,bS (aV _ _)⟩,⟨by simp,by simp[sgL],_,rfl,aP (by(try unfold rq0);repeat' (first| (with_reducible first|exact C3|refine C4 ?_ ?_)| ((with_reducible refine C0 ?_);first|exact CB rfl|exact CC)|fail))⟩,⟨by simp,by simp[sgL],_,rfl,aP (by(try unfold rq0);repeat' (first| (with_reducible first|exact C3|refine C4 ?_ ?_)| ((with_reducible refine C0 ?_);first|exact CB rfl|exact CC)|fail))⟩,trivial⟩ (by simp[sgL])))
  ·refine hKJ _ _ _ ⟨⟨id,kind,addr,many,wrap,q⟩,by dsimp only;omega,by dsimp only;omega,by dsimp only;exact⟨by omega,by omega,.inr (by omega)⟩⟩ (by(refine cR [4,5,0] (by omega) (by repeat' (first| (with_reducible first|exact C1|refine C2 ?_ ?_)| ((with_reducible refine C0 ?_);exact CE (by omega) rfl)| ((with_reducible refine D0 ?_);first|exact CA rfl|refine CJ ?_)|fail)) ⟨⟨by simp,by simp[sgL],_,rfl,bS (aV _ _)⟩,⟨by simp,by simp[sgL],_,rfl,aP (by(try unfold rq0);repeat' (first| (with_reducible first|exact C3|refine C4 ?_ ?_)| ((with_reducible refine C0 ?_);first|exact CB rfl|exact CC)|fail))⟩,⟨by simp,by simp[sgL],_,rfl,aP (by(try unfold rq0);repeat' (first| (with_reducible first|exact C3|refine C4 ?_ ?_)| ((with_reducible refine C0 ?_);first|exact CB rfl|exact CC)|fail))⟩,trivial⟩ (by simp[sgL])))
  ·refine hKJ _ _ _ ⟨⟨id,kind,addr,many,wrap,q⟩,by dsimp only;omega,by dsimp only;omega,by dsimp only;exact⟨by omega,by omega,.inl (by simp_all)⟩⟩ (by(refine cR [4,5,0] (by omega) (by repeat' (first| (with_reducible first|exact C1|refine C2 ?_ ?_)| ((with_reducible refine C0 ?_);exact CE (by omega) rfl)| ((with_reducible refine D0 ?_);first|exact CA rfl|refine CJ ?_)|fail)) ⟨⟨by simp,by simp[sgL],_,rfl,bS (aV _ _)⟩,⟨by simp,by simp[sgL],_,rfl,aP (by(try unfold rq0);repeat' (first| (with_reducible first|exact C3|refine C4 ?_ ?_)| ((with_reducible refine C0 ?_);first|exact CB rfl|exact CC)|fail))⟩,⟨by simp,by simp[sgL],_,rfl,aP (by(try unfold rq0);repeat' (first| (with_reducible first|exact C3|refine C4 ?_ ?_)| ((with_reducible refine C0 ?_);first|exact CB rfl|exact CC)|fail))⟩,trivial⟩ (by simp[sgL])))
 rintro⟨⟨id,kind,addr,many,wrap,q⟩,⟨f1,f2,f5,f6⟩,f7,f8⟩
 dsimp only at f1 f2 f5 f6 f7 f8
 have f4:=f8.1
 refine aM.EJ 1 (aM.EJ 1 ?_)
 refine aM.join 4 (α:={u:Req×Nat×Nat×Nat//(u.1.data.length≤4∧u.1.lanes.length≤4∧u.1.data.length≤u.2.2.1∧u.1.lanes.length≤u.2.2.2)∧p≤u.2.1∧u.2.1≤p+40})
  (fun b u=>en [(5,dP 7 (b+1)),(4,dP 7 b),(1,dI 1),(0,dP 2 0)]) (fun b u=>hp [(0,rdO l u.1.2.1),(b,⟨7,1,[rq0 0 0 0 0 false]⟩),(b+1,⟨7,1,[rqB (b+2) (b+3) u.1.2.2.1 u.1.2.2.2 u.1.1]⟩),(b+2,⟨1,u.1.2.2.1,u.1.1.data.map aJ⟩),(b+3,⟨1,u.1.2.2.2,u.1.1.lanes.map aJ⟩)]) (fun KJ hKJ=> ?_) ?_
 ·repeat' (first| (with_reducible first| (refine hK _ _ _ ?_;clear hK K)| (refine hA ?_;clear hA hB A B)| (refine hB ?_;clear hA hB A B)|refine Z1 ?_|refine Z2 ?_|refine Z3 fun KB hKB=> ?_|refine Z6 (fun h=> ?_) fun h=> ?_)| (with_reducible first|refine Y2 fun K hK=> ?_|refine Y3 fun A B hA hB=> ?_|refine Y6 (fun h=> ?_) fun h=> ?_)<;>(simp only[go_sem,rq0])| ((with_reducible refine Y0 ?_);simp only[AQ.then,AQ.blk])|fail)
  rotate_left 2
  ·exact hKJ _ _ _ ⟨(⟨id,kind,addr,many,wrap,[],[]⟩,q,0,0),by simp,by dsimp only;omega,by dsimp only;omega⟩ (by(refine cR [6,7,8,9,0] (by omega) (by repeat' (first| (with_reducible first|exact C1|refine C2 ?_ ?_)| ((with_reducible refine C0 ?_);exact CE (by omega) rfl)| ((with_reducible refine D0 ?_);first|exact CA rfl|refine CJ ?_)|fail)) ⟨⟨by simp,by simp[sgL],_,rfl,bS (aV _ _)⟩,⟨by simp,by simp[sgL],_,rfl,aP (by(try unfold rq0);repeat' (first| (with_reducible first|exact C3|refine C4 ?_ ?_)| ((with_reducible refine C0 ?_);first|exact CB rfl|exact CC)|fail))⟩,⟨by simp,by simp[sgL],_,rfl,aP (by(try unfold rq0 rqB);repeat' (first| (with_reducible first|exact C3|refine C4 ?_ ?_)| ((with_reducible refine C0 ?_);first|exact CB rfl|exact CC)|refine C4 ?_ ?_|fail))⟩,⟨by simp,by simp[sgL],_,rfl,bP (aG bF _) rfl rfl⟩,⟨by simp,by simp[sgL],_,rfl,bP (aG bF _) rfl rfl⟩,trivial⟩ (by simp[sgL])))
  all_goals
   have hkind:kind=2∨kind=4:=by omega
   (have hKX:=hKB;clear hKB)
   refine aM.sG 4 (β:=(Nat×Nat)×(List Int×Nat)×(List Int×Nat))
    (fun b u=>en [(6,dI u.1.1),(5,dP 7 (b+1)),(4,dP 7 b),(1,dI 1),(0,dP 2 0)])
    (fun b u=>hp [(0,rdO l u.1.2),(b,⟨7,1,[rq0 0 0 0 0 false]⟩),(b+1,⟨7,1,[[cI id,cI kind,cI addr,cI many,cB wrap,.osl 1 (b+2) 0 u.1.1 u.2.1.2,.osl 1 (b+3) 0 u.1.1 u.2.2.2]]⟩),(b+2,⟨1,u.2.1.2,u.2.1.1.map aJ⟩),(b+3,⟨1,u.2.2.2,u.2.2.1.map aJ⟩)])
    (fun u=>((u.1.1:Int)≤many∧u.1.2≤q+4*u.1.1∧q≤u.1.2)∧(u.2.1.1.length=u.1.1∧u.1.1≤u.2.1.2)∧(u.2.2.1.length=u.1.1∧u.1.1≤u.2.2.2))
    (fun u=>many.toNat-u.1.1) ((0,q),([],0),([],0)) ?_ ⟨⟨by dsimp only;omega,by dsimp only;omega,by dsimp only;omega⟩,⟨rfl,by simp⟩,⟨rfl,by simp⟩⟩ ?_
   · (refine cR [6,7,8,9,0] (by omega) (by repeat' (first| (with_reducible first|exact C1|refine C2 ?_ ?_)| ((with_reducible refine C0 ?_);exact CE (by omega) rfl)| ((with_reducible refine D0 ?_);first|exact CA rfl|refine CJ ?_)|fail)) ⟨⟨by simp,by simp[sgL],_,rfl,bS (aV _ _)⟩,⟨by simp,by simp[sgL],_,rfl,aP (by unfold rq0;repeat' (first| (with_reducible first|exact C3|refine C4 ?_ ?_)| ((with_reducible refine C0 ?_);first|exact CB rfl|exact CC)|fail))⟩,⟨by simp,by simp[sgL],_,rfl,aP (by(try unfold rq0);repeat' (first| (with_reducible first|exact C3|refine C4 ?_ ?_)| ((with_reducible refine C0 ?_);first|exact CB rfl|exact CC)|fail))⟩,⟨by simp,by simp[sgL],_,rfl,bP (aG bF _) rfl rfl⟩,⟨by simp,by simp[sgL],_,rfl,bP (aG bF _) rfl rfl⟩,trivial⟩ (by simp[sgL]))
   ·rintro⟨⟨k,q'⟩,⟨da,ca⟩,⟨la,cl⟩⟩ ⟨⟨g1,g2,g3⟩,⟨g4,g6⟩,⟨g7,g9⟩⟩ KL hKL
    dsimp only at g1 g2 g3 g4 g6 g7 g9
    have hta:da.take k=da:=List.take_of_length_le (by omega)
    have htl:la.take k=la:=List.take_of_length_le (by omega)
    by_cases hlt:k<many.toNat
    ·repeat' (first| (with_reducible first| (refine hK _ _ _ ?_;clear hK K)| (refine hA ?_;clear hA hB A B)|refine Z1 ?_|refine Z2 ?_|refine Z3 fun KB hKB=> ?_|refine Z4 (by omega) ?_)| (first| (with_reducible first|refine Y2 fun K hK=> ?_|refine Y3 fun A B hA hB=> ?_)| (refine aX hl (by omega) (by omega) (by omega) rfl (fun x h1 h2=> ?_)))<;>(simp only[go_sem,rq0];try simp (disch:=omega) only[Iw])|refine⟨by omega,?_⟩|fail)
     rename_i xa xa1 xa2 xb xb1 xb2
     obtain⟨v,hv⟩:=aN1 (L:=[[.v (.int .i64 (xa*257))],[.v (.int .i64 xb)],[.v (.int .i64 65535)],[.v (.int .i64 0)]]) (by simp) h1 (by simp;omega)
     simp only[go_sem,hv,hta]
     repeat' (first| (with_reducible first| (refine hK _ _ _ ?_;clear hK K)|refine fun(cap:Nat) (hcap:_≤cap)=> ?_|refine fun(hcp:_≤cap)=> ?_)| (first| (with_reducible refine Y2 fun K hK=> ?_)| (refine aX hl (by omega) (by omega) (by omega) rfl (fun x h1 h2=> ?_)))<;>(simp only[go_sem,hta,htl])|refine⟨by omega,?_⟩|fail)
     obtain⟨u,hu⟩:=aN1 (L:=[[.v (.int .i64 3)],[.v (.int .i64 3)],[.v (.int .i64 1)],[.v (.int .i64 2)],[.v (.int .i64 0)]]) (by simp) h1 (by simp;omega)
     simp only[go_sem,hu,htl]
     repeat' (first| (with_reducible first| (refine hK _ _ _ ?_;clear hK K)|refine fun(cap:Nat) (hcap:_≤cap)=> ?_|refine fun(hcp:_≤cap)=> ?_)| (with_reducible refine Y2 fun K hK=> ?_)<;>(simp only[go_sem,hta,htl];try simp (disch:=omega) only[Iw])| ((with_reducible refine Y0 ?_);simp only[AQ.then,AQ.blk])|refine⟨by omega,?_⟩| (with_reducible refine hKB _ _ _ ?_)|fail)
     exact hKL _ _ _ ((k+1,_),(da++[_],_),(la++[_],_)) (by omega) (by(refine cR [19,20,40,51,0] (by omega) (by repeat' (first| (with_reducible first|exact C1|refine C2 ?_ ?_)| ((with_reducible refine C0 ?_);exact CE (by omega) rfl)| ((with_reducible refine D0 ?_);first|exact CA rfl|refine CJ ?_)|fail)) ⟨⟨by simp,by simp[sgL],_,rfl,bS (aV _ _)⟩,⟨by simp,by simp[sgL],_,rfl,aP (by unfold rq0;repeat' (first| (with_reducible first|exact C3|refine C4 ?_ ?_)| ((with_reducible refine C0 ?_);first|exact CB rfl|exact CC)|fail))⟩,⟨by simp,by simp[sgL],_,rfl,aP (by repeat' (first| (with_reducible first|exact C3|refine C4 ?_ ?_)| ((with_reducible refine C0 ?_);first|exact CB rfl|exact CQ (by omega) rfl rfl (by rfl) rfl)|fail))⟩,⟨by simp,by simp[sgL],_,rfl,bP (aG bF _) rfl rfl⟩,⟨by simp,by simp[sgL],_,rfl,bP (aG bF _) rfl rfl⟩,trivial⟩ (by simp[sgL])))
      ⟨⟨by dsimp only;omega,by dsimp only;omega,by dsimp only;omega⟩,⟨by simp;omega,by dsimp only;omega⟩,⟨by simp;omega,by dsimp only;omega⟩⟩ (by dsimp only;omega)
    ·repeat' (first| (with_reducible first| (refine hK _ _ _ ?_;clear hK K)| (refine hB ?_;clear hA hB A B)|refine Z1 ?_|refine Z5 (by omega) ?_|refine hKX _ _ _ ?_)| (with_reducible first|refine Y2 fun K hK=> ?_|refine Y3 fun A B hA hB=> ?_)<;>(simp only[go_sem,rq0])| ((with_reducible refine Y9 ?_);try simp only[AQ.then,AQ.blk,reduceIte,Nat.reduceEqDiff])| ((with_reducible refine Y0 ?_);simp only[AQ.then,AQ.blk])|fail)
     exact hKJ _ _ _ ⟨(⟨id,kind,addr,many,wrap,da,la⟩,q',ca,cl),by dsimp only;omega,by dsimp only;omega,by dsimp only;omega⟩ (by(refine cR [19,20,21,22,0] (by omega) (by repeat' (first| (with_reducible first|exact C1|refine C2 ?_ ?_)| ((with_reducible refine C0 ?_);exact CE (by omega) rfl)| ((with_reducible refine D0 ?_);first|exact CA rfl|refine CJ ?_)|fail)) ⟨⟨by simp,by simp[sgL],_,rfl,bS (aV _ _)⟩,⟨by simp,by simp[sgL],_,rfl,aP (by(try unfold rq0);repeat' (first| (with_reducible first|exact C3|refine C4 ?_ ?_)| ((with_reducible refine C0 ?_);first|exact CB rfl|exact CC)|fail))⟩,⟨by simp,by simp[sgL],_,rfl,aP (by(try unfold rq0 rqB);repeat' (first| (with_reducible first|exact C3|refine C4 ?_ ?_)| ((with_reducible refine C0 ?_);first|exact CB rfl|exact CQ (by omega) rfl rfl (by omega) rfl)|refine C4 ?_ ?_|fail))⟩,⟨by simp,by simp[sgL],_,rfl,bP (aG bF _) rfl rfl⟩,⟨by simp,by simp[sgL],_,rfl,bP (aG bF _) rfl rfl⟩,trivial⟩ (by simp[sgL])))
 rintro⟨⟨⟨id,kind,addr,many,wrap,da,la⟩,q',ca,cl⟩,⟨g1,g2,g3,g4⟩,g5,g6⟩
 dsimp only at g1 g2 g3 g4 g5 g6
 have htd:da.take da.length=da:=List.take_length
 have htl:la.take la.length=la:=List.take_length
 repeat' (first| (with_reducible first| (refine hK _ _ _ ?_;clear hK K)| (refine hA ?_;clear hA hB A B)| (refine hB ?_;clear hA hB A B)|refine Z1 ?_|refine Z2 ?_|refine Z3 fun KB hKB=> ?_|refine Z6 (fun h=> ?_) fun h=> ?_|refine fun(cap:Nat) (hcap:_≤cap)=> ?_|refine fun(hcp:_≤cap)=> ?_)| (first| (with_reducible first|refine Y2 fun K hK=> ?_|refine Y3 fun A B hA hB=> ?_)| (refine d6 (n:=1) (by omega) hl (by omega) (by omega) rfl (fun p1 bb hp1 hp2 _=> ?_))| (refine aX hl (by omega) (by omega) (by omega) rfl (fun x h1 h2=> ?_)))<;>(simp only[go_sem,rqB,rq0,htd,htl])| ((with_reducible refine Y8 ?_);try simp only[AQ.then,AQ.blk,reduceIte,Nat.reduceEqDiff])| ((with_reducible refine Y0 ?_);simp only[AQ.then,AQ.blk])| ((with_reducible refine Z8 (fun h=> ?_) (fun h=> ?_))<;>try subst h)|refine⟨by omega,?_⟩| (with_reducible refine hKB _ _ _ ?_)|fail)
 all_goals first
  | (obtain⟨v,hv⟩:=aN1 (L:=[[.v (.int .i64 (-1))],[.v (.int .i64 2)]]) (by simp) h1 (by simp;omega);simp only[hv];simp only[go_sem,htd,htl])
  | (obtain⟨v,hv⟩:=aN1 (L:=[[.v (.int .i64 0)],[.v (.int .i64 5)]]) (by simp) h1 (by simp;omega);simp only[hv];simp only[go_sem,htd,htl])
  | (obtain⟨v,hv⟩:=aN1 (L:=[[.v (.int .i64 (-1))],[.v (.int .i64 64)],[.v (.int .i64 63)]]) (by simp) h1 (by simp;omega);simp only[hv];simp only[go_sem,htd,htl])
  | (obtain⟨v,hv⟩:=aN1 (L:=[[.v (.int .i64 0)],[.v (.int .i64 3)],[.v (.int .i64 8)],[.v (.int .i64 4)]]) (by simp) h1 (by simp;omega);simp only[hv];simp only[go_sem,htd,htl])
  | (obtain⟨v,hv⟩:=aN1 (L:=[[.v (.int .i64 (-1))],[.v (.int .i64 65536)]]) (by simp) h1 (by simp;omega);simp only[hv];simp only[go_sem,htd,htl])
  |skip
 all_goals try repeat' (first| (with_reducible first| (refine hK _ _ _ ?_;clear hK K)|refine Z1 ?_)| (with_reducible refine Y2 fun K hK=> ?_)<;>(simp only[go_sem,rqB,rq0,htd,htl])| ((with_reducible refine Y8 ?_);try simp only[AQ.then,AQ.blk,reduceIte,Nat.reduceEqDiff])| ((with_reducible refine Y0 ?_);simp only[AQ.then,AQ.blk])|refine⟨by omega,?_⟩| (with_reducible refine hKB _ _ _ ?_)|fail)
 all_goals first
  |exact aSU hQ rfl rfl rfl rfl (by omega) ⟨rfl,rfl⟩ (by omega)
  |exact aSU hQ (D:=da++[5]) rfl rfl rfl rfl (by omega) ⟨by simp,rfl⟩ (by omega)
  |exact aSU hQ (L:=la++[1]) rfl rfl rfl rfl (by omega) ⟨rfl,by simp⟩ (by omega)
  |exact aSU hQ (D:=da.set 0 _) rfl rfl rfl rfl (by omega) ⟨by simp,rfl⟩ (by omega)
theorem aRK {l:List Int} {p i:Nat} (hl:kZ l) (hp50:p+45<2^50) (hi:i<nx) (ho:H i=some (rdO l p)) (h: ∀(p':Nat) (q:Req),p≤p'→p'≤p+45→(q.data.length≤8∧q.lanes.length≤8)→K (dA (eB q)) (H.set i (rdO l p')) nx):
 aB Tryz.prog tS [dP 2 i,dI 1] H nx K:=
 (aQK l p hl hp50).OU i rfl (gW ⟨DG (by omega) rfl,aE rfl,trivial⟩) hi ho (aV l p) fun r o' ⟨p',q,h1,h2,h3,h4,h5⟩=>by
  subst h1;subst h4;exact EW (A:=fun d=>K d (H.set i (rdO l p')) nx) rfl (h p' q h2 h3 h5)
end
end Go.Proofs.YtegiblhkjfiooaaGreat
end
section
namespace Go.Proofs.YtegiblhkjfiooaaGreat
open Go Go.AM
set_option maxRecDepth 100000
end Go.Proofs.YtegiblhkjfiooaaGreat
end
section
namespace Go.Proofs.YtegiblhkjfiooaaGreat
open Go Go.AM
set_option maxRecDepth 100000
set_option maxHeartbeats 8000000
section
variable {H : aA} {nx : Nat} {K : D → aA → Nat → Prop}
end
end Go.Proofs.YtegiblhkjfiooaaGreat
end
section
namespace Go.Proofs.YtegiblhkjfiooaaGreat.B7
open Go Go.AM Go.Proofs.YtegiblhkjfiooaaGreat
set_option maxRecDepth 100000
set_option maxHeartbeats 8000000
section
variable {H : aA} {nx : Nat} {K : D → aA → Nat → Prop}
theorem MM {q:Req} (h:dH q):dH ⟨q.id,3,q.addr,1,false,[],[]⟩:=by
 obtain⟨h1,h2,⟨h3,h4,h5⟩,h6⟩:=h
 refine⟨h1,by dsimp only;omega,⟨by dsimp only;omega,h4,.inr (by dsimp only;omega)⟩,by simp[n5],by simp[n5],fun x hx=>by simp at hx,fun x hx=>by simp at hx,.inr (.inr rfl)⟩
theorem L4 {q:Req} (h:dH q):q.data.length<2^40∧q.lanes.length<2^40:=by
 obtain⟨h1,h2,⟨h3,h4,h5⟩,h6,h7,h8⟩:=h
 unfold n5 at h6 h7
 constructor
 ·split at h6<;>omega
 ·split at h7<;>omega
theorem yB (l:List Int):aB Tryz.prog kN [dS (l.map eU8)] (hp []) 0 fun r H' n'=>n'=1∧H'=hp [(0,rdO (l.take 2000) 0)]∧r=dP 2 0:=by
 refine DY rfl fun Q hQ=> ?_
 unfold oT
 repeat' (first| (with_reducible first| (refine hK _ _ _ ?_;clear hK K)| (refine hA ?_;clear hA hB A B)| (refine hB ?_;clear hA hB A B)|refine Z1 ?_|refine Z2 ?_|refine Z6 (fun h=> ?_) fun h=> ?_)| (with_reducible first|refine Y2 fun K hK=> ?_|refine Y3 fun A B hA hB=> ?_)<;>(simp only[go_sem])| ((with_reducible refine Y8 ?_);try simp only[AQ.then,AQ.blk,reduceIte,Nat.reduceEqDiff])|refine⟨by omega,?_⟩|fail)
 ·have e:l.take 2000=(l.take 2000).take 2000:=by rw[List.take_take];simp
  (refine hQ _ _ _ _ _ 1 (dP 2 0) (hp [(0,rdO (l.take 2000) 0)]) _ _ (.inr rfl) rfl (fU [9] (by omega) (by repeat' (first| ((with_reducible refine C0 ?_);exact CE (by omega) rfl)| ((with_reducible refine D0 ?_);refine CJ ?_)|fail)) ⟨⟨by simp,by simp[sgL],_,rfl,bS (aV _ _)⟩,trivial⟩ (by simp[sgL])) ?_)
  exact⟨rfl,rfl,rfl⟩
 · (refine hQ _ _ _ _ _ 1 (dP 2 0) (hp [(0,rdO l 0)]) _ _ (.inr rfl) rfl (fU [6] (by omega) (by repeat' (first| ((with_reducible refine C0 ?_);exact CE (by omega) rfl)| ((with_reducible refine D0 ?_);refine CJ ?_)|fail)) ⟨⟨by simp,by simp[sgL],_,rfl,bS (aV _ _)⟩,trivial⟩ (by simp[sgL])) ?_)
   exact⟨rfl,by rw[List.take_of_length_le (by omega)],rfl⟩
theorem F2 {l:List Int} (h:K (dP 2 nx) (H.set nx (rdO (l.take 2000) 0)) (nx+1)):aB Tryz.prog kN [dS (l.map eU8)] H nx K:=by
 refine(yB l).AF (l0:=[]) [] rfl ⟨aE rfl,trivial⟩ trivial (by simp) (by simp) (by simp) fun r H' n' _ ⟨q1,q2,q3⟩=> ?_
 subst q1;subst q2;subst q3
 have e1:back (tau 0 nx (nth [])) (hp [(0,rdO (l.take 2000) 0)]) 1 H=H.set nx (rdO (l.take 2000) 0):=by
  simp only[back,hp,aA.set,tau,Nat.not_lt_zero,if_true,if_false,Nat.sub_zero,Nat.add_zero,Option.map_some,rF (aV _ _),aA.eL]
 rw[←e1] at h
 exact h
theorem zM (l:List Int) (p:Nat) (hl:kZ l) (hp50:p+1000<2^50):aB Tryz.prog lJ [dP 2 0,dI 7] (hp [(0,rdO l p)]) 1
 fun rr H' n'=>n'=1∧ ∃o',H'=hp [(0,o')]∧C7 o'∧ ∃(p':Nat) (c:Cfg),o'=rdO l p'∧p≤p'∧p'≤p+1000∧rr=dA (cU c)∧(aQ c∧jO c):=by
 refine FC rfl fun Q hQ=> ?_
 unfold qQ
 repeat' (first| (with_reducible first| (refine hK _ _ _ ?_;clear hK K)|refine Z1 ?_|refine Z3 fun KB hKB=> ?_)| (first| (with_reducible refine Y2 fun K hK=> ?_)| (refine IV hl (by omega) (by omega) rfl (fun pm m hm1 hm2 hmok=> ?_)))<;>(simp only[go_sem])|fail)
 (have hKX:=hKB;clear hKB)
 refine aM.EJ 1 ?_
 refine aM.sG 3 (β:=Nat×Nat×List Int×Nat)
  (fun b u=>en [(6,dI u.1),(5,dP 3 (b+1)),(4,dP 3 b),(1,dI 7),(0,dP 2 0)])
  (fun b u=>hp [(0,rdO l u.2.1),(b,⟨3,1,[[.osl 0 0 0 0 0,.osl 0 0 0 0 0,.osl 0 0 0 0 0]]⟩),(b+1,⟨3,1,[[.isl (m.map eN),.osl 1 (b+2) 0 u.1 u.2.2.2,.osl 0 0 0 0 0]]⟩),(b+2,⟨1,u.2.2.2,u.2.2.1.map aJ⟩)])
  (fun u=>u.1≤4∧p≤u.2.1∧u.2.1≤p+8+u.1∧u.2.2.1.length=u.1∧All u.2.2.1 0 3∧u.1≤u.2.2.2)
  (fun u=>4-u.1) (0,pm,[],0) ?_ ⟨by dsimp only;omega,by dsimp only;omega,by dsimp only;omega,rfl,by simp[All],by dsimp only;omega⟩ ?_
 · (refine cR [1,5,8,0] (by omega) (by repeat' (first| (with_reducible first|exact C1|refine C2 ?_ ?_)| ((with_reducible refine C0 ?_);exact CE (by omega) rfl)| ((with_reducible refine D0 ?_);first|exact CA rfl|refine CJ ?_)|fail)) ⟨⟨by simp,by simp[sgL],_,rfl,bS (aV _ _)⟩,⟨by simp,by simp[sgL],_,rfl,aP (by repeat' (first| (with_reducible first|exact C3|refine C4 ?_ ?_)| ((with_reducible refine C0 ?_);exact CC)|fail))⟩,⟨by simp,by simp[sgL],_,rfl,aP (by repeat' (first| (with_reducible first|exact C3|refine C4 ?_ ?_)| ((with_reducible refine C0 ?_);first|exact CB rfl|exact CC)|fail))⟩,⟨by simp,by simp[sgL],_,rfl,bP (aG bF _) rfl rfl⟩,trivial⟩ (by simp[sgL]))
 rintro⟨k,pl,la,cl⟩ ⟨f1,f2,f3,f4,f5,f6⟩ KL hKL
 dsimp only at f1 f2 f3 f4 f5 f6
 have hta:la.take k=la:=List.take_of_length_le (by omega)
 by_cases hlt:k<4
 ·repeat' (first| (with_reducible first| (refine hK _ _ _ ?_;clear hK K)| (refine hA ?_;clear hA hB A B)|refine Z1 ?_|refine Z2 ?_|refine Z3 fun KB hKB=> ?_|refine Z4 (by omega) ?_|refine fun(cap:Nat) (hcap:_≤cap)=> ?_|refine fun(hcp:_≤cap)=> ?_)| (first| (with_reducible first|refine Y2 fun K hK=> ?_|refine Y3 fun A B hA hB=> ?_)| (refine aX hl (by omega) (by omega) (by omega) rfl (fun x h1 h2=> ?_)))<;>(simp only[go_sem,hta];try simp (disch:=omega) only[Iw])| ((with_reducible refine Y0 ?_);simp only[AQ.then,AQ.blk])|refine⟨by omega,?_⟩| (with_reducible refine hKB _ _ _ ?_)|fail)
  exact hKL _ _ _ (k+1,pl+1,la++[x],cap) (by omega) (by(refine cR [9,10,19,0] (by omega) (by repeat' (first| (with_reducible first|exact C1|refine C2 ?_ ?_)| ((with_reducible refine C0 ?_);exact CE (by omega) rfl)| ((with_reducible refine D0 ?_);first|exact CA rfl|refine CJ ?_)|fail)) ⟨⟨by simp,by simp[sgL],_,rfl,bS (aV _ _)⟩,⟨by simp,by simp[sgL],_,rfl,aP (by repeat' (first| (with_reducible first|exact C3|refine C4 ?_ ?_)| ((with_reducible refine C0 ?_);exact CC)|fail))⟩,⟨by simp,by simp[sgL],_,rfl,aP (by repeat' (first| (with_reducible first|exact C3|refine C4 ?_ ?_)| ((with_reducible refine C0 ?_);first|exact CB rfl|exact CC|exact CQ (by omega) rfl rfl (by rfl) rfl)|fail))⟩,⟨by simp,by simp[sgL],_,rfl,bP (aG bF _) rfl rfl⟩,trivial⟩ (by simp[sgL]))) ⟨by dsimp only;omega,by dsimp only;omega,by dsimp only;omega,by simp;omega,KC f5 (by omega) (by omega),by dsimp only;omega⟩ (by dsimp only;omega)
 have hk4:k=4:=by omega
 subst hk4
 repeat' (first| (with_reducible first| (refine hK _ _ _ ?_;clear hK K)| (refine hB ?_;clear hA hB A B)|refine Z1 ?_|refine Z3 fun KB hKB=> ?_|refine Z5 (by omega) ?_|refine hKX _ _ _ ?_)| (with_reducible first|refine Y2 fun K hK=> ?_|refine Y3 fun A B hA hB=> ?_)<;>(simp only[go_sem])| ((with_reducible refine Y9 ?_);try simp only[AQ.then,AQ.blk,reduceIte,Nat.reduceEqDiff])|fail)
 (have hKY:=hKB;clear hKB)
 refine aM.EJ 1 ?_
 refine aM.sG 3 (β:=Nat×Nat×List Prog×Nat)
  (fun b u=>en [(7,dI u.1),(5,dP 3 (b+1)),(4,dP 3 b),(1,dI 7),(0,dP 2 0)])
  (fun b u=>hp [(0,rdO l u.2.1),(b,⟨3,1,[[.osl 0 0 0 0 0,.osl 0 0 0 0 0,.osl 0 0 0 0 0]]⟩),(b+1,⟨3,1,[[.isl (m.map eN),.isl (la.map aJ),.osl 1 (b+2) 0 u.1 u.2.2.2]]⟩),(b+2,⟨1,u.2.2.2,u.2.2.1.map jR⟩)])
  (fun u=>u.1≤3∧p≤u.2.1∧u.2.1≤p+12+300*u.1∧u.2.2.1.length=u.1∧(∀pr∈u.2.2.1,pr.length≤12∧ ∀q∈pr,dH q)∧u.1≤u.2.2.2)
  (fun u=>3-u.1) (0,pl,[],0) ?_ ⟨by dsimp only;omega,by dsimp only;omega,by dsimp only;omega,rfl,fun pr hpr=>by simp at hpr,by dsimp only;omega⟩ ?_
 · (refine cR [9,10,15,0] (by omega) (by repeat' (first| (with_reducible first|exact C1|refine C2 ?_ ?_)| ((with_reducible refine C0 ?_);exact CE (by omega) rfl)| ((with_reducible refine D0 ?_);first|exact CA rfl|refine CJ ?_)|fail)) ⟨⟨by simp,by simp[sgL],_,rfl,bS (aV _ _)⟩,⟨by simp,by simp[sgL],_,rfl,aP (by repeat' (first| (with_reducible first|exact C3|refine C4 ?_ ?_)| ((with_reducible refine C0 ?_);exact CC)|fail))⟩,⟨by simp,by simp[sgL],_,rfl,aP (aH (bB rfl) (aH (bW bF rfl (by omega) (by omega) (by simp)) (aH (.VS _ _ _ _ _ _) eP)))⟩,⟨by simp,by simp[sgL],_,rfl,bP (aG iR _) rfl rfl⟩,trivial⟩ (by simp[sgL]))
 rintro⟨k,pl,ps,cp⟩ ⟨g1,g2,g3,g4,g5,g6⟩ KM hKM
 dsimp only at g1 g2 g3 g4 g5 g6
 have htp:ps.take k=ps:=List.take_of_length_le (by omega)
 by_cases hlt:k<3
 ·repeat' (first| (with_reducible first| (refine hK _ _ _ ?_;clear hK K)| (refine hA ?_;clear hA hB A B)|refine Z1 ?_|refine Z2 ?_|refine Z3 fun KB hKB=> ?_|refine Z4 (by omega) ?_)| (first| (with_reducible first|refine Y2 fun K hK=> ?_|refine Y3 fun A B hA hB=> ?_)| (refine aX hl (by omega) (by omega) (by omega) rfl (fun x h1 h2=> ?_)))<;>(simp only[go_sem];try simp (disch:=omega) only[Iw])|fail)
  (have hKZ:=hKB;clear hKB)
  rename_i x hx1 hx2
  refine aM.sG 1 (β:=Nat×Nat×List Req×Nat)
   (fun b u=>en [(9,dI u.1),(8,dO 7 b u.2.2.1.length u.2.2.2),(7,dI k),(5,dP 3 17),(4,dP 3 16),(1,dI 7),(0,dP 2 0)])
   (fun b u=>hp [(0,rdO l u.2.1),(16,⟨3,1,[[.osl 0 0 0 0 0,.osl 0 0 0 0 0,.osl 0 0 0 0 0]]⟩),(17,⟨3,1,[[.isl (m.map eN),.isl (la.map aJ),.osl 1 18 0 k cp]]⟩),(18,⟨1,cp,ps.map jR⟩),(b,⟨7,u.2.2.2,u.2.2.1.map eB⟩)])
   (fun u=>u.1≤7∧p≤u.2.1∧u.2.1≤pl+1+41*(7-u.1)∧(∀q∈u.2.2.1,dH q)∧2*u.1+u.2.2.1.length≤14∧u.2.2.1.length≤u.2.2.2)
   (fun u=>u.1) (x.toNat,pl+1,[],0) ?_ ⟨by dsimp only;omega,by dsimp only;omega,by dsimp only;omega,fun q hq=>by simp at hq,by simp;omega,by simp⟩ ?_
  · (refine cR [21,0,16,17,18] (by omega) (by repeat' (first| (with_reducible first|exact C1|refine C2 ?_ ?_)| ((with_reducible refine C0 ?_);first|exact CC|exact CE (by omega) rfl| (exact CG (by(congr 2;omega)) rfl))| ((with_reducible refine D0 ?_);first|exact CA rfl|refine CJ ?_)|fail)) ⟨⟨by simp,by simp[sgL],_,rfl,bS (aV _ _)⟩,⟨by simp,by simp[sgL],_,rfl,aP (by repeat' (first| (with_reducible first|exact C3|refine C4 ?_ ?_)| ((with_reducible refine C0 ?_);exact CC)|fail))⟩,⟨by simp,by simp[sgL],_,rfl,aP (by repeat' (first| (with_reducible first|exact C3|refine C4 ?_ ?_)| ((with_reducible refine C0 ?_);first|exact CB rfl|exact CQ (by omega) rfl rfl (by rfl) rfl)|fail))⟩,⟨by simp,by simp[sgL],_,rfl,bP (aG iR _) rfl rfl⟩,⟨by simp,by simp[sgL],_,rfl,bP (aG rL _) rfl rfl⟩,trivial⟩ (by simp[sgL]))
  rintro⟨j,pj,rs,cr⟩ ⟨e1,e2,e3,e4,e5,e6⟩ KN hKN
  dsimp only at e1 e2 e3 e4 e5 e6
  have htr:rs.take rs.length=rs:=List.take_length
  by_cases hj:0<j
  ·refine aM.seq ?_
   repeat' (first| (with_reducible first| (refine hK _ _ _ ?_;clear hK K)| (refine hA ?_;clear hA hB A B)|refine Z2 ?_|refine Z4 (by omega) ?_)| (with_reducible first|refine Y1 fun K hK=> ?_|refine Y3 fun A B hA hB=> ?_)<;>(simp only[go_sem])|fail)
   refine aM.seq ?_
   repeat' (first| (with_reducible first| (refine hK _ _ _ ?_;clear hK K)|refine Z3 fun KB hKB=> ?_)| (first| (with_reducible refine Y1 fun K hK=> ?_)| (refine ID hl (by omega) (by omega) rfl (fun pq q hq1 hq2 hq3=> ?_)))<;>(simp only[go_sem])|fail)
   refine aM.apW 2 (β:=Nat×List Req×Nat)
    (fun b u=>en [(10,dP 7 (b+1)),(9,dI j),(8,dO 7 b u.2.1.length u.2.2),(7,dI k),(5,dP 3 17),(4,dP 3 16),(1,dI 7),(0,dP 2 0)])
    (fun b u=>hp [(0,rdO l u.1),(16,⟨3,1,[[.osl 0 0 0 0 0,.osl 0 0 0 0 0,.osl 0 0 0 0 0]]⟩),(17,⟨3,1,[[.isl (m.map eN),.isl (la.map aJ),.osl 1 18 0 k cp]]⟩),(18,⟨1,cp,ps.map jR⟩),(b,⟨7,u.2.2,u.2.1.map eB⟩),(b+1,⟨7,1,[eB q]⟩)])
    (fun u=>p≤u.1∧u.1≤pj+41∧(∀q∈u.2.1,dH q)∧u.2.1.length≤rs.length+1∧u.2.1.length≤u.2.2) (fun KJ hKJ=> ?_) ?_
   ·repeat' (first| (with_reducible first| (refine hK _ _ _ ?_;clear hK K)| (refine hA ?_;clear hA hB A B)| (refine hB ?_;clear hA hB A B)|refine Z1 ?_|refine Z2 ?_|refine Z6 (fun h=> ?_) fun h=> ?_|refine fun(cap:Nat) (hcap:_≤cap)=> ?_|refine fun(hcp:_≤cap)=> ?_)| (first| (with_reducible first|refine Y2 fun K hK=> ?_|refine Y3 fun A B hA hB=> ?_|refine Y6 (fun h=> ?_) fun h=> ?_)| (refine aX hl (by omega) (by omega) (by omega) rfl (fun x h1 h2=> ?_)))<;>(simp only[go_sem,htr])| ((with_reducible refine Y0 ?_);simp only[AQ.then,AQ.blk])|refine⟨by omega,?_⟩|fail)
    ·refine hKJ _ _ _ (pq+1,rs++[⟨q.id,3,q.addr,1,false,[],[]⟩],cap) (by(refine cR [55,33,0,16,17,18] (by omega) (by repeat' (first| (with_reducible first|exact C1|refine C2 ?_ ?_)| ((with_reducible refine C0 ?_);first| (exact CQ (by omega) rfl rfl (by first|rfl| (simp;done)) rfl)|exact CE (by omega) rfl)| ((with_reducible refine D0 ?_);first|exact CA rfl|refine CJ ?_)|fail)) ⟨⟨by simp,by simp[sgL],_,rfl,bS (aV _ _)⟩,⟨by simp,by simp[sgL],_,rfl,aP (by repeat' (first| (with_reducible first|exact C3|refine C4 ?_ ?_)| ((with_reducible refine C0 ?_);exact CC)|fail))⟩,⟨by simp,by simp[sgL],_,rfl,aP (by repeat' (first| (with_reducible first|exact C3|refine C4 ?_ ?_)| ((with_reducible refine C0 ?_);first|exact CB rfl|exact CQ (by omega) rfl rfl (by rfl) rfl)|fail))⟩,⟨by simp,by simp[sgL],_,rfl,bP (aG iR _) rfl rfl⟩,⟨by simp,by simp[sgL],_,rfl,uO (R:=rs.map eB) (r':=eB ⟨q.id,3,q.addr,1,false,[],[]⟩) (by simp) rfl (fun r hr=>(aG rL rs r hr).2) rfl (aH (bB rfl) (aH (bB rfl) (aH (bB rfl) (aH (bB rfl) (aH (bB rfl) (aH xG (aH xG eP)))))))⟩,⟨by simp,by simp[sgL],_,rfl,aP (by repeat' (first| (with_reducible first|exact C3|refine C4 ?_ ?_)| ((with_reducible refine C0 ?_);exact CB rfl)|refine C4 ?_ ?_|fail))⟩,trivial⟩ (by simp[sgL]))) ⟨by dsimp only;omega,by dsimp only;omega,fun q' hq'=> ?_,by simp,by simpa using hcap⟩
     rcases List.mem_append.1 hq' with hq'|hq'
     ·exact e4 q' hq'
     ·simp at hq';subst hq';exact MM hq3
    all_goals refine hKJ _ _ _ (_,rs,cr) (by(refine cR [28,33,0,16,17,18] (by omega) (by repeat' (first| (with_reducible first|exact C1|refine C2 ?_ ?_)| ((with_reducible refine C0 ?_);first|exact CQ (by omega) rfl rfl (by rfl) rfl|exact CE (by omega) rfl)| ((with_reducible refine D0 ?_);first|exact CA rfl|refine CJ ?_)|fail)) ⟨⟨by simp,by simp[sgL],_,rfl,bS (aV _ _)⟩,⟨by simp,by simp[sgL],_,rfl,aP (by repeat' (first| (with_reducible first|exact C3|refine C4 ?_ ?_)| ((with_reducible refine C0 ?_);exact CC)|fail))⟩,⟨by simp,by simp[sgL],_,rfl,aP (by repeat' (first| (with_reducible first|exact C3|refine C4 ?_ ?_)| ((with_reducible refine C0 ?_);first|exact CB rfl|exact CQ (by omega) rfl rfl (by rfl) rfl)|fail))⟩,⟨by simp,by simp[sgL],_,rfl,bP (aG iR _) rfl rfl⟩,⟨by simp,by simp[sgL],_,rfl,bP (aG rL _) rfl rfl⟩,⟨by simp,by simp[sgL],_,rfl,aP (by repeat' (first| (with_reducible first|exact C3|refine C4 ?_ ?_)| ((with_reducible refine C0 ?_);exact CB rfl)|refine C4 ?_ ?_|fail))⟩,trivial⟩ (by simp[sgL]))) ⟨by dsimp only;omega,by dsimp only;omega,e4,by dsimp only;omega,e6⟩
   rintro⟨pk,rk,ck⟩ ⟨d1,d2,d3,d4,d5⟩
   dsimp only at d1 d2 d3 d4 d5
   have htk:rk.take rk.length=rk:=List.take_length
   repeat' (first| (with_reducible first| (refine hK _ _ _ ?_;clear hK K)|refine fun(cap:Nat) (hcap:_≤cap)=> ?_|refine fun(hcp:_≤cap)=> ?_)| (with_reducible refine Y2 fun K hK=> ?_)<;>(simp only[go_sem,htk];try simp (disch:=omega) only[Iw])| ((with_reducible refine Y0 ?_);simp only[AQ.then,AQ.blk])|refine⟨by omega,?_⟩| (with_reducible refine hKB _ _ _ ?_)|fail)
   refine hKN _ _ _ (j-1,pk,rk++[q],cap) (by omega) (by(refine cR [40,0,16,17,18] (by omega) (by repeat' (first| (with_reducible first|exact C1|refine C2 ?_ ?_)| ((with_reducible refine C0 ?_);first| (exact CQ (by omega) rfl rfl (by first|rfl| (simp;done)) rfl)|exact CE (by omega) rfl| (exact CG (by(congr 2;omega)) rfl))| ((with_reducible refine D0 ?_);first|exact CA rfl|refine CJ ?_)|fail)) ⟨⟨by simp,by simp[sgL],_,rfl,bS (aV _ _)⟩,⟨by simp,by simp[sgL],_,rfl,aP (by repeat' (first| (with_reducible first|exact C3|refine C4 ?_ ?_)| ((with_reducible refine C0 ?_);exact CC)|fail))⟩,⟨by simp,by simp[sgL],_,rfl,aP (by repeat' (first| (with_reducible first|exact C3|refine C4 ?_ ?_)| ((with_reducible refine C0 ?_);first|exact CB rfl|exact CQ (by omega) rfl rfl (by rfl) rfl)|fail))⟩,⟨by simp,by simp[sgL],_,rfl,bP (aG iR _) rfl rfl⟩,⟨by simp,by simp[sgL],_,rfl,bP (aG rL _) rfl rfl⟩,trivial⟩ (by simp[sgL]))) ⟨by dsimp only;omega,by dsimp only;omega,by dsimp only;omega,fun q' hq'=> ?_,by simp;omega,by simpa using hcap⟩ (by dsimp only;omega)
   rcases List.mem_append.1 hq' with hq'|hq'
   ·exact d3 q' hq'
   ·simp at hq';subst hq';exact hq3
  ·by_cases hmin:(rs.length:Int)≤12
   ·repeat' (first| (with_reducible first| (refine hK _ _ _ ?_;clear hK K)| (refine hB ?_;clear hA hB A B)|refine Z1 ?_|refine Z5 (by omega) ?_|refine fun(cap:Nat) (hcap:_≤cap)=> ?_|refine fun(hcp:_≤cap)=> ?_|refine hKZ _ _ _ ?_)| (with_reducible first|refine Y2 fun K hK=> ?_|refine Y3 fun A B hA hB=> ?_)<;>(simp only[go_sem,htp];try simp (disch:=omega) only[Iw])| ((with_reducible refine Y9 ?_);try simp only[AQ.then,AQ.blk,reduceIte,Nat.reduceEqDiff])| ((with_reducible refine Y0 ?_);simp only[AQ.then,AQ.blk])|refine⟨by omega,?_⟩| (with_reducible refine hKB _ _ _ ?_)|fail)
    refine hKM _ _ _ (k+1,pj,ps++[rs],cap) (by omega) (by(refine cR [16,17,39,0] (by omega) (by repeat' (first| (with_reducible first|exact C1|refine C2 ?_ ?_)| ((with_reducible refine C0 ?_);exact CE (by omega) rfl)| ((with_reducible refine D0 ?_);first|exact CA rfl|refine CJ ?_)|fail)) ⟨⟨by simp,by simp[sgL],_,rfl,bS (aV _ _)⟩,⟨by simp,by simp[sgL],_,rfl,aP (by repeat' (first| (with_reducible first|exact C3|refine C4 ?_ ?_)| ((with_reducible refine C0 ?_);exact CC)|fail))⟩,⟨by simp,by simp[sgL],_,rfl,aP (by repeat' (first| (with_reducible first|exact C3|refine C4 ?_ ?_)| ((with_reducible refine C0 ?_);first|exact CB rfl|exact CQ (by omega) rfl rfl (by rfl) rfl)|fail))⟩,⟨by simp,by simp[sgL],_,rfl,uO (R:=ps.map jR) (r':=jR rs) (by simp) rfl (fun r hr=>(aG iR ps r hr).2) rfl (aH (bW rL rfl (by rw[if_neg (by omega)];omega) (by omega) (by simp)) eP)⟩,trivial⟩ (by simp[sgL]))) ⟨by dsimp only;omega,by dsimp only;omega,by dsimp only;omega,by simp;omega,fun pr hpr=> ?_,by dsimp only;omega⟩ (by dsimp only;omega)
    rcases List.mem_append.1 hpr with hpr|hpr
    ·exact g5 pr hpr
    ·simp at hpr;subst hpr;exact⟨by omega,e4⟩
   ·repeat' (first| (with_reducible first| (refine hK _ _ _ ?_;clear hK K)| (refine hB ?_;clear hA hB A B)|refine Z1 ?_|refine Z5 (by omega) ?_|refine fun(cap:Nat) (hcap:_≤cap)=> ?_|refine fun(hcp:_≤cap)=> ?_|refine hKZ _ _ _ ?_)| (with_reducible first|refine Y2 fun K hK=> ?_|refine Y3 fun A B hA hB=> ?_)<;>(simp only[go_sem,htp];try simp (disch:=omega) only[Iw])| ((with_reducible refine Y9 ?_);try simp only[AQ.then,AQ.blk,reduceIte,Nat.reduceEqDiff])| ((with_reducible refine Y0 ?_);simp only[AQ.then,AQ.blk])|refine⟨by omega,?_⟩| (with_reducible refine hKB _ _ _ ?_)|fail)
    refine hKM _ _ _ (k+1,pj,ps++[rs.take 12],cap) (by omega) (by(refine cR [16,17,39,0] (by omega) (by repeat' (first| (with_reducible first|exact C1|refine C2 ?_ ?_)| ((with_reducible refine C0 ?_);exact CE (by omega) rfl)| ((with_reducible refine D0 ?_);first|exact CA rfl|refine CJ ?_)|fail)) ⟨⟨by simp,by simp[sgL],_,rfl,bS (aV _ _)⟩,⟨by simp,by simp[sgL],_,rfl,aP (by repeat' (first| (with_reducible first|exact C3|refine C4 ?_ ?_)| ((with_reducible refine C0 ?_);exact CC)|fail))⟩,⟨by simp,by simp[sgL],_,rfl,aP (by repeat' (first| (with_reducible first|exact C3|refine C4 ?_ ?_)| ((with_reducible refine C0 ?_);first|exact CB rfl|exact CQ (by omega) rfl rfl (by rfl) rfl)|fail))⟩,⟨by simp,by simp[sgL],_,rfl,uO (R:=ps.map jR) (r':=jR (rs.take 12)) (by simp) rfl (fun r hr=>(aG iR ps r hr).2) rfl (aH (XN (aG rL (rs.take 12)) (by rw[if_pos (by omega),List.length_map,List.length_take];omega) (by simp) rfl rfl (by dsimp only;rw[List.length_map,List.length_take,List.map_take,show min 12 rs.length=12 by omega]) (by rw[List.length_map,List.length_take];omega)) eP)⟩,trivial⟩ (by simp[sgL]))) ⟨by dsimp only;omega,by dsimp only;omega,by dsimp only;omega,by simp;omega,fun pr hpr=> ?_,by dsimp only;omega⟩ (by dsimp only;omega)
    rcases List.mem_append.1 hpr with hpr|hpr
    ·exact g5 pr hpr
    ·simp at hpr;subst hpr;exact⟨by simp;omega,fun q hq=>e4 q (List.mem_of_mem_take hq)⟩
 ·repeat' (first| (with_reducible first| (refine hK _ _ _ ?_;clear hK K)| (refine hB ?_;clear hA hB A B)|refine Z1 ?_|refine Z5 (by omega) ?_|refine hKY _ _ _ ?_)| (with_reducible first|refine Y2 fun K hK=> ?_|refine Y3 fun A B hA hB=> ?_)<;>(simp only[go_sem])| ((with_reducible first|refine Y8 ?_|refine Y9 ?_);try simp only[AQ.then,AQ.blk,reduceIte,Nat.reduceEqDiff])|fail)
  have hk3:k=3:=by omega
  subst hk3
  refine lA hQ (dA (cU ⟨m,la,ps⟩)) _ _ rfl (aH (bB rfl) (aH (bB rfl) (aH (bW iR rfl (by dsimp only;omega) (by dsimp only;omega) (by decide)) eP))) rfl (aV _ _) ⟨pl,⟨m,la,ps⟩,rfl,by omega,by omega,rfl,?_⟩
  have hpo: ∀pr∈ps,mV pr:=fun pr hpr=>by
   obtain⟨q1,q2⟩:=g5 pr hpr
   refine⟨by omega,fun hc=> ?_⟩
   obtain⟨x,hx,hx2⟩:=cH.1 hc
   exact of_decide_eq_true hx2 (q2 x hx)
  refine⟨⟨hmok,by dsimp only;omega,f5,by dsimp only;omega,fun hc=> ?_⟩,⟨by have:=hmok.1;dsimp only;omega,by dsimp only;omega,by dsimp only;omega,fun pr hpr=>by have:=(g5 pr hpr).1;omega,fun pr hpr q hq=> ?_⟩⟩
  ·obtain⟨x,hx,hx2⟩:=cH.1 hc
   exact of_decide_eq_true hx2 (hpo x hx)
  ·exact L4 ((g5 pr hpr).2 q hq)
theorem IG {l:List Int} {p i:Nat} (hl:kZ l) (hp50:p+1000<2^50) (hi:i<nx) (ho:H i=some (rdO l p)) (h: ∀(p':Nat) (c:Cfg),p≤p'→p'≤p+1000→(aQ c∧jO c)→K (dA (cU c)) (H.set i (rdO l p')) nx):
 aB Tryz.prog lJ [dP 2 i,dI 7] H nx K:=
 (zM l p hl hp50).OU i rfl (gW ⟨DG (by omega) rfl,aE rfl,trivial⟩) hi ho (aV l p) fun r o' ⟨p',c,h1,h2,h3,h4,h5⟩=>by
  subst h1;subst h4;exact EW (A:=fun d=>K d (H.set i (rdO l p')) nx) rfl (h p' c h2 h3 h5)
end
end Go.Proofs.YtegiblhkjfiooaaGreat.B7
namespace Go.Proofs.YtegiblhkjfiooaaGreat
open Go Go.AM
set_option maxRecDepth 100000
set_option maxHeartbeats 8000000
section
variable {H : aA} {nx : Nat} {K : D → aA → Nat → Prop}
end
end Go.Proofs.YtegiblhkjfiooaaGreat
end
