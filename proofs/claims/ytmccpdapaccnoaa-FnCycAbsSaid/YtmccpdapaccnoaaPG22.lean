/- Texts laid together by a program: rules, contracts and the walk that leads to the law. -/
import Derived.Test.YtmccpdapaccnoaaPG8
import Derived.Test.YtmccpdapaccnoaaPG21
import Derived.Test.YtmccpdapaccnoaaPG13
import Derived.Test.YtmccpdapaccnoaaPG11
set_option linter.unusedVariables false
set_option linter.unusedSimpArgs false
set_option linter.unusedSectionVars false
section
namespace Go.AM
theorem aN1 {L:List (List D1)} (h: ∀r∈L,∃v:Int,r=[.v (.int .i64 v)]) {x:Int} (h1:0≤x) (h2:x<L.length): ∃v:Int,L[x.toNat]?=some [.v (.int .i64 v)]:=by
 have h3:x.toNat<L.length:=by omega
 obtain⟨v,hv⟩:=h _ (List.getElem_mem h3)
 exact⟨v,by rw[List.getElem?_eq_getElem h3,hv]⟩
end Go.AM
namespace Go.Proofs.Ytmccpdapaccnoaa
open Go Go.AM
set_option maxRecDepth 100000
set_option maxHeartbeats 20000000
section
variable {H : aA} {nx : Nat} {K : D → aA → Nat → Prop}
def rqB (b1 b2 c1 c2:Nat) (q:Req):List D1:=[cI q.id,cI q.kind,cI q.addr,cI q.many,cB q.wrap,.osl 1 b1 0 q.data.length c1,.osl 1 b2 0 q.g6.length c2]
theorem aSU {l:List Int} {p:Nat} {Q:AQ} (hQ: ∀ex e2 H2 nx2 d nh d2 H3 F σ,ex=AEx.normal∨ex=AEx.ret→yT H2 e2 E5=some d→CvR 1 d H2 nh d2 H3 F σ→(nh=1∧ ∃o',H3=hp [(0,o')]∧C7 o'∧ ∃(p':Nat) (q:Req),o'=rdO l p'∧p≤p'∧p'≤p+45∧d2=dA (eB q)∧(q.data.length≤8∧q.g6.length≤8))→Q ex e2 H2 nx2)
 {e2:Env} {H2:aA} {nx2 b1 b2 n1 n2 c1 c2 m1 m2 p':Nat} {id kind addr many:Int} {wrap:Bool} {D L:List Int} (h1:yT H2 e2 E5=some (dA [cI id,cI kind,cI addr,cI many,cB wrap,.osl 1 b1 0 n1 c1,.osl 1 b2 0 n2 c2])) (h2:H2 0=some (rdO l p')) (h3:H2 b1=some ⟨1,m1,D.map aJ⟩) (h4:H2 b2=some ⟨1,m2,L.map aJ⟩)
 (h5:p≤p'∧p'≤p+45) (h6:n1=D.length∧n2=L.length) (h7:n1≤c1∧n2≤c2∧b1≠0∧b2≠0∧n1≤8∧n2≤8):Q .ret e2 H2 nx2:=by
 obtain⟨h7,h8,h9,h10,h11,h12⟩:=h7
 obtain⟨rfl,rfl⟩:=h6
 exact lA hQ (dA (eB ⟨id,kind,addr,many,wrap,D,L⟩)) _ _ h1 (aH (bB rfl) (aH (bB rfl) (aH (bB rfl) (aH (bB rfl) (aH (bB rfl) (aH (bW bF h3 rfl h7 (by simpa using h9)) (aH (bW bF h4 rfl h8 (by simpa using h10)) eP))))))) h2 (aV _ _) ⟨p',_,rfl,h5.1,h5.2,rfl,h11,h12⟩
theorem aQK (l:List Int) (p:Nat) (hl:kZ l) (hp50:p+45<2^50):aB Try.prog tS [bkP 2 0,dI 1] (hp [(0,rdO l p)]) 1
 fun rr H' n'=>n'=1∧ ∃o',H'=hp [(0,o')]∧C7 o'∧ ∃(p':Nat) (q:Req),o'=rdO l p'∧p≤p'∧p'≤p+45∧rr=dA (eB q)∧(q.data.length≤8∧q.g6.length≤8):=by
 refine QN rfl fun Q hQ=> ?_
 unfold xW
 (refine aM.asL fun K hK=> ?_);(simp only[go_sem];try simp (disch:=omega) only[Iw]);(refine hK _ _ _ ?_;clear hK K)
 refine aM.join 2 (α:={u:Rq//(0≤u.id∧u.id≤1)∧(1≤u.kind∧u.kind≤4)∧(0≤u.addr∧u.addr≤63)∧(u.many=1∨u.many=2∨u.many=4)∧p≤u.p∧u.p≤p+11})
  (fun b u=>en [(5,bkP 7 (b+1)),(4,bkP 7 b),(1,dI 1),(0,bkP 2 0)]) (fun b u=>hp [(0,rdO l u.1.p),(b,⟨7,1,[rq0 0 0 0 0 false]⟩),(b+1,⟨7,1,[rq0 u.1.id u.1.kind u.1.addr u.1.many u.1.wrap]⟩)]) (fun bkT hKJ=> ?_) ?_
 ·repeat' (first| (first| (with_reducible refine Y2 fun K hK=> ?_)| (refine aX hl (by omega) (by omega) (by omega) rfl (fun x h1 h2=> ?_))| (refine SE hl (by omega) (by omega) rfl (fun pa xa ha1 ha2 ha3=> ?_)))<;>(simp only[go_sem];try simp (disch:=omega) only[Iw])|refine⟨by omega,?_⟩|fail)
  have hx:x=0∨x=1∨x=2∨x=3:=by omega
  rcases hx with rfl|rfl|rfl|rfl
  all_goals simp only[go_sem];try simp (disch:=omega) only[Iw]
  all_goals repeat' (first| (with_reducible (refine hK _ _ _ ?_;clear hK K))| (refine aX hl (by omega) (by omega) (by omega) rfl (fun x h1 h2=> ?_))<;>(simp only[go_sem])| ((with_reducible refine Y0 ?_);simp only[AQ.then,AQ.blk])|fail)
  all_goals rename_i id hid1 hid2 kind hkind1 hkind2 _ _
  ·refine hKJ _ _ _ ⟨⟨id,1+kind,xa,1,decide (x=0),pa+1+1⟩,by dsimp only;omega,by dsimp only;omega,by dsimp only;omega,by dsimp only;omega,by dsimp only;omega,by dsimp only;omega⟩ (by(refine cR [1,18,0] (by omega) (by repeat' (first| (with_reducible first|exact C1|refine C2 ?_ ?_)| ((with_reducible refine C0 ?_);exact CE (by omega) rfl)| ((with_reducible refine D0 ?_);first|exact CA rfl|refine CJ ?_)|fail)) ⟨⟨by simp,by simp[sgL],_,rfl,bS (aV _ _)⟩,⟨by simp,by simp[sgL],_,rfl,aP (by(try unfold rq0);repeat' (first| (with_reducible first|exact C3|refine C4 ?_ ?_)| ((with_reducible refine C0 ?_);first|exact CB rfl|exact CC)|fail))⟩,⟨by simp,by simp[sgL],_,rfl,aP (by(try unfold rq0);repeat' (first| (with_reducible first|exact C3|refine C4 ?_ ?_)| ((with_reducible refine C0 ?_);first|exact CB rfl|exact CC)|fail))⟩,trivial⟩ (by simp[sgL])))
  ·refine hKJ _ _ _ ⟨⟨id,1+kind,xa,1,decide (x=0),pa+1+1⟩,by dsimp only;omega,by dsimp only;omega,by dsimp only;omega,by dsimp only;omega,by dsimp only;omega,by dsimp only;omega⟩ (by(refine cR [1,18,0] (by omega) (by repeat' (first| (with_reducible first|exact C1|refine C2 ?_ ?_)| ((with_reducible refine C0 ?_);exact CE (by omega) rfl)| ((with_reducible refine D0 ?_);first|exact CA rfl|refine CJ ?_)|fail)) ⟨⟨by simp,by simp[sgL],_,rfl,bS (aV _ _)⟩,⟨by simp,by simp[sgL],_,rfl,aP (by(try unfold rq0);repeat' (first| (with_reducible first|exact C3|refine C4 ?_ ?_)| ((with_reducible refine C0 ?_);first|exact CB rfl|exact CC)|fail))⟩,⟨by simp,by simp[sgL],_,rfl,aP (by(try unfold rq0);repeat' (first| (with_reducible first|exact C3|refine C4 ?_ ?_)| ((with_reducible refine C0 ?_);first|exact CB rfl|exact CC)|fail))⟩,trivial⟩ (by simp[sgL])))
  ·refine hKJ _ _ _ ⟨⟨id,1+kind,xa,2,decide (x=0),pa+1+1⟩,by dsimp only;omega,by dsimp only;omega,by dsimp only;omega,by dsimp only;omega,by dsimp only;omega,by dsimp only;omega⟩ (by(refine cR [1,18,0] (by omega) (by repeat' (first| (with_reducible first|exact C1|refine C2 ?_ ?_)| ((with_reducible refine C0 ?_);exact CE (by omega) rfl)| ((with_reducible refine D0 ?_);first|exact CA rfl|refine CJ ?_)|fail)) ⟨⟨by simp,by simp[sgL],_,rfl,bS (aV _ _)⟩,⟨by simp,by simp[sgL],_,rfl,aP (by(try unfold rq0);repeat' (first| (with_reducible first|exact C3|refine C4 ?_ ?_)| ((with_reducible refine C0 ?_);first|exact CB rfl|exact CC)|fail))⟩,⟨by simp,by simp[sgL],_,rfl,aP (by(try unfold rq0);repeat' (first| (with_reducible first|exact C3|refine C4 ?_ ?_)| ((with_reducible refine C0 ?_);first|exact CB rfl|exact CC)|fail))⟩,trivial⟩ (by simp[sgL])))
  ·refine hKJ _ _ _ ⟨⟨id,1+kind,xa,4,decide (x=0),pa+1+1⟩,by dsimp only;omega,by dsimp only;omega,by dsimp only;omega,by dsimp only;omega,by dsimp only;omega,by dsimp only;omega⟩ (by(refine cR [1,18,0] (by omega) (by repeat' (first| (with_reducible first|exact C1|refine C2 ?_ ?_)| ((with_reducible refine C0 ?_);exact CE (by omega) rfl)| ((with_reducible refine D0 ?_);first|exact CA rfl|refine CJ ?_)|fail)) ⟨⟨by simp,by simp[sgL],_,rfl,bS (aV _ _)⟩,⟨by simp,by simp[sgL],_,rfl,aP (by(try unfold rq0);repeat' (first| (with_reducible first|exact C3|refine C4 ?_ ?_)| ((with_reducible refine C0 ?_);first|exact CB rfl|exact CC)|fail))⟩,⟨by simp,by simp[sgL],_,rfl,aP (by(try unfold rq0);repeat' (first| (with_reducible first|exact C3|refine C4 ?_ ?_)| ((with_reducible refine C0 ?_);first|exact CB rfl|exact CC)|fail))⟩,trivial⟩ (by simp[sgL])))
 rintro⟨⟨id,kind,addr,many,wrap,q⟩,f1,f2,f3,f4,f5,f6⟩
 dsimp only at f1 f2 f3 f4 f5 f6
 refine aM.join 2 (α:={u:Rq//((0≤u.id∧u.id≤1)∧(1≤u.kind∧u.kind≤4)∧(0≤u.addr∧u.addr≤63)∧(u.many=1∨u.many=2∨u.many=4)∧p≤u.p∧u.p≤p+12)∧(3≤u.kind→u.many=1)})
  (fun b u=>en [(5,bkP 7 (b+1)),(4,bkP 7 b),(1,dI 1),(0,bkP 2 0)]) (fun b u=>hp [(0,rdO l u.1.p),(b,⟨7,1,[rq0 0 0 0 0 false]⟩),(b+1,⟨7,1,[rq0 u.1.id u.1.kind u.1.addr u.1.many u.1.wrap]⟩)]) (fun bkT hKJ=> ?_) ?_
 ·repeat' (first| (with_reducible first| (refine hK _ _ _ ?_;clear hK K)| (refine hA ?_;clear hA hB A B)| (refine hB ?_;clear hA hB A B)|refine Z1 ?_|refine Z2 ?_|refine Z6 (fun h=> ?_) fun h=> ?_)| (first| (with_reducible first|refine Y2 fun K hK=> ?_|refine Y3 fun A B hA hB=> ?_)| (refine aX hl (by omega) (by omega) (by omega) rfl (fun x h1 h2=> ?_)))<;>(simp only[go_sem,rq0])| ((with_reducible refine Y0 ?_);simp only[AQ.then,AQ.blk])|refine⟨by omega,?_⟩|fail)
  ·have hx:x=0∨x=1∨x=2∨x=3:=by omega
   rcases hx with rfl|rfl|rfl|rfl
   all_goals simp only[go_sem];try simp (disch:=omega) only[Iw]
   all_goals repeat' (first| (with_reducible (refine hK _ _ _ ?_;clear hK K))| ((with_reducible refine Y0 ?_);simp only[AQ.then,AQ.blk])|fail)
   ·refine hKJ _ _ _ ⟨⟨id,kind,0,1,wrap,q+1⟩,by dsimp only;omega,by dsimp only;omega⟩ (by(refine cR [2,3,0] (by omega) (by repeat' (first| (with_reducible first|exact C1|refine C2 ?_ ?_)| ((with_reducible refine C0 ?_);exact CE (by omega) rfl)| ((with_reducible refine D0 ?_);first|exact CA rfl|refine CJ ?_)|fail)) ⟨⟨by simp,by simp[sgL],_,rfl,bS (aV _ _)⟩,⟨by simp,by simp[sgL],_,rfl,aP (by(try unfold rq0);repeat' (first| (with_reducible first|exact C3|refine C4 ?_ ?_)| ((with_reducible refine C0 ?_);first|exact CB rfl|exact CC)|fail))⟩,⟨by simp,by simp[sgL],_,rfl,aP (by(try unfold rq0);repeat' (first| (with_reducible first|exact C3|refine C4 ?_ ?_)| ((with_reducible refine C0 ?_);first|exact CB rfl|exact CC)|fail))⟩,trivial⟩ (by simp[sgL])))
   ·refine hKJ _ _ _ ⟨⟨id,kind,1,1,wrap,q+1⟩,by dsimp only;omega,by dsimp only;omega⟩ (by(refine cR [2,3,0] (by omega) (by repeat' (first| (with_reducible first|exact C1|refine C2 ?_ ?_)| ((with_reducible refine C0 ?_);exact CE (by omega) rfl)| ((with_reducible refine D0 ?_);first|exact CA rfl|refine CJ ?_)|fail)) ⟨⟨by simp,by simp[sgL],_,rfl,bS (aV _ _)⟩,⟨by simp,by simp[sgL],_,rfl,aP (by(try unfold rq0);repeat' (first| (with_reducible first|exact C3|refine C4 ?_ ?_)| ((with_reducible refine C0 ?_);first|exact CB rfl|exact CC)|fail))⟩,⟨by simp,by simp[sgL],_,rfl,aP (by(try unfold rq0);repeat' (first| (with_reducible first|exact C3|refine C4 ?_ ?_)| ((with_reducible refine C0 ?_);first|exact CB rfl|exact CC)|fail))⟩,trivial⟩ (by simp[sgL])))
   ·refine hKJ _ _ _ ⟨⟨id,kind,16,1,wrap,q+1⟩,by dsimp only;omega,by dsimp only;omega⟩ (by(refine cR [2,3,0] (by omega) (by repeat' (first| (with_reducible first|exact C1|refine C2 ?_ ?_)| ((with_reducible refine C0 ?_);exact CE (by omega) rfl)| ((with_reducible refine D0 ?_);first|exact CA rfl|refine CJ ?_)|fail)) ⟨⟨by simp,by simp[sgL],_,rfl,bS (aV _ _)⟩,⟨by simp,by simp[sgL],_,rfl,aP (by(try unfold rq0);repeat' (first| (with_reducible first|exact C3|refine C4 ?_ ?_)| ((with_reducible refine C0 ?_);first|exact CB rfl|exact CC)|fail))⟩,⟨by simp,by simp[sgL],_,rfl,aP (by(try unfold rq0);repeat' (first| (with_reducible first|exact C3|refine C4 ?_ ?_)| ((with_reducible refine C0 ?_);first|exact CB rfl|exact CC)|fail))⟩,trivial⟩ (by simp[sgL])))
   ·refine hKJ _ _ _ ⟨⟨id,kind,32,1,wrap,q+1⟩,by dsimp only;omega,by dsimp only;omega⟩ (by(refine cR [2,3,0] (by omega) (by repeat' (first| (with_reducible first|exact C1|refine C2 ?_ ?_)| ((with_reducible refine C0 ?_);exact CE (by omega) rfl)| ((with_reducible refine D0 ?_);first|exact CA rfl|refine CJ ?_)|fail)) ⟨⟨by simp,by simp[sgL],_,rfl,bS (aV _ _)⟩,⟨by simp,by simp[sgL],_,rfl,aP (by(try unfold rq0);repeat' (first| (with_reducible first|exact C3|refine C4 ?_ ?_)| ((with_reducible refine C0 ?_);first|exact CB rfl|exact CC)|fail))⟩,⟨by simp,by simp[sgL],_,rfl,aP (by(try unfold rq0);repeat' (first| (with_reducible first|exact C3|refine C4 ?_ ?_)| ((with_reducible refine C0 ?_);first|exact CB rfl|exact CC)|fail))⟩,trivial⟩ (by simp[sgL])))
  ·refine hKJ _ _ _ ⟨⟨id,kind,addr,many,wrap,q⟩,by dsimp only;omega,by dsimp only;omega⟩ (by(refine cR [2,3,0] (by omega) (by repeat' (first| (with_reducible first|exact C1|refine C2 ?_ ?_)| ((with_reducible refine C0 ?_);exact CE (by omega) rfl)| ((with_reducible refine D0 ?_);first|exact CA rfl|refine CJ ?_)|fail)) ⟨⟨by simp,by simp[sgL],_,rfl,bS (aV _ _)⟩,⟨by simp,by simp[sgL],_,rfl,aP (by(try unfold rq0);repeat' (first| (with_reducible first|exact C3|refine C4 ?_ ?_)| ((with_reducible refine C0 ?_);first|exact CB rfl|exact CC)|fail))⟩,⟨by simp,by simp[sgL],_,rfl,aP (by(try unfold rq0);repeat' (first| (with_reducible first|exact C3|refine C4 ?_ ?_)| ((with_reducible refine C0 ?_);first|exact CB rfl|exact CC)|fail))⟩,trivial⟩ (by simp[sgL])))
 rintro⟨⟨id,kind,addr,many,wrap,q⟩,⟨f1,f2,f3,f4,f5,f6⟩,f7⟩
 dsimp only at f1 f2 f3 f4 f5 f6 f7
 refine aM.join 2 (α:={u:Rq//((0≤u.id∧u.id≤1)∧(1≤u.kind∧u.kind≤4)∧p≤u.p∧u.p≤p+12)∧(3≤u.kind→u.many=1)∧o7 u.addr u.many u.wrap})
  (fun b u=>en [(5,bkP 7 (b+1)),(4,bkP 7 b),(1,dI 1),(0,bkP 2 0)]) (fun b u=>hp [(0,rdO l u.1.p),(b,⟨7,1,[rq0 0 0 0 0 false]⟩),(b+1,⟨7,1,[rq0 u.1.id u.1.kind u.1.addr u.1.many u.1.wrap]⟩)]) (fun bkT hKJ=> ?_) ?_
 ·repeat' (first| (with_reducible first| (refine hK _ _ _ ?_;clear hK K)| (refine hA ?_;clear hA hB A B)| (refine hB ?_;clear hA hB A B)|refine Z1 ?_|refine Z2 ?_|refine Z6 (fun h=> ?_) fun h=> ?_)| (with_reducible first|refine Y2 fun K hK=> ?_|refine Y3 fun A B hA hB=> ?_| (refine Y7 (fun h=> ?_) (fun h=> ?_)<;>try subst h))<;>(simp only[go_sem,rq0];try simp (disch:=omega) only[Iw])| ((with_reducible refine Y0 ?_);simp only[AQ.then,AQ.blk])|fail)
  ·refine hKJ _ _ _ ⟨⟨id,kind,63-many+1,many,wrap,q⟩,by dsimp only;omega,by dsimp only;omega,by dsimp only;exact⟨by omega,by omega,.inr (by omega)⟩⟩ (by(refine cR [4,5,0] (by omega) (by repeat' (first| (with_reducible first|exact C1|refine C2 ?_ ?_)| ((with_reducible refine C0 ?_);exact CE (by omega) rfl)| ((with_reducible refine D0 ?_);first|exact CA rfl|refine CJ ?_)|fail)) ⟨⟨by simp,by simp[sgL],_,rfl,bS (aV _ _)⟩,⟨by simp,by simp[sgL],_,rfl,aP (by(try unfold rq0);repeat' (first| (with_reducible first|exact C3|refine C4 ?_ ?_)| ((with_reducible refine C0 ?_);first|exact CB rfl|exact CC)|fail))⟩,⟨by simp,by simp[sgL],_,rfl,aP (by(try unfold rq0);repeat' (first| (with_reducible first|exact C3|refine C4 ?_ ?_)| ((with_reducible refine C0 ?_);first|exact CB rfl|exact CC)|fail))⟩,trivial⟩ (by simp[sgL])))
  ·refine hKJ _ _ _ ⟨⟨id,kind,addr,many,wrap,q⟩,by dsimp only;omega,by dsimp only;omega,by dsimp only;exact⟨by omega,by omega,.inr (by omega)⟩⟩ (by(refine cR [4,5,0] (by omega) (by repeat' (first| (with_reducible first|exact C1|refine C2 ?_ ?_)| ((with_reducible refine C0 ?_);exact CE (by omega) rfl)| ((with_reducible refine D0 ?_);first|exact CA rfl|refine CJ ?_)|fail)) ⟨⟨by simp,by simp[sgL],_,rfl,bS (aV _ _)⟩,⟨by simp,by simp[sgL],_,rfl,aP (by(try unfold rq0);repeat' (first| (with_reducible first|exact C3|refine C4 ?_ ?_)| ((with_reducible refine C0 ?_);first|exact CB rfl|exact CC)|fail))⟩,⟨by simp,by simp[sgL],_,rfl,aP (by(try unfold rq0);repeat' (first| (with_reducible first|exact C3|refine C4 ?_ ?_)| ((with_reducible refine C0 ?_);first|exact CB rfl|exact CC)|fail))⟩,trivial⟩ (by simp[sgL])))
  ·refine hKJ _ _ _ ⟨⟨id,kind,addr,many,wrap,q⟩,by dsimp only;omega,by dsimp only;omega,by dsimp only;exact⟨by omega,by omega,.inl (by simp_all)⟩⟩ (by(refine cR [4,5,0] (by omega) (by repeat' (first| (with_reducible first|exact C1|refine C2 ?_ ?_)| ((with_reducible refine C0 ?_);exact CE (by omega) rfl)| ((with_reducible refine D0 ?_);first|exact CA rfl|refine CJ ?_)|fail)) ⟨⟨by simp,by simp[sgL],_,rfl,bS (aV _ _)⟩,⟨by simp,by simp[sgL],_,rfl,aP (by(try unfold rq0);repeat' (first| (with_reducible first|exact C3|refine C4 ?_ ?_)| ((with_reducible refine C0 ?_);first|exact CB rfl|exact CC)|fail))⟩,⟨by simp,by simp[sgL],_,rfl,aP (by(try unfold rq0);repeat' (first| (with_reducible first|exact C3|refine C4 ?_ ?_)| ((with_reducible refine C0 ?_);first|exact CB rfl|exact CC)|fail))⟩,trivial⟩ (by simp[sgL])))
 rintro⟨⟨id,kind,addr,many,wrap,q⟩,⟨f1,f2,f5,f6⟩,f7,f8⟩
 dsimp only at f1 f2 f5 f6 f7 f8
 have f4:=f8.1
 refine aM.EJ 1 (aM.EJ 1 ?_)
 refine aM.join 4 (α:={u:Req×Nat×Nat×Nat//(u.1.data.length≤4∧u.1.g6.length≤4∧u.1.data.length≤u.2.2.1∧u.1.g6.length≤u.2.2.2)∧p≤u.2.1∧u.2.1≤p+40})
  (fun b u=>en [(5,bkP 7 (b+1)),(4,bkP 7 b),(1,dI 1),(0,bkP 2 0)]) (fun b u=>hp [(0,rdO l u.1.2.1),(b,⟨7,1,[rq0 0 0 0 0 false]⟩),(b+1,⟨7,1,[rqB (b+2) (b+3) u.1.2.2.1 u.1.2.2.2 u.1.1]⟩),(b+2,⟨1,u.1.2.2.1,u.1.1.data.map aJ⟩),(b+3,⟨1,u.1.2.2.2,u.1.1.g6.map aJ⟩)]) (fun bkT hKJ=> ?_) ?_
 ·repeat' (first| (with_reducible first| (refine hK _ _ _ ?_;clear hK K)| (refine hA ?_;clear hA hB A B)| (refine hB ?_;clear hA hB A B)|refine Z1 ?_|refine Z2 ?_|refine Z3 fun KB hKB=> ?_|refine Z6 (fun h=> ?_) fun h=> ?_)| (with_reducible first|refine Y2 fun K hK=> ?_|refine Y3 fun A B hA hB=> ?_|refine Y6 (fun h=> ?_) fun h=> ?_)<;>(simp only[go_sem,rq0])| ((with_reducible refine Y0 ?_);simp only[AQ.then,AQ.blk])|fail)
  rotate_left 2
  ·exact hKJ _ _ _ ⟨(⟨id,kind,addr,many,wrap,[],[]⟩,q,0,0),by simp,by dsimp only;omega,by dsimp only;omega⟩ (by(refine cR [6,7,8,9,0] (by omega) (by repeat' (first| (with_reducible first|exact C1|refine C2 ?_ ?_)| ((with_reducible refine C0 ?_);exact CE (by omega) rfl)| ((with_reducible refine D0 ?_);first|exact CA rfl|refine CJ ?_)|fail)) ⟨⟨by simp,by simp[sgL],_,rfl,bS (aV _ _)⟩,⟨by simp,by simp[sgL],_,rfl,aP (by(try unfold rq0);repeat' (first| (with_reducible first|exact C3|refine C4 ?_ ?_)| ((with_reducible refine C0 ?_);first|exact CB rfl|exact CC)|fail))⟩,⟨by simp,by simp[sgL],_,rfl,aP (by(try unfold rq0 rqB);repeat' (first| (with_reducible first|exact C3|refine C4 ?_ ?_)| ((with_reducible refine C0 ?_);first|exact CB rfl|exact CC)|refine C4 ?_ ?_|fail))⟩,⟨by simp,by simp[sgL],_,rfl,bP (aG bF _) rfl rfl⟩,⟨by simp,by simp[sgL],_,rfl,bP (aG bF _) rfl rfl⟩,trivial⟩ (by simp[sgL])))
  all_goals
   have hkind:kind=2∨kind=4:=by omega
   (have hKX:=hKB;clear hKB)
   refine aM.sG 4 (β:=(Nat×Nat)×(List Int×Nat)×(List Int×Nat))
    (fun b u=>en [(6,dI u.1.1),(5,bkP 7 (b+1)),(4,bkP 7 b),(1,dI 1),(0,bkP 2 0)])
    (fun b u=>hp [(0,rdO l u.1.2),(b,⟨7,1,[rq0 0 0 0 0 false]⟩),(b+1,⟨7,1,[[cI id,cI kind,cI addr,cI many,cB wrap,.osl 1 (b+2) 0 u.1.1 u.2.1.2,.osl 1 (b+3) 0 u.1.1 u.2.2.2]]⟩),(b+2,⟨1,u.2.1.2,u.2.1.1.map aJ⟩),(b+3,⟨1,u.2.2.2,u.2.2.1.map aJ⟩)])
    (fun u=>((u.1.1:Int)≤many∧u.1.2≤q+4*u.1.1∧q≤u.1.2)∧(u.2.1.1.length=u.1.1∧u.1.1≤u.2.1.2)∧(u.2.2.1.length=u.1.1∧u.1.1≤u.2.2.2))
    (fun u=>many.toNat-u.1.1) ((0,q),([],0),([],0)) ?_ ⟨⟨by dsimp only;omega,by dsimp only;omega,by dsimp only;omega⟩,⟨rfl,by simp⟩,⟨rfl,by simp⟩⟩ ?_
   · (refine cR [6,7,8,9,0] (by omega) (by repeat' (first| (with_reducible first|exact C1|refine C2 ?_ ?_)| ((with_reducible refine C0 ?_);exact CE (by omega) rfl)| ((with_reducible refine D0 ?_);first|exact CA rfl|refine CJ ?_)|fail)) ⟨⟨by simp,by simp[sgL],_,rfl,bS (aV _ _)⟩,⟨by simp,by simp[sgL],_,rfl,aP (by unfold rq0;repeat' (first| (with_reducible first|exact C3|refine C4 ?_ ?_)| ((with_reducible refine C0 ?_);first|exact CB rfl|exact CC)|fail))⟩,⟨by simp,by simp[sgL],_,rfl,aP (by(try unfold rq0);repeat' (first| (with_reducible first|exact C3|refine C4 ?_ ?_)| ((with_reducible refine C0 ?_);first|exact CB rfl|exact CC)|fail))⟩,⟨by simp,by simp[sgL],_,rfl,bP (aG bF _) rfl rfl⟩,⟨by simp,by simp[sgL],_,rfl,bP (aG bF _) rfl rfl⟩,trivial⟩ (by simp[sgL]))
   ·rintro⟨⟨k,q'⟩,⟨da,ca⟩,⟨la,cl⟩⟩ ⟨⟨g1,g2,g3⟩,⟨g4,bkU⟩,⟨bkV,g9⟩⟩ KL hKL
    dsimp only at g1 g2 g3 g4 bkU bkV g9
    have hta:da.take k=da:=List.take_of_length_le (by omega)
    have htl:la.take k=la:=List.take_of_length_le (by omega)
    by_cases hlt:k<many.toNat
    ·repeat' (first| (with_reducible first| (refine hK _ _ _ ?_;clear hK K)| (refine hA ?_;clear hA hB A B)|refine Z1 ?_|refine Z2 ?_|refine Z3 fun KB hKB=> ?_|refine Z4 (by omega) ?_)| (first| (with_reducible first|refine Y2 fun K hK=> ?_|refine Y3 fun A B hA hB=> ?_)| (refine aX hl (by omega) (by omega) (by omega) rfl (fun x h1 h2=> ?_)))<;>(simp only[go_sem,rq0];try simp (disch:=omega) only[Iw])|refine⟨by omega,?_⟩|fail)
     rename_i xa xa1 xa2 xb xb1 xb2
     obtain⟨v,hv⟩:=aN1 (L:=[[.v (.int .i64 (xa*257))],[.v (.int .i64 xb)],[.v (.int .i64 65535)],[.v (.int .i64 0)]]) (by simp) h1 (by simp;omega)
     simp only[go_sem,hv,hta]
     repeat' (first| (with_reducible first| (refine hK _ _ _ ?_;clear hK K)|refine fun(cap:Nat) (hcap:_≤cap)=> ?_|refine fun(hcp:_≤cap)=> ?_)| (first| (with_reducible refine Y2 fun K hK=> ?_)| (refine aX hl (by omega) (by omega) (by omega) rfl (fun x h1 h2=> ?_)))<;>(simp only[go_sem,hta,htl])|refine⟨by omega,?_⟩|fail)
     obtain⟨u,hu⟩:=aN1 (L:=[[.v (.int .i64 3)],[.v (.int .i64 3)],[.v (.int .i64 1)],[.v (.int .i64 2)],[.v (.int .i64 0)]]) (by simp) h1 (by simp;omega)
     simp only[go_sem,hu,htl]
     repeat' (first| (with_reducible first| (refine hK _ _ _ ?_;clear hK K)|refine fun(cap:Nat) (hcap:_≤cap)=> ?_|refine fun(hcp:_≤cap)=> ?_)| (with_reducible refine Y2 fun K hK=> ?_)<;>(simp only[go_sem,hta,htl];try simp (disch:=omega) only[Iw])| ((with_reducible refine Y0 ?_);simp only[AQ.then,AQ.blk])|refine⟨by omega,?_⟩| (with_reducible refine hKB _ _ _ ?_)|fail)
     exact hKL _ _ _ ((k+1,_),(da++[_],_),(la++[_],_)) (by omega) (by(refine cR [19,20,40,51,0] (by omega) (by repeat' (first| (with_reducible first|exact C1|refine C2 ?_ ?_)| ((with_reducible refine C0 ?_);exact CE (by omega) rfl)| ((with_reducible refine D0 ?_);first|exact CA rfl|refine CJ ?_)|fail)) ⟨⟨by simp,by simp[sgL],_,rfl,bS (aV _ _)⟩,⟨by simp,by simp[sgL],_,rfl,aP (by unfold rq0;repeat' (first| (with_reducible first|exact C3|refine C4 ?_ ?_)| ((with_reducible refine C0 ?_);first|exact CB rfl|exact CC)|fail))⟩,⟨by simp,by simp[sgL],_,rfl,aP (by repeat' (first| (with_reducible first|exact C3|refine C4 ?_ ?_)| ((with_reducible refine C0 ?_);first|exact CB rfl|exact CQ (by omega) rfl rfl (by rfl) rfl)|fail))⟩,⟨by simp,by simp[sgL],_,rfl,bP (aG bF _) rfl rfl⟩,⟨by simp,by simp[sgL],_,rfl,bP (aG bF _) rfl rfl⟩,trivial⟩ (by simp[sgL])))
      ⟨⟨by dsimp only;omega,by dsimp only;omega,by dsimp only;omega⟩,⟨by simp;omega,by dsimp only;omega⟩,⟨by simp;omega,by dsimp only;omega⟩⟩ (by dsimp only;omega)
    ·repeat' (first| (with_reducible first| (refine hK _ _ _ ?_;clear hK K)| (refine hB ?_;clear hA hB A B)|refine Z1 ?_|refine Z5 (by omega) ?_|refine hKX _ _ _ ?_)| (with_reducible first|refine Y2 fun K hK=> ?_|refine Y3 fun A B hA hB=> ?_)<;>(simp only[go_sem,rq0])| ((with_reducible refine Y9 ?_);try simp only[AQ.then,AQ.blk,reduceIte,Nat.reduceEqDiff])| ((with_reducible refine Y0 ?_);simp only[AQ.then,AQ.blk])|fail)
     exact hKJ _ _ _ ⟨(⟨id,kind,addr,many,wrap,da,la⟩,q',ca,cl),by dsimp only;omega,by dsimp only;omega,by dsimp only;omega⟩ (by(refine cR [19,20,21,22,0] (by omega) (by repeat' (first| (with_reducible first|exact C1|refine C2 ?_ ?_)| ((with_reducible refine C0 ?_);exact CE (by omega) rfl)| ((with_reducible refine D0 ?_);first|exact CA rfl|refine CJ ?_)|fail)) ⟨⟨by simp,by simp[sgL],_,rfl,bS (aV _ _)⟩,⟨by simp,by simp[sgL],_,rfl,aP (by(try unfold rq0);repeat' (first| (with_reducible first|exact C3|refine C4 ?_ ?_)| ((with_reducible refine C0 ?_);first|exact CB rfl|exact CC)|fail))⟩,⟨by simp,by simp[sgL],_,rfl,aP (by(try unfold rq0 rqB);repeat' (first| (with_reducible first|exact C3|refine C4 ?_ ?_)| ((with_reducible refine C0 ?_);first|exact CB rfl|exact CQ (by omega) rfl rfl (by omega) rfl)|refine C4 ?_ ?_|fail))⟩,⟨by simp,by simp[sgL],_,rfl,bP (aG bF _) rfl rfl⟩,⟨by simp,by simp[sgL],_,rfl,bP (aG bF _) rfl rfl⟩,trivial⟩ (by simp[sgL])))
 rintro⟨⟨⟨id,kind,addr,many,wrap,da,la⟩,q',ca,cl⟩,⟨g1,g2,g3,g4⟩,g5,bkU⟩
 dsimp only at g1 g2 g3 g4 g5 bkU
 have htd:da.take da.length=da:=List.take_length
 have htl:la.take la.length=la:=List.take_length
 repeat' (first| (with_reducible first| (refine hK _ _ _ ?_;clear hK K)| (refine hA ?_;clear hA hB A B)| (refine hB ?_;clear hA hB A B)|refine Z1 ?_|refine Z2 ?_|refine Z3 fun KB hKB=> ?_|refine Z6 (fun h=> ?_) fun h=> ?_|refine fun(cap:Nat) (hcap:_≤cap)=> ?_|refine fun(hcp:_≤cap)=> ?_)| (first| (with_reducible first|refine Y2 fun K hK=> ?_|refine Y3 fun A B hA hB=> ?_)| (refine d6 (n:=1) (by omega) hl (by omega) (by omega) rfl (fun p1 bb hp1 hp2 _=> ?_))| (refine aX hl (by omega) (by omega) (by omega) rfl (fun x h1 h2=> ?_)))<;>(simp only[go_sem,rqB,rq0,htd,htl])| ((with_reducible refine Y8 ?_);try simp only[AQ.then,AQ.blk,reduceIte,Nat.reduceEqDiff])| ((with_reducible refine Y0 ?_);simp only[AQ.then,AQ.blk])| ((with_reducible refine Z8 (fun h=> ?_) (fun h=> ?_))<;>try subst h)|refine⟨by omega,?_⟩| (with_reducible refine hKB _ _ _ ?_)|fail)
 all_goals first
  | (obtain⟨v,hv⟩:=aN1 (L:=[[.v (.int .i64 (-1))],[.v (.int .i64 2)]]) (by simp) h1 (by simp;omega);simp only[hv];simp only[go_sem,htd,htl])
  | (obtain⟨v,hv⟩:=aN1 (L:=[[.v (.int .i64 0)],[.v (.int .i64 5)]]) (by simp) h1 (by simp;omega);simp only[hv];simp only[go_sem,htd,htl])
  | (obtain⟨v,hv⟩:=aN1 (L:=[[.v (.int .i64 (-1))],[.v (.int .i64 64)],[.v (.int .i64 63)]]) (by simp) h1 (by simp;omega);simp only[hv];simp only[go_sem,htd,htl])
  | (obtain⟨v,hv⟩:=aN1 (L:=[[.v (.int .i64 0)],[.v (.int .i64 3)],[.v (.int .i64 8)],[.v (.int .i64 4)]]) (by simp) h1 (by simp;omega);simp only[hv];simp only[go_sem,htd,htl])
  | (obtain⟨v,hv⟩:=aN1 (L:=[[.v (.int .i64 (-1))],[.v (.int .i64 65536)]]) (by simp) h1 (by simp;omega);simp only[hv];simp only[go_sem,htd,htl])
  |skip
 all_goals try repeat' (first| (with_reducible first| (refine hK _ _ _ ?_;clear hK K)|refine Z1 ?_)| (with_reducible refine Y2 fun K hK=> ?_)<;>(simp only[go_sem,rqB,rq0,htd,htl])| ((with_reducible refine Y8 ?_);try simp only[AQ.then,AQ.blk,reduceIte,Nat.reduceEqDiff])| ((with_reducible refine Y0 ?_);simp only[AQ.then,AQ.blk])|refine⟨by omega,?_⟩| (with_reducible refine hKB _ _ _ ?_)|fail)
 all_goals first
  |exact aSU hQ rfl rfl rfl rfl (by omega) ⟨rfl,rfl⟩ (by omega)
  |exact aSU hQ (D:=da++[5]) rfl rfl rfl rfl (by omega) ⟨by simp,rfl⟩ (by omega)
  |exact aSU hQ (L:=la++[1]) rfl rfl rfl rfl (by omega) ⟨rfl,by simp⟩ (by omega)
  |exact aSU hQ (D:=da.set 0 _) rfl rfl rfl rfl (by omega) ⟨by simp,rfl⟩ (by omega)
theorem aRK {l:List Int} {p i:Nat} (hl:kZ l) (hp50:p+45<2^50) (hi:i<nx) (ho:H i=some (rdO l p)) (h: ∀(p':Nat) (q:Req),p≤p'→p'≤p+45→(q.data.length≤8∧q.g6.length≤8)→K (dA (eB q)) (H.set i (rdO l p')) nx):
 aB Try.prog tS [bkP 2 i,dI 1] H nx K:=
 (aQK l p hl hp50).OU i rfl (gW ⟨DG (by omega) rfl,aE rfl,trivial⟩) hi ho (aV l p) fun r o' ⟨p',q,h1,h2,h3,h4,h5⟩=>by
  subst h1;subst h4;exact EW (A:=fun d=>K d (H.set i (rdO l p')) nx) rfl (h p' q h2 h3 h5)
end
end Go.Proofs.Ytmccpdapaccnoaa
end
section
namespace Go.AM
theorem aS2 {H:aA} {nx t:Nat} {o o':bA} (h3:H t=some o) (h5:CvO H noF id nx o' o):CvX noF nx H (H.set t o'):=
 apO (t:=t) (o':=o') (fun j hj=>hj.elim) aA.bH h3 (fun h=>h) h5 fun j hj _=>aA.aC hj
def aTA (H:aA) (F:Nat→Prop) (σ:Nat→Nat) (nh:Nat) (R' R:List (List D1)):Prop:=R'.length=R.length∧ ∀(i:Nat) (r' r:List D1),R'[i]?=some r'→R[i]?=some r→CvL H F σ nh r' r
section
variable {H : aA} {F : Nat → Prop} {σ : Nat → Nat} {nh : Nat} {R R' S S' : List (List D1)} {r r' : List D1}
theorem aT0:aTA H F σ nh [] []:=⟨rfl,fun i r' r h=>by simp at h⟩
theorem aSR (h:CvL H F σ nh r' r) (hR:aTA H F σ nh R' R):aTA H F σ nh (r'::R') (r::R):=by
 refine⟨by simp[hR.1],fun i a b ha hb=> ?_⟩
 match i with
 |0=>simp at ha hb;subst ha;subst hb;exact h
 |i+1=>simp at ha hb;exact hR.2 i a b ha hb
theorem aTZ (hR: ∀r∈R,∀x∈r,x.dQ=true):aTA H F σ nh R R:=⟨rfl,fun i a b ha hb=>by
 rw[ha] at hb;cases hb
 exact GW fun x hx=>hR a (List.mem_of_getElem? ha) x hx⟩
theorem aTS (h:aTA H F σ nh R' R) (h2:aTA H F σ nh S' S):aTA H F σ nh (R'++S') (R++S):=by
 refine⟨by simp[h.1,h2.1],fun i a b ha hb=> ?_⟩
 rw[List.getElem?_append] at ha hb
 rw[h.1] at ha
 by_cases hi:i<R.length
 ·rw[if_pos hi] at ha hb;exact h.2 i a b ha hb
 ·rw[if_neg hi] at ha hb;exact h2.2 _ a b ha hb
theorem aUI {n m:Nat} (h:aTA H F σ nh R' R):CvO H F σ nh ⟨n,m,R'⟩ ⟨n,m,R⟩:=by
 refine⟨rfl,rfl,Nat.le_of_eq h.1,fun _ h0=> ?_,fun i a ha=> ?_⟩
 ·dsimp only at h0 ⊢
  have:=h.1;rw[h0] at this;exact List.length_eq_zero_iff.1 this.symm
 ·have hi:i<R.length:=by rw[←h.1];exact(List.getElem?_eq_some_iff.1 ha).1
  exact⟨R[i],List.getElem?_eq_getElem hi,h.2 i a _ ha (List.getElem?_eq_getElem hi)⟩
end
theorem aM.aUF {P:Program} {T:Nat} {e:Env} {H:aA} {nx:Nat} {Q:AQ} {x y:AC} {zs:List AC} {β:Type} (E:β→Env) (Φ:β→aA→Nat→Prop)
 (h1: ∀K:Env→aA→Nat→Prop,(∀e' H' nx' b F H2,nx≤nx'→CvE H' F id nx' (E b) e'→CvX F nx' H' H2→Φ b H2 nx'→K e' H' nx')→aM P T [x] e H nx (AQ.then K Q))
 (h2: ∀b H1 nx1,nx≤nx1→Φ b H1 nx1→aM P T (y::zs) (E b) H1 nx1 Q):aM P T (.seq x y::zs) e H nx Q:=by
 refine aM.seq (aM.cut (fun e' H' nx'=>nx≤nx'∧ ∃b F H2,CvE H' F id nx' (E b) e'∧CvX F nx' H' H2∧Φ b H2 nx') (h1 _ fun e' H' nx' b F H2 q1 q2 q3 q4=>⟨q1,b,F,H2,q2,q3,q4⟩) fun e' H' nx' _ ⟨q1,b,F,H2,q2,q3,q4⟩=> ?_)
 exact aM.tW (E b) H2 F (fun t=>.inr (q2 t)) q3 (h2 b H2 nx' q1 q4)
end Go.AM
namespace Go.Proofs.Ytmccpdapaccnoaa
open Go Go.AM
set_option maxRecDepth 100000
set_option maxHeartbeats 8000000
section
variable {H : aA} {nx : Nat} {K : D → aA → Nat → Prop}
theorem aRR:cJ Try.prog lJ Try.f39 qQ FY:=cJ.mk Try.func39 (by kernel_rfl) QV
theorem aQN {l:List Int} {p i:Nat} (hl:kZ l) (hp50:p+1000<2^50) (hi:i<nx) (ho:H i=some (rdO l p))
 (h: ∀H' nx' p' (m:List Rng) (la:List Int) (aUU:Prog) (Ps:List Prog) bl cl bp cp mp b0 c0,p≤p'→p'≤p+1000→DH m→la.length=4→Ps.length=2→(∀pr∈aUU::Ps,pr.length≤12∧ ∀q∈pr,dH q)→H' i=some (rdO l p')→Own aJ 1 H' bl cl la→Own eB 7 H' b0 c0 aUU→H' bp=some ⟨1,mp,[.osl 7 b0 0 aUU.length c0]::Ps.map jR⟩→3≤cp→cp≤mp→nx≤bl→nx≤bp→nx≤b0→bl<nx'→bp<nx'→b0<nx'→[bl,bp,b0].Nodup→(∀id,id<nx→id≠i→H' id=H id)→
  K (dA [.isl (m.map eN),.osl 1 bl 0 4 cl,.osl 1 bp 0 3 cp]) H' nx'):aB Try.prog lJ [bkP 2 i,dI 6] H nx K:=by
 refine aRR rfl fun Q hQ=> ?_
 unfold qQ
 have hA:bQ nx [i]:=AM.apart (by simp) (by simp;omega)
 simp only[bQ,eZ] at hA
 repeat' (first| (with_reducible first| (refine hK _ _ _ ?_;clear hK K)|refine Z1 ?_|refine Z3 fun KB hKB=> ?_)| (first| (with_reducible refine Y2 fun K hK=> ?_)| (refine IV (p:=p) hl (by omega) (by omega) (by rw[aA.aC (by omega)];exact ho) (fun pm m hm1 hm2 hmok=> ?_)))<;>(simp only[go_sem,Nat.add_assoc,Nat.left_eq_add,Nat.add_eq_left,hA])|fail)
 (have hKX:=hKB;clear hKB)
 refine aM.EJ 1 ?_
 refine aM.aTJ fun G0 hG0=> ?_
 have q0:G0 i=some (rdO l pm):=by rw[hG0];exact(by simp only[aA.set,aA.del,Nat.add_assoc,Nat.reduceAdd,Nat.add_left_cancel_iff,Nat.reduceEqDiff,Nat.left_eq_add,Nat.add_eq_left,if_true,if_false,hA];done)
 have q1:G0 nx=some ⟨3,1,[[.osl 0 0 0 0 0,.osl 0 0 0 0 0,.osl 0 0 0 0 0]]⟩:=by rw[hG0];exact(by simp only[aA.set,aA.del,Nat.add_assoc,Nat.reduceAdd,Nat.add_left_cancel_iff,Nat.reduceEqDiff,Nat.left_eq_add,Nat.add_eq_left,if_true,if_false,hA];done)
 have q2:G0 (nx+4)=some ⟨3,1,[[.isl (m.map eN),.osl 0 0 0 0 0,.osl 0 0 0 0 0]]⟩:=by rw[hG0];exact(by simp only[aA.set,aA.del,Nat.add_assoc,Nat.reduceAdd,Nat.add_left_cancel_iff,Nat.reduceEqDiff,Nat.left_eq_add,Nat.add_eq_left,if_true,if_false,hA];done)
 have q3:G0 (nx+7)=some ⟨1,0,[]⟩:=by rw[hG0];exact(by simp only[aA.set,aA.del,Nat.add_assoc,Nat.reduceAdd,Nat.add_left_cancel_iff,Nat.reduceEqDiff,Nat.left_eq_add,Nat.add_eq_left,if_true,if_false,hA];done)
 have qf: ∀id,id<nx→id≠i→G0 id=H id:=fun id h1 h2=>by rw[hG0,aA.aC (by omega),aA.aC (by omega),aA.aC h2,aA.aC (by omega)]
 clear hG0
 refine aM.gP (β:=Nat×Nat×List Int×Nat×Nat) (fun u=>en [(6,dI u.1),(5,bkP 3 (nx+4)),(4,bkP 3 nx),(1,dI 6),(0,bkP 2 i)])
  (fun u H1 nx1=>(u.1≤4∧p≤u.2.1∧u.2.1≤p+8+u.1∧u.2.2.1.length=u.1∧nx+7≤u.2.2.2.1∧u.2.2.2.1<nx1)∧H1 i=some (rdO l u.2.1)∧H1 nx=some ⟨3,1,[[.osl 0 0 0 0 0,.osl 0 0 0 0 0,.osl 0 0 0 0 0]]⟩∧H1 (nx+4)=some ⟨3,1,[[.isl (m.map eN),.osl 1 u.2.2.2.1 0 u.1 u.2.2.2.2,.osl 0 0 0 0 0]]⟩∧Own aJ 1 H1 u.2.2.2.1 u.2.2.2.2 u.2.2.1∧ ∀id,id<nx→id≠i→H1 id=H id)
  (fun u=>4-u.1) (0,pm,[],nx+7,0) ⟨noF,G0.set (nx+4) ⟨3,1,[[.isl (m.map eN),.osl 1 (nx+7) 0 0 0,.osl 0 0 0 0 0]]⟩,by repeat' (first| (with_reducible first|exact C1|refine C2 ?_ ?_)| ((with_reducible refine C0 ?_);exact CE (by omega) rfl)| ((with_reducible refine D0 ?_);first|exact CA rfl|refine CJ ?_)|fail),aS2 q2 (aP (aH (bB rfl) (aH (.VS _ _ _ _ _ _) (aH (.VS _ _ _ _ _ _) eP)))),by dsimp only;simp;omega,(by simp only[aA.set,aA.del,Nat.add_assoc,Nat.reduceAdd,Nat.add_left_cancel_iff,Nat.reduceEqDiff,Nat.left_eq_add,Nat.add_eq_left,if_true,if_false,hA,q0];done),(by simp only[aA.set,aA.del,Nat.add_assoc,Nat.reduceAdd,Nat.add_left_cancel_iff,Nat.reduceEqDiff,Nat.left_eq_add,Nat.add_eq_left,if_true,if_false,hA,q1];done),(by simp only[aA.set,aA.del,Nat.add_assoc,Nat.reduceAdd,Nat.add_left_cancel_iff,Nat.reduceEqDiff,Nat.left_eq_add,Nat.add_eq_left,if_true,if_false,hA];done),⟨0,(by simp only[aA.set,aA.del,Nat.add_assoc,Nat.reduceAdd,Nat.add_left_cancel_iff,Nat.reduceEqDiff,Nat.left_eq_add,Nat.add_eq_left,if_true,if_false,hA,q3,List.map_nil];done),Nat.le_refl _,Nat.le_refl _⟩,fun id h1 h2=>by rw[aA.aC (by omega)];exact qf id h1 h2⟩ ?_
 clear q0 q1 q2 q3 qf
 rintro⟨k,pl,la,bl,cl⟩ H1 nx1 hnx1 ⟨⟨f1,f2,f3,f4,f5,f6⟩,q0,q1,q2,⟨ml,q3,e1,e2⟩,qf⟩ KL hKL
 dsimp only at f1 f2 f3 f4 f5 f6 q0 q1 q2 q3 e1 e2
 have hta:la.take k=la:=List.take_of_length_le (by omega)
 have hA1:bQ nx1 [i,nx,nx+4,bl]:=AM.apart (by simp;omega) (by simp;omega)
 simp only[bQ,eZ] at hA1
 by_cases hlt:k<4
 ·have hM: ∀G:aA,msk (nx1+2) [4] G (nx+4)=G (nx+4):=fun G=>mk1 (by omega)
  repeat' (first| (with_reducible first| (refine hK _ _ _ ?_;clear hK K)| (refine hA ?_;clear hA hB A B)|refine Z1 ?_|refine Z2 ?_|refine Z3 fun KB hKB=> ?_|refine Z4 (by omega) ?_|refine fun(cap:Nat) (hcap:_≤cap)=> ?_|refine fun(hcp:_≤cap)=> ?_)| (first| (with_reducible first|refine Y2 fun K hK=> ?_|refine Y3 fun A B hA hB=> ?_)| (refine aX (p:=pl) hl (by omega) (by omega) (by omega) q0 (fun x h1 h2=> ?_)))<;>(simp only[go_sem,Nat.add_assoc,Nat.left_eq_add,Nat.add_eq_left,q0,q1,q2,q3,hA1,hta,hM];try simp (disch:=omega) only[Iw])| ((with_reducible refine Y0 ?_);simp only[AQ.then,AQ.blk])|refine⟨by omega,?_⟩| (with_reducible refine hKB _ _ _ ?_)|fail)
  exact hKL _ _ _ (k+1,pl+1,la++[x],nx1+7,cap) noF _ (by omega) (by dsimp only;omega) (by dsimp only;repeat' (first| (with_reducible first|exact C1|refine C2 ?_ ?_)| ((with_reducible refine C0 ?_);exact CE (by omega) rfl)| ((with_reducible refine D0 ?_);first|exact CA rfl|refine CJ ?_)|fail)) aK ⟨by simp;omega,(by simp only[aA.set,aA.del,Nat.add_assoc,Nat.reduceAdd,Nat.add_left_cancel_iff,Nat.reduceEqDiff,Nat.left_eq_add,Nat.add_eq_left,if_true,if_false,hA1];done),(by simp only[aA.set,aA.del,Nat.add_assoc,Nat.reduceAdd,Nat.add_left_cancel_iff,Nat.reduceEqDiff,Nat.left_eq_add,Nat.add_eq_left,if_true,if_false,hA1,q1];done),(by simp only[aA.set,aA.del,Nat.add_assoc,Nat.reduceAdd,Nat.add_left_cancel_iff,Nat.reduceEqDiff,Nat.left_eq_add,Nat.add_eq_left,if_true,if_false,hA1];done),⟨cap,(by simp only[aA.set,aA.del,Nat.add_assoc,Nat.reduceAdd,Nat.add_left_cancel_iff,Nat.reduceEqDiff,Nat.left_eq_add,Nat.add_eq_left,if_true,if_false,hA1];done),by simp;omega,Nat.le_refl _⟩,fun id h1 h2=>by rw[aA.aC (by omega),aA.aC (by omega),aA.aC (by omega),aA.aC h2,aA.jG (by omega)];exact qf id h1 h2⟩
 have hk4:k=4:=by omega
 subst hk4
 have hl4:=f4
 repeat' (first| (with_reducible first| (refine hK _ _ _ ?_;clear hK K)| (refine hB ?_;clear hA hB A B)|refine Z1 ?_|refine Z3 fun KB hKB=> ?_|refine Z5 (by omega) ?_|refine hKX _ _ _ ?_)| (with_reducible first|refine Y2 fun K hK=> ?_|refine Y3 fun A B hA hB=> ?_)<;>(simp only[go_sem,Nat.add_assoc])| ((with_reducible refine Y9 ?_);try simp only[AQ.then,AQ.blk,reduceIte,Nat.reduceEqDiff])|fail)
 (have hKY:=hKB;clear hKB)
 refine aM.EJ 1 ?_
 refine aM.aTJ fun G0 hG0=> ?_
 have r0:G0 i=some (rdO l pl):=by rw[hG0];exact(by simp only[aA.set,aA.del,Nat.add_assoc,Nat.reduceAdd,Nat.add_left_cancel_iff,Nat.reduceEqDiff,Nat.left_eq_add,Nat.add_eq_left,if_true,if_false,hA1,q0];done)
 have r1:G0 nx=some ⟨3,1,[[.osl 0 0 0 0 0,.osl 0 0 0 0 0,.osl 0 0 0 0 0]]⟩:=by rw[hG0];exact(by simp only[aA.set,aA.del,Nat.add_assoc,Nat.reduceAdd,Nat.add_left_cancel_iff,Nat.reduceEqDiff,Nat.left_eq_add,Nat.add_eq_left,if_true,if_false,hA1,q1];done)
 have r2:G0 (nx+4)=some ⟨3,1,[[.isl (m.map eN),.osl 1 bl 0 4 cl,.osl 0 0 0 0 0]]⟩:=by rw[hG0];exact(by simp only[aA.set,aA.del,Nat.add_assoc,Nat.reduceAdd,Nat.add_left_cancel_iff,Nat.reduceEqDiff,Nat.left_eq_add,Nat.add_eq_left,if_true,if_false,hA1,q2];done)
 have r3:Own aJ 1 G0 bl cl la:=⟨ml,by rw[hG0];exact(by simp only[aA.set,aA.del,Nat.add_assoc,Nat.reduceAdd,Nat.add_left_cancel_iff,Nat.reduceEqDiff,Nat.left_eq_add,Nat.add_eq_left,if_true,if_false,hA1,q3];done),e1,e2⟩
 have r4:G0 (nx1+3)=some ⟨1,0,[]⟩:=by rw[hG0];exact(by simp only[aA.set,aA.del,Nat.add_assoc,Nat.reduceAdd,Nat.add_left_cancel_iff,Nat.reduceEqDiff,Nat.left_eq_add,Nat.add_eq_left,if_true,if_false,hA1];done)
 have rf: ∀id,id<nx→id≠i→G0 id=H id:=fun id h1 h2=>by rw[hG0,aA.aC (by omega)];exact qf id h1 h2
 clear hG0 q0 q1 q2 q3 qf e1 e2
 refine aM.gP (β:=Nat×Nat×(List (List D1)×Nat×Nat)×(Prog×Nat×Nat)×List Prog) (fun u=>en [(7,dI u.1),(5,bkP 3 (nx+4)),(4,bkP 3 nx),(1,dI 6),(0,bkP 2 i)])
  (fun u H1 nx1=>((u.1≤3∧p≤u.2.1∧u.2.1≤p+12+300*u.1)∧(nx+5≤u.2.2.1.2.1∧u.2.2.1.2.1<nx1∧bl≠u.2.2.1.2.1∧bl<nx1))∧H1 i=some (rdO l u.2.1)∧H1 nx=some ⟨3,1,[[.osl 0 0 0 0 0,.osl 0 0 0 0 0,.osl 0 0 0 0 0]]⟩∧H1 (nx+4)=some ⟨3,1,[[.isl (m.map eN),.osl 1 bl 0 4 cl,.osl 1 u.2.2.1.2.1 0 u.1 u.2.2.1.2.2]]⟩∧Own aJ 1 H1 bl cl la∧
   (∃mp,H1 u.2.2.1.2.1=some ⟨1,mp,u.2.2.1.1⟩∧u.1≤u.2.2.1.2.2∧u.2.2.1.2.2≤mp)∧
   (0<u.1→Own eB 7 H1 u.2.2.2.1.2.1 u.2.2.2.1.2.2 u.2.2.2.1.1∧u.2.2.1.1=[.osl 7 u.2.2.2.1.2.1 0 u.2.2.2.1.1.length u.2.2.2.1.2.2]::u.2.2.2.2.map jR∧u.2.2.2.2.length+1=u.1∧(∀pr∈u.2.2.2.1.1::u.2.2.2.2,pr.length≤12∧ ∀q∈pr,dH q)∧nx+5≤u.2.2.2.1.2.1∧u.2.2.2.1.2.1<nx1∧[bl,u.2.2.1.2.1,u.2.2.2.1.2.1].Nodup)∧(u.1=0→u.2.2.1.1=[])∧ ∀id,id<nx→id≠i→H1 id=H id)
  (fun u=>3-u.1) (0,pl,([],nx1+3,0),([],0,0),[]) ⟨noF,G0.set (nx+4) ⟨3,1,[[.isl (m.map eN),.osl 1 bl 0 4 cl,.osl 1 (nx1+3) 0 0 0]]⟩,by repeat' (first| (with_reducible first|exact C1|refine C2 ?_ ?_)| ((with_reducible refine C0 ?_);exact CE (by omega) rfl)| ((with_reducible refine D0 ?_);first|exact CA rfl|refine CJ ?_)|fail),aS2 r2 (aP (aH (bB rfl) (aH (.osl _ _ _ _ _ (by omega)) (aH (.VS _ _ _ _ _ _) eP)))),by dsimp only;omega,(by simp only[aA.set,aA.del,Nat.add_assoc,Nat.reduceAdd,Nat.add_left_cancel_iff,Nat.reduceEqDiff,Nat.left_eq_add,Nat.add_eq_left,if_true,if_false,hA1,r0];done),(by simp only[aA.set,aA.del,Nat.add_assoc,Nat.reduceAdd,Nat.add_left_cancel_iff,Nat.reduceEqDiff,Nat.left_eq_add,Nat.add_eq_left,if_true,if_false,hA1,r1];done),(by simp only[aA.set,aA.del,Nat.add_assoc,Nat.reduceAdd,Nat.add_left_cancel_iff,Nat.reduceEqDiff,Nat.left_eq_add,Nat.add_eq_left,if_true,if_false,hA1];done),r3.of (by rw[aA.aC (by omega)]),⟨0,(by simp only[aA.set,aA.del,Nat.add_assoc,Nat.reduceAdd,Nat.add_left_cancel_iff,Nat.reduceEqDiff,Nat.left_eq_add,Nat.add_eq_left,if_true,if_false,hA1,r4];done),Nat.le_refl _,Nat.le_refl _⟩,fun h=>by dsimp only at h;omega,fun _=>rfl,fun id h1 h2=>by rw[aA.aC (by omega)];exact rf id h1 h2⟩ ?_
 clear r0 r1 r2 r3 r4 rf
 have hnn:nx+8≤nx1:=by omega
 clear hnx1 hA1
 rintro⟨k,pl,⟨rows,bp,cp⟩,⟨aUU,b0,c0⟩,Ps⟩ H1 nx1 hnx1 ⟨⟨⟨f1,f2,f3⟩,f4,f5,f6,f7⟩,q0,q1,q2,q3,⟨mp,q4,e1,e2⟩,q5,q6,qf⟩ KL hKL
 dsimp only at f1 f2 f3 f4 f5 f6 f7 q0 q1 q2 q3 q4 q5 q6 e1 e2
 have hA1:bQ nx1 [i,nx,nx+4,bl,bp]:=AM.apart (by simp;omega) (by simp;omega)
 simp only[bQ,eZ] at hA1
 by_cases hlt:k<3
 ·repeat' (first| (with_reducible first| (refine hK _ _ _ ?_;clear hK K)| (refine hA ?_;clear hA hB A B)|refine Z1 ?_|refine Z2 ?_|refine Z3 fun KB hKB=> ?_|refine Z4 (by omega) ?_)| (first| (with_reducible first|refine Y2 fun K hK=> ?_|refine Y3 fun A B hA hB=> ?_)| (refine aX (p:=pl) hl (by omega) (by omega) (by omega) (by simp only[aA.set,aA.del,Nat.add_assoc,Nat.reduceAdd,Nat.add_left_cancel_iff,Nat.reduceEqDiff,Nat.left_eq_add,Nat.add_eq_left,if_true,if_false,hA1,q0];done) (fun x h1 h2=> ?_)))<;>(simp only[go_sem,Nat.add_assoc,Nat.left_eq_add,Nat.add_eq_left,q0,q1,q2,hA1];try simp (disch:=omega) only[Iw])|fail)
  (have hKZ:=hKB;clear hKB)
  refine aM.aTJ fun G0 hG0=> ?_
  have r0:G0 i=some (rdO l (pl+1)):=by rw[hG0];exact(by simp only[aA.set,aA.del,Nat.add_assoc,Nat.reduceAdd,Nat.add_left_cancel_iff,Nat.reduceEqDiff,Nat.left_eq_add,Nat.add_eq_left,if_true,if_false,hA1,q0];done)
  have r1:G0 (nx1+2)=some ⟨7,0,[]⟩:=by rw[hG0];exact(by simp only[aA.set,aA.del,Nat.add_assoc,Nat.reduceAdd,Nat.add_left_cancel_iff,Nat.reduceEqDiff,Nat.left_eq_add,Nat.add_eq_left,if_true,if_false,hA1];done)
  have rf: ∀id,id<nx1→id≠i→G0 id=H1 id:=fun id h1 h2=>by rw[hG0,aA.aC h2,aA.aC (by omega)]
  clear hG0
  rename_i hx1 hx2
  refine aM.gP (β:=Nat×Nat×Prog×Nat×Nat) (fun u=>en [(9,dI u.1),(8,.one (.c (.osl 7 u.2.2.2.1 0 u.2.2.1.length u.2.2.2.2))),(7,dI k),(5,bkP 3 (nx+4)),(4,bkP 3 nx),(1,dI 6),(0,bkP 2 i)])
   (fun u H2 nx2=>(u.1≤6∧p≤u.2.1∧u.2.1≤pl+1+41*(6-u.1)∧(∀q∈u.2.2.1,dH q)∧2*u.1+u.2.2.1.length≤12)∧(nx1≤u.2.2.2.1∧u.2.2.2.1<nx2)∧H2 i=some (rdO l u.2.1)∧Own eB 7 H2 u.2.2.2.1 u.2.2.2.2 u.2.2.1∧ ∀id,id<nx1→id≠i→H2 id=H1 id)
   (fun u=>u.1) (x.toNat,pl+1,[],nx1+2,0) ⟨noF,_,by repeat' (first| (with_reducible first|exact C1|refine C2 ?_ ?_)| ((with_reducible refine C0 ?_);first|exact CC|exact CE (by omega) rfl| (exact CG (by(congr 2;omega)) rfl))| ((with_reducible refine D0 ?_);first|exact CA rfl|refine CJ ?_)|fail),aK,⟨by dsimp only;omega,by dsimp only;omega,by dsimp only;omega,fun q hq=>by simp at hq,by simp;omega⟩,by dsimp only;omega,r0,⟨0,r1,Nat.le_refl _,Nat.le_refl _⟩,rf⟩ ?_
  clear r0 r1 rf
  rintro⟨j,pj,rs,b,cr⟩ H2 nx2 hnx2 ⟨⟨g1,g2,g3,g4,g5⟩,⟨bkU,bkV⟩,s0,⟨mr,s1,d1,d2⟩,sf⟩ KN hKN
  dsimp only at g1 g2 g3 g4 g5 bkU bkV s0 s1 d1 d2
  have htr:rs.take rs.length=rs:=List.take_length
  have hA2:bQ nx2 [i,b]:=AM.apart (by simp;omega) (by simp;omega)
  simp only[bQ,eZ] at hA2
  by_cases hj:0<j
  ·refine aM.seq ?_
   repeat' (first| (with_reducible first| (refine hK _ _ _ ?_;clear hK K)| (refine hA ?_;clear hA hB A B)|refine Z2 ?_|refine Z4 (by omega) ?_)| (with_reducible first|refine Y1 fun K hK=> ?_|refine Y3 fun A B hA hB=> ?_)<;>(simp only[go_sem])|fail)
   refine aM.seq ?_
   repeat' (first| (with_reducible first| (refine hK _ _ _ ?_;clear hK K)|refine Z3 fun KB hKB=> ?_)| (first| (with_reducible refine Y1 fun K hK=> ?_)| (refine ID (p:=pj) hl (by omega) (by omega) s0 (fun pq q hq1 hq2 hq3=> ?_)))<;>(simp only[go_sem,Nat.add_assoc,Nat.left_eq_add,Nat.add_eq_left,s0,s1,hA2])|fail)
   refine aM.aUF (β:=Nat×Prog×Nat×Nat) (fun u=>en [(10,bkP 7 (nx2+4)),(9,dI j),(8,.one (.c (.osl 7 u.2.2.1 0 u.2.1.length u.2.2.2))),(7,dI k),(5,bkP 3 (nx+4)),(4,bkP 3 nx),(1,dI 6),(0,bkP 2 i)])
    (fun u H3 nx3=>(p≤u.1∧u.1≤pj+41∧(∀q∈u.2.1,dH q)∧u.2.1.length≤rs.length+1)∧(nx1≤u.2.2.1∧u.2.2.1<nx3∧u.2.2.1≠nx2+4)∧H3 i=some (rdO l u.1)∧H3 (nx2+4)=some ⟨7,1,[eB q]⟩∧Own eB 7 H3 u.2.2.1 u.2.2.2 u.2.1∧ ∀id,id<nx1→id≠i→H3 id=H1 id) (fun bkT hKJ=> ?_) ?_
   ·repeat' (first| (with_reducible first| (refine hK _ _ _ ?_;clear hK K)| (refine hA ?_;clear hA hB A B)| (refine hB ?_;clear hA hB A B)|refine Z1 ?_|refine Z2 ?_|refine Z6 (fun h=> ?_) fun h=> ?_|refine fun(cap:Nat) (hcap:_≤cap)=> ?_|refine fun(hcp:_≤cap)=> ?_)| (first| (with_reducible first|refine Y2 fun K hK=> ?_|refine Y3 fun A B hA hB=> ?_|refine Y6 (fun h=> ?_) fun h=> ?_)| (refine aX (p:=pq) hl (by omega) (by omega) (by omega) (by simp only[aA.set,aA.del,Nat.add_assoc,Nat.reduceAdd,Nat.add_left_cancel_iff,Nat.reduceEqDiff,Nat.left_eq_add,Nat.add_eq_left,if_true,if_false,hA2];done) (fun x h1 h2=> ?_)))<;>(simp only[go_sem,Nat.add_assoc,Nat.left_eq_add,Nat.add_eq_left,s0,s1,hA2,htr])| ((with_reducible refine Y0 ?_);simp only[AQ.then,AQ.blk])|refine⟨by omega,?_⟩|fail)
    ·refine hKJ _ _ _ (pq+1,rs++[⟨q.id,3,q.addr,1,false,[],[]⟩],nx2+26,cap) noF (aA.set _ (nx2+26) ⟨7,cap,(rs++[(⟨q.id,3,q.addr,1,false,[],[]⟩:Req)]).map eB⟩) (by omega) (by dsimp only;rw[List.length_append,List.length_singleton];repeat' (first| (with_reducible first|exact C1|refine C2 ?_ ?_)| ((with_reducible refine C0 ?_);first|exact CQ (by omega) rfl rfl (by rfl) rfl|exact CE (by omega) rfl)| ((with_reducible refine D0 ?_);first|exact CA rfl|refine CJ ?_)|fail))
      (aS2 aA.bH (uO (R:=rs.map eB) (r':=eB ⟨q.id,3,q.addr,1,false,[],[]⟩) (by simp) rfl (fun r hr=>(aG rL rs r hr).2) rfl (aH (bB rfl) (aH (bB rfl) (aH (bB rfl) (aH (bB rfl) (aH (bB rfl) (aH xG (aH xG eP)))))))))
      ⟨⟨by dsimp only;omega,by dsimp only;omega,fun q' hq'=> ?_,by simp⟩,⟨by dsimp only;omega,by dsimp only;omega,by dsimp only;omega⟩,(by simp only[aA.set,aA.del,Nat.add_assoc,Nat.reduceAdd,Nat.add_left_cancel_iff,Nat.reduceEqDiff,Nat.left_eq_add,Nat.add_eq_left,if_true,if_false,hA2];done),(by simp only[aA.set,aA.del,Nat.add_assoc,Nat.reduceAdd,Nat.add_left_cancel_iff,Nat.reduceEqDiff,Nat.left_eq_add,Nat.add_eq_left,if_true,if_false,hA2];done),⟨cap,aA.bH,by simpa using hcap,Nat.le_refl _⟩,fun id h1 h2=>by rw[aA.aC (by omega),aA.aC (by omega),aA.aC (by omega),aA.aC (by omega),aA.aC h2,aA.jG (by omega)];exact sf id h1 h2⟩
     rcases List.mem_append.1 hq' with hq'|hq'
     ·exact g4 q' hq'
     ·simp at hq';subst hq';exact bkX.MM hq3
    ·exact hKJ _ _ _ (pq+1,rs,b,cr) noF _ (by omega) (by dsimp only;repeat' (first| (with_reducible first|exact C1|refine C2 ?_ ?_)| ((with_reducible refine C0 ?_);first|exact CQ (by omega) rfl rfl (by rfl) rfl|exact CE (by omega) rfl)| ((with_reducible refine D0 ?_);first|exact CA rfl|refine CJ ?_)|fail)) aK ⟨⟨by dsimp only;omega,by dsimp only;omega,g4,by dsimp only;omega⟩,⟨by dsimp only;omega,by dsimp only;omega,by dsimp only;omega⟩,(by simp only[aA.set,aA.del,Nat.add_assoc,Nat.reduceAdd,Nat.add_left_cancel_iff,Nat.reduceEqDiff,Nat.left_eq_add,Nat.add_eq_left,if_true,if_false,hA2];done),(by simp only[aA.set,aA.del,Nat.add_assoc,Nat.reduceAdd,Nat.add_left_cancel_iff,Nat.reduceEqDiff,Nat.left_eq_add,Nat.add_eq_left,if_true,if_false,hA2];done),⟨mr,(by simp only[aA.set,aA.del,Nat.add_assoc,Nat.reduceAdd,Nat.add_left_cancel_iff,Nat.reduceEqDiff,Nat.left_eq_add,Nat.add_eq_left,if_true,if_false,hA2,s1];done),d1,d2⟩,fun id h1 h2=>by rw[aA.aC (by omega),aA.aC h2];exact sf id h1 h2⟩
    all_goals exact hKJ _ _ _ (pq,rs,b,cr) noF _ (by omega) (by dsimp only;repeat' (first| (with_reducible first|exact C1|refine C2 ?_ ?_)| ((with_reducible refine C0 ?_);first|exact CQ (by omega) rfl rfl (by rfl) rfl|exact CE (by omega) rfl)| ((with_reducible refine D0 ?_);first|exact CA rfl|refine CJ ?_)|fail)) aK ⟨⟨by dsimp only;omega,by dsimp only;omega,g4,by dsimp only;omega⟩,⟨by dsimp only;omega,by dsimp only;omega,by dsimp only;omega⟩,(by simp only[aA.set,aA.del,Nat.add_assoc,Nat.reduceAdd,Nat.add_left_cancel_iff,Nat.reduceEqDiff,Nat.left_eq_add,Nat.add_eq_left,if_true,if_false,hA2];done),(by simp only[aA.set,aA.del,Nat.add_assoc,Nat.reduceAdd,Nat.add_left_cancel_iff,Nat.reduceEqDiff,Nat.left_eq_add,Nat.add_eq_left,if_true,if_false,hA2];done),⟨mr,(by simp only[aA.set,aA.del,Nat.add_assoc,Nat.reduceAdd,Nat.add_left_cancel_iff,Nat.reduceEqDiff,Nat.left_eq_add,Nat.add_eq_left,if_true,if_false,hA2,s1];done),d1,d2⟩,fun id h1 h2=>by rw[aA.aC (by omega),aA.aC h2];exact sf id h1 h2⟩
   ·rintro⟨pk,rk,bk,ck⟩ H3 nx3 hnx3 ⟨⟨aUV,aUW,aIG,aII⟩,⟨aUX,aIH,aUY⟩,v0,v1,⟨mk,v2,w1,w2⟩,vf⟩
    dsimp only at aUV aUW aIG aII aUX aIH aUY v0 v2 w1 w2
    have htk:rk.take rk.length=rk:=List.take_length
    have hA3:bQ nx3 [i,bk,nx2+4]:=AM.apart (by simp;omega) (by simp;omega)
    simp only[bQ,eZ] at hA3
    repeat' (first| (with_reducible first| (refine hK _ _ _ ?_;clear hK K)|refine fun(cap:Nat) (hcap:_≤cap)=> ?_|refine fun(hcp:_≤cap)=> ?_)| (with_reducible refine Y2 fun K hK=> ?_)<;>(simp only[go_sem,Nat.add_assoc,Nat.left_eq_add,Nat.add_eq_left,v0,v1,v2,hA3,htk];try simp (disch:=omega) only[Iw])| ((with_reducible refine Y0 ?_);simp only[AQ.then,AQ.blk])|refine⟨by omega,?_⟩| (with_reducible refine hKB _ _ _ ?_)|fail)
    refine hKN _ _ _ (j-1,pk,rk++[q],nx3+3,cap) noF _ (by omega) (by dsimp only;omega) (by dsimp only;rw[List.length_append,List.length_singleton];repeat' (first| (with_reducible first|exact C1|refine C2 ?_ ?_)| ((with_reducible refine C0 ?_);first|exact CQ (by omega) rfl rfl (by rfl) rfl|exact CE (by omega) rfl| (exact CG (by(congr 2;omega)) rfl))| ((with_reducible refine D0 ?_);first|exact CA rfl|refine CJ ?_)|fail)) aK ⟨⟨by dsimp only;omega,by dsimp only;omega,by dsimp only;omega,fun q' hq'=> ?_,by simp;omega⟩,⟨by dsimp only;omega,by dsimp only;omega⟩,(by simp only[aA.set,aA.del,Nat.add_assoc,Nat.reduceAdd,Nat.add_left_cancel_iff,Nat.reduceEqDiff,Nat.left_eq_add,Nat.add_eq_left,if_true,if_false,hA3,v0];done),⟨cap,(by simp only[aA.set,aA.del,Nat.add_assoc,Nat.reduceAdd,Nat.add_left_cancel_iff,Nat.reduceEqDiff,Nat.left_eq_add,Nat.add_eq_left,if_true,if_false,hA3];done),by simpa using hcap,Nat.le_refl _⟩,fun id h1 h2=>by rw[aA.aC (by omega),aA.aC (by omega),aA.jG (by omega)];exact vf id h1 h2⟩
    rcases List.mem_append.1 hq' with hq'|hq'
    ·exact aIG q' hq'
    ·simp at hq';subst hq';exact hq3
  ·have hmin:(rs.length:Int)≤12:=by omega
   have s2:=(sf (nx+4) (by omega) (by omega)).trans q2
   have s3:=(sf bp (by omega) (by omega)).trans q4
   have hA3:bQ nx2 [i,b,nx+4,bp]:=AM.apart (by simp;omega) (by simp;omega)
   simp only[bQ,eZ] at hA3
   have hM: ∀G:aA,msk (nx2+2) [7] G (nx+4)=G (nx+4):=fun G=>mk1 (by omega)
   have hrl:rows.length=k:=by
    by_cases h0:k=0
    ·rw[q6 h0,h0];rfl
    ·obtain⟨_,e,e2,_⟩:=q5 (by omega)
     rw[e,List.length_cons,List.length_map];exact e2
   have hrt:rows.take k=rows:=List.take_of_length_le (by omega)
   have hmn:(if (12:Int)<(rs.length:Int) then (12:Int) else (rs.length:Int)).toNat=rs.length:=by rw[if_neg (by omega)];simp
   repeat' (first| (with_reducible first| (refine hK _ _ _ ?_;clear hK K)| (refine hB ?_;clear hA hB A B)|refine Z1 ?_|refine Z5 (by omega) ?_|refine fun(cap:Nat) (hcap:_≤cap)=> ?_|refine fun(hcp:_≤cap)=> ?_|refine hKZ _ _ _ ?_)| (with_reducible first|refine Y2 fun K hK=> ?_|refine Y3 fun A B hA hB=> ?_)<;>(simp only[go_sem,Nat.add_assoc,Nat.left_eq_add,Nat.add_eq_left,s0,s1,s2,s3,hA3,hM,hrt,hmn];try simp (disch:=omega) only[Iw])| ((with_reducible refine Y9 ?_);try simp only[AQ.then,AQ.blk,reduceIte,Nat.reduceEqDiff])| ((with_reducible refine Y0 ?_);simp only[AQ.then,AQ.blk])|refine⟨by omega,?_⟩| (with_reducible refine hKB _ _ _ ?_)|fail)
   have hrs:rs.length≤12∧ ∀q∈rs,dH q:=⟨by omega,g4⟩
   have hfr: ∀(G:aA),(∀id,id<nx→id≠i→G id=H2 id)→∀id,id<nx→id≠i→G id=H id:=fun G hG id h1 h2=>by rw[hG id h1 h2,sf id (by omega) h2];exact qf id h1 h2
   have q3':Own aJ 1 H2 bl cl la:=q3.of (sf bl (by omega) (by omega))
   have s4:=(sf nx (by omega) (by omega)).trans q1
   by_cases h0:k=0
   ·subst h0
    rw[q6 rfl]
    exact hKL _ _ _ (1,pj,([[.osl 7 b 0 rs.length cr]],nx2+10,cap),(rs,b,cr),[]) noF _ (by omega) (by dsimp only;omega) (by dsimp only;repeat' (first| (with_reducible first|exact C1|refine C2 ?_ ?_)| ((with_reducible refine C0 ?_);exact CE (by omega) rfl)| ((with_reducible refine D0 ?_);first|exact CA rfl|refine CJ ?_)|fail)) aK ⟨by dsimp only;omega,(by simp only[aA.set,aA.del,Nat.add_assoc,Nat.reduceAdd,Nat.add_left_cancel_iff,Nat.reduceEqDiff,Nat.left_eq_add,Nat.add_eq_left,if_true,if_false,hA3,s0];done),by rw[aA.aC (by omega),aA.aC (by omega),aA.aC (by omega),aA.jG (by omega)];exact s4,(by simp only[aA.set,aA.del,Nat.add_assoc,Nat.reduceAdd,Nat.add_left_cancel_iff,Nat.reduceEqDiff,Nat.left_eq_add,Nat.add_eq_left,if_true,if_false,hA3];done),q3'.of (by rw[aA.aC (by omega),aA.aC (by omega),aA.aC (by omega),aA.jG (by omega)]),⟨cap,(by simp only[aA.set,aA.del,Nat.add_assoc,Nat.reduceAdd,Nat.add_left_cancel_iff,Nat.reduceEqDiff,Nat.left_eq_add,Nat.add_eq_left,if_true,if_false,hA3,List.nil_append];done),by dsimp only;omega,by dsimp only;omega⟩,
     fun _=>⟨⟨mr,(by simp only[aA.set,aA.del,Nat.add_assoc,Nat.reduceAdd,Nat.add_left_cancel_iff,Nat.reduceEqDiff,Nat.left_eq_add,Nat.add_eq_left,if_true,if_false,hA3,s1];done),d1,d2⟩,rfl,rfl,fun pr hpr=>by(simp at hpr;subst hpr;exact hrs),by dsimp only;omega,by dsimp only;omega,by simp;omega⟩,fun h=>by dsimp only at h;omega,hfr _ fun id h1 h2=>by rw[aA.aC (by omega),aA.aC (by omega),aA.aC (by omega),aA.jG (by omega)]⟩
   ·obtain⟨o0,hro,hP1,hP2,hb1,hb2,hnd⟩:=q5 (by omega)
    generalize hG:aA.set _ (nx+4) _=aUZ
    have hG:=hG.symm
    have aU0:aUZ i=some (rdO l pj):=by rw[hG];exact(by simp only[aA.set,aA.del,Nat.add_assoc,Nat.reduceAdd,Nat.add_left_cancel_iff,Nat.reduceEqDiff,Nat.left_eq_add,Nat.add_eq_left,if_true,if_false,hA3,s0];done)
    have t1:aUZ nx=some ⟨3,1,[[.osl 0 0 0 0 0,.osl 0 0 0 0 0,.osl 0 0 0 0 0]]⟩:=by rw[hG,aA.aC (by omega),aA.aC (by omega),aA.aC (by omega),aA.jG (by omega)];exact s4
    have t2:aUZ (nx+4)=some ⟨3,1,[[.isl (m.map eN),.osl 1 bl 0 4 cl,.osl 1 (nx2+10) 0 (k+1) cap]]⟩:=by rw[hG];exact(by simp only[aA.set,aA.del,Nat.add_assoc,Nat.reduceAdd,Nat.add_left_cancel_iff,Nat.reduceEqDiff,Nat.left_eq_add,Nat.add_eq_left,if_true,if_false,hA3];done)
    have t3:Own aJ 1 aUZ bl cl la:=q3'.of (by rw[hG,aA.aC (by omega),aA.aC (by omega),aA.aC (by omega),aA.jG (by omega)])
    have t4:aUZ (nx2+10)=some ⟨1,cap,rows++[[.osl 7 b 0 rs.length cr]]⟩:=by rw[hG];exact(by simp only[aA.set,aA.del,Nat.add_assoc,Nat.reduceAdd,Nat.add_left_cancel_iff,Nat.reduceEqDiff,Nat.left_eq_add,Nat.add_eq_left,if_true,if_false,hA3];done)
    have aU1:aUZ b=some ⟨7,mr,rs.map eB⟩:=by rw[hG];exact(by simp only[aA.set,aA.del,Nat.add_assoc,Nat.reduceAdd,Nat.add_left_cancel_iff,Nat.reduceEqDiff,Nat.left_eq_add,Nat.add_eq_left,if_true,if_false,hA3,s1];done)
    have hne:b0≠bp:=by simp at hnd;omega
    have hnl:b0≠bl:=by simp at hnd;omega
    have aU2:Own eB 7 aUZ b0 c0 aUU:=o0.of (by rw[hG,aA.aC (by omega),aA.aC (by omega),aA.aC (by omega),aA.jG hne];exact sf b0 (by omega) (by omega))
    have tf: ∀id,id<nx→id≠i→aUZ id=H id:=hfr _ fun id h1 h2=>by rw[hG,aA.aC (by omega),aA.aC (by omega),aA.aC (by omega),aA.jG (by omega)]
    clear hG s0 s1 s2 s3 s4 q0 q1 q2 q3 q4 q3' qf sf hfr
    refine hKL _ _ _ (k+1,pj,(rows++[jR rs],nx2+10,cap),(aUU,b0,c0),Ps++[rs]) (fun t=>t=b) ((without (fun t=>t=b) aUZ).set (nx2+10) ⟨1,cap,rows++[jR rs]⟩) (by omega) (by dsimp only;omega) (by dsimp only;repeat' (first| (with_reducible first|exact C1|refine C2 ?_ ?_)| ((with_reducible refine C0 ?_);exact CE (by omega) rfl)| ((with_reducible refine D0 ?_);first|exact CA rfl|refine CJ ?_)|fail))
     (apO (t:=nx2+10) (o':=⟨1,cap,rows++[jR rs]⟩) (fun j hj=>by have hj':j=b:=hj;rw[aA.aC (by omega)];exact if_pos hj) aA.bH t4 (by omega) (aUI (aTS (by rw[hro];exact aSR (aH (.osl _ _ _ _ _ (by omega)) eP) (aTZ fun r hr=>(aG iR _ r hr).2)) (aSR (aH (bW rL aU1 rfl d1 rfl) eP) aT0))) fun j hj1 hj2=>by rw[aA.aC hj1,iI (F:=fun t=>t=b) hj2])
     ⟨by dsimp only;omega,by rw[aA.aC (by omega),iI (by omega)];exact aU0,by rw[aA.aC (by omega),iI (by omega)];exact t1,by rw[aA.aC (by omega),iI (by omega)];exact t2,t3.of (by rw[aA.aC (by omega),iI (by omega)]),⟨cap,aA.bH,by dsimp only;omega,Nat.le_refl _⟩,
      fun _=>⟨aU2.of (by(try dsimp only);rw[aA.aC (by omega),iI (by omega)]),by dsimp only;rw[hro,List.map_append];rfl,by dsimp only;rw[List.length_append,List.length_singleton];omega,fun pr hpr=> ?_,by dsimp only;omega,by dsimp only;omega,by simp;omega⟩,fun h=>by dsimp only at h;omega,fun id h1 h2=>by rw[aA.aC (by omega),iI (by omega)];exact tf id h1 h2⟩
    rw[←List.cons_append,List.mem_append] at hpr
    rcases hpr with hpr|hpr
    ·exact hP2 pr hpr
    ·simp at hpr;subst hpr;exact hrs
 have hk3:k=3:=by omega
 subst hk3
 obtain⟨o0,rfl,hP1,hP2,hb1,hb2,hnd⟩:=q5 (by omega)
 repeat' (first| (with_reducible first| (refine hK _ _ _ ?_;clear hK K)| (refine hB ?_;clear hA hB A B)|refine Z1 ?_|refine Z5 (by omega) ?_|refine hKY _ _ _ ?_)| (with_reducible first|refine Y2 fun K hK=> ?_|refine Y3 fun A B hA hB=> ?_)<;>(simp only[go_sem,Nat.add_assoc,Nat.left_eq_add,Nat.add_eq_left,q0,q1,q2,hA1])| ((with_reducible first|refine Y8 ?_|refine Y9 ?_);try simp only[AQ.then,AQ.blk,reduceIte,Nat.reduceEqDiff])|fail)
 have hh:=fun H'=>h H' (nx1+4) pl m la aUU Ps bl cl bp cp mp b0 c0 f2 (by omega) hmok hl4 (by omega) hP2
 exact hQ _ _ _ _ _ (.inr rfl) (fZ (m:=1) rfl aA.bH rfl) (hh _ (by simp only[aA.set,aA.del,Nat.add_assoc,Nat.reduceAdd,Nat.add_left_cancel_iff,Nat.reduceEqDiff,Nat.left_eq_add,Nat.add_eq_left,if_true,if_false,hA1,q0];done) (q3.of (by rw[aA.aC (by omega)])) (o0.of (by rw[aA.aC (by omega)])) (by simp only[aA.set,aA.del,Nat.add_assoc,Nat.reduceAdd,Nat.add_left_cancel_iff,Nat.reduceEqDiff,Nat.left_eq_add,Nat.add_eq_left,if_true,if_false,hA1,q4];done) (by omega) e2 (by omega) (by omega) (by omega) (by omega) (by omega) (by omega) hnd fun id h1 h2=>by rw[aA.aC (by omega)];exact qf id h1 h2)
end
end Go.Proofs.Ytmccpdapaccnoaa
end
