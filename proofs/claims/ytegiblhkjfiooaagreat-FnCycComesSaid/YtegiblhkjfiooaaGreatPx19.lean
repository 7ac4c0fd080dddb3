/- Texts laid together by a program: rules, contracts and the walk that leads to the law. -/
import Derived.Test.YtegiblhkjfiooaaGreatPx6
set_option linter.unusedVariables false
set_option linter.unusedSimpArgs false
set_option linter.unusedSectionVars false
section
namespace Go.Proofs.YtegiblhkjfiooaaGreat
open Go Go.AM
set_option maxRecDepth 100000
set_option maxHeartbeats 4000000
section
variable {H : aA} {nx : Nat} {K : D → aA → Nat → Prop}
theorem K1 (l:List Int) (p:Nat) (n:Int) (hl:kZ l) (hp50:p<2^50) (hn: -2^31<n∧n<2^31):aB Tryz.prog aD [dP 2 0,dI n] (hp [(0,rdO l p)]) 1
 fun r H' n'=>n'=1∧ ∃o',H'=hp [(0,o')]∧C7 o'∧o'=rdO l (p+1)∧ ∃x:Int,r=dI x∧0≤x∧(x<n∨x=0):=by
 have hl2:=hl.len
 refine JN rfl fun Q hQ=> ?_
 unfold pG
 simp only[rdO]
 repeat' (first| (with_reducible first| (refine hK _ _ _ ?_;clear hK K)| (refine hA ?_;clear hA hB A B)| (refine hB ?_;clear hA hB A B)|refine Z1 ?_|refine Z2 ?_|refine Z6 (fun h=> ?_) fun h=> ?_)| (with_reducible first|refine Y2 fun K hK=> ?_|refine Y3 fun A B hA hB=> ?_|refine Y6 (fun h=> ?_) fun h=> ?_)<;>(simp only[go_sem];try simp (disch:=omega) only[Iw])| ((with_reducible refine Y8 ?_);try simp only[AQ.then,AQ.blk,reduceIte,Nat.reduceEqDiff])|refine⟨by omega,?_⟩|fail)
 ·exact lA hQ (dI 0) _ _ rfl (aE rfl) rfl (aV l (p+1)) ⟨rfl,0,rfl,by omega,by omega⟩
 ·exact lA hQ (dI 0) _ _ rfl (aE rfl) rfl (aV l (p+1)) ⟨rfl,0,rfl,by omega,by omega⟩
 ·have b1:=hl.at (p+1-1:Int).toNat
  rw[IntWalk.i64_in (l.getD _ _) (by omega)]
  exact lA hQ (dI _) _ _ rfl (aE rfl) rfl (aV l (p+1)) ⟨rfl,_,rfl,Int.tmod_nonneg _ (by omega),.inl (Int.tmod_lt_of_pos _ (by omega))⟩
 ·have e1:(p:Int)+1-1=p:=by omega
  rw[e1] at*
  have hl3:(0:Int)<l.length:=by omega
  have t1:=Int.tmod_nonneg (l.length:Int) (show (0:Int)≤p by omega)
  have t2:=Int.tmod_lt_of_pos (p:Int) hl3
  have t3:=Int.tmod_nonneg (l.length:Int) (show (0:Int)≤p*7+3 by omega)
  have t4:=Int.tmod_lt_of_pos ((p:Int)*7+3) hl3
  refine⟨⟨t1,t2⟩,by omega,⟨t3,t4⟩,by omega,hK _ _ _ ?_⟩
  clear hK K
  have b1:=hl.at ((p:Int).tmod l.length).toNat
  have b2:=hl.at ((p*7+3:Int).tmod l.length).toNat
  generalize l.getD ((p:Int).tmod l.length).toNat default=x1 at*
  generalize l.getD ((p*7+3:Int).tmod l.length).toNat default=x2 at*
  have d1:0≤(p:Int).tdiv l.length:=Int.tdiv_nonneg (by omega) (by omega)
  have d2:(p:Int).tdiv l.length≤p:=Int.tdiv_le_self _ (by omega)
  generalize (p:Int).tdiv l.length=q at*
  simp (disch:=omega) only[IntWalk.i64_in]
  have hx:0≤(x1:Int)*131+x2*1117+p*29+q*53∧(x1:Int)*131+x2*1117+p*29+q*53<2^60:=by omega
  generalize (x1:Int)*131+x2*1117+p*29+q*53=X at*
  have d3:0≤X.tdiv 64:=Int.tdiv_nonneg (by omega) (by omega)
  have d4:X.tdiv 64≤X:=Int.tdiv_le_self _ (by omega)
  have hy:=aq7 (a:=X) (b:=X.tdiv 64) (by omega) (by omega)
  repeat' (first| (with_reducible first| (refine hK _ _ _ ?_;clear hK K)|refine Z1 ?_)| (with_reducible refine Y2 fun K hK=> ?_)<;>(simp only[go_sem];try simp (disch:=omega) only[Iw])| ((with_reducible refine Y8 ?_);try simp only[AQ.then,AQ.blk,reduceIte,Nat.reduceEqDiff])|refine⟨by omega,?_⟩|fail)
  exact lA hQ (dI _) _ _ rfl (aE rfl) rfl (aV l (p+1)) ⟨rfl,_,rfl,Int.tmod_nonneg _ hy,.inl (Int.tmod_lt_of_pos _ (by omega))⟩
theorem aX {l:List Int} {p i:Nat} {n:Int} (hl:kZ l) (hp50:p<2^50) (hn: -2^31<n∧n<2^31) (hi:i<nx) (ho:H i=some (rdO l p)) (h: ∀x:Int,0≤x→(x<n∨x=0)→K (dI x) (H.set i (rdO l (p+1))) nx):
 aB Tryz.prog aD [dP 2 i,dI n] H nx K:=
 (K1 l p n hl hp50 hn).OU i rfl (gW ⟨DG (by omega) rfl,aE rfl,trivial⟩) hi ho (aV l p) fun r o' ⟨h1,x,h2,h3,h4⟩=>by
  subst h1;subst h2;exact h x h3 h4
theorem FJ (l:List Int) (p:Nat):aB Tryz.prog kE [dP 2 0,dI 99999] (hp [(0,rdO l p)]) 1
 fun r H' n'=>n'=1∧ ∃o',H'=hp [(0,o')]∧C7 o'∧o'=rdO l p∧r=dB false:=by
 refine LF rfl fun Q hQ=> ?_
 unfold rH
 repeat' (first| (with_reducible first| (refine hK _ _ _ ?_;clear hK K)|refine Z1 ?_)| (with_reducible refine Y2 fun K hK=> ?_)<;>(simp only[go_sem])| ((with_reducible refine Y8 ?_);try simp only[AQ.then,AQ.blk,reduceIte,Nat.reduceEqDiff])|fail)
 exact lA hQ (dB false) _ _ rfl (aE rfl) rfl (aV l p) ⟨rfl,rfl⟩
theorem uA {l:List Int} {p i:Nat} (hi:i<nx) (ho:H i=some (rdO l p)) (h:K (dB false) (H.set i (rdO l p)) nx):aB Tryz.prog kE [dP 2 i,dI 99999] H nx K:=
 (FJ l p).OU i rfl (gW ⟨DG (by omega) rfl,aE rfl,trivial⟩) hi ho (aV l p) fun r o' ⟨h1,h2⟩=>by
  subst h1;subst h2;exact h
end
end Go.Proofs.YtegiblhkjfiooaaGreat
end
section
namespace Go.Proofs.YtegiblhkjfiooaaGreat
open Go Go.AM
set_option maxRecDepth 100000
set_option maxHeartbeats 4000000
section
variable {H : aA} {nx : Nat} {K : D → aA → Nat → Prop}
theorem RI (l:List Int) (p:Nat) (hl:kZ l) (hp50:p+7<2^50):aB Tryz.prog qM [dP 2 0] (hp [(0,rdO l p)]) 1
 fun rr H' n'=>n'=1∧ ∃o',H'=hp [(0,o')]∧C7 o'∧ ∃(p':Nat) (x:Int),o'=rdO l p'∧p≤p'∧p'≤p+7∧rr=dI x∧(0≤x∧x≤63):=by
 refine N4 rfl fun Q hQ=> ?_
 unfold vH
 repeat' (first| (with_reducible first| (refine hK _ _ _ ?_;clear hK K)|refine Z1 ?_)| (first| (with_reducible refine Y2 fun K hK=> ?_)| (refine aX hl (by omega) (by omega) (by omega) rfl (fun x h1 h2=> ?_)))<;>(simp only[go_sem];try simp (disch:=omega) only[Iw])|refine⟨by omega,?_⟩|fail)
 have hx:x=0∨x=1∨x=2∨x=3∨x=4∨x=5∨x=6∨x=7:=by omega
 rcases hx with rfl|rfl|rfl|rfl|rfl|rfl|rfl|rfl
 all_goals simp only[go_sem];try simp (disch:=omega) only[Iw]
 all_goals repeat' (first| (with_reducible (refine hK _ _ _ ?_;clear hK K))| ((with_reducible refine Y8 ?_);try simp only[AQ.then,AQ.blk,reduceIte,Nat.reduceEqDiff])|refine⟨by omega,?_⟩|fail)
 all_goals exact lA hQ (dI _) _ _ rfl (aE rfl) rfl (aV _ _) ⟨_,_,rfl,by omega,by omega,rfl,by omega,by omega⟩
theorem SE {l:List Int} {p i:Nat} (hl:kZ l) (hp50:p+7<2^50) (hi:i<nx) (ho:H i=some (rdO l p)) (h: ∀(p':Nat) (x:Int),p≤p'→p'≤p+7→(0≤x∧x≤63)→K (dI x) (H.set i (rdO l p')) nx):
 aB Tryz.prog qM [dP 2 i] H nx K:=
 (RI l p hl hp50).OU i rfl (gW ⟨DG (by omega) rfl,trivial⟩) hi ho (aV l p) fun r o' ⟨p',x,h1,h2,h3,h4,h5⟩=>by
  subst h1;subst h4;exact EW (A:=fun d=>K d (H.set i (rdO l p')) nx) rfl (h p' x h2 h3 h5)
theorem TX (l:List Int) (p:Nat) (hl:kZ l) (hp50:p+8<2^50):aB Tryz.prog tN [dP 2 0,dI 99999] (hp [(0,rdO l p)]) 1
 fun rr H' n'=>n'=1∧ ∃o',H'=hp [(0,o')]∧C7 o'∧ ∃(p':Nat) (m:List Rng),o'=rdO l p'∧p≤p'∧p'≤p+8∧rr=dS (m.map eN)∧(DH m):=by
 refine RN rfl fun Q hQ=> ?_
 unfold w9
 repeat' (first| (with_reducible first| (refine hK _ _ _ ?_;clear hK K)| (refine hA ?_;clear hA hB A B)| (refine hB ?_;clear hA hB A B)|refine Z1 ?_|refine Z2 ?_|refine Z3 fun KB hKB=> ?_|refine Z6 (fun h=> ?_) fun h=> ?_)| (first| (with_reducible first|refine Y2 fun K hK=> ?_|refine Y3 fun A B hA hB=> ?_)| (refine aX hl (by omega) (by omega) (by omega) rfl (fun x h1 h2=> ?_))| (refine uA (by omega) rfl ?_))<;>(simp only[go_sem];try simp (disch:=omega) only[Iw])| ((with_reducible refine Y8 ?_);try simp only[AQ.then,AQ.blk,reduceIte,Nat.reduceEqDiff])| ((with_reducible refine Y0 ?_);simp only[AQ.then,AQ.blk])|refine⟨by omega,?_⟩| (with_reducible refine hKB _ _ _ ?_)|fail)
 ·exact lA hQ (dS ((al2 _ _).map eN)) _ _ rfl (yP (l:=al2 _ _) K3 rfl rfl (by simp[al2]) (by decide)) rfl (aV _ _) ⟨_,al2 _ _,rfl,by omega,by omega,rfl,apM _ _ (by omega)⟩
 ·have hx:x=0∨x=1∨x=2:=by omega
  rcases hx with rfl|rfl|rfl
  ·exact lA hQ (dS (((E9 false).take 1).map eN)) _ _ rfl (DJ (rows:=((E9 false).take 1).map eN) (aG K3 _) rfl (by decide) rfl rfl rfl (by simp[E9])) rfl (aV _ _) ⟨_,(E9 false).take 1,rfl,by omega,by omega,rfl,PO _ 1 (by decide)⟩
  ·exact lA hQ (dS (((E9 false).take 2).map eN)) _ _ rfl (DJ (rows:=((E9 false).take 2).map eN) (aG K3 _) rfl (by decide) rfl rfl rfl (by simp[E9])) rfl (aV _ _) ⟨_,(E9 false).take 2,rfl,by omega,by omega,rfl,PO _ 2 (by decide)⟩
  ·exact lA hQ (dS (((E9 _).take 3).map eN)) _ _ rfl (DJ (rows:=((E9 _).take 3).map eN) (aG K3 _) rfl (by decide) rfl rfl rfl (by simp[E9])) rfl (aV _ _) ⟨_,(E9 _).take 3,rfl,by omega,by omega,rfl,PO _ 3 (by decide)⟩
 ·exact lA hQ (dS (((E9 _).take 3).map eN)) _ _ rfl (DJ (rows:=((E9 _).take 3).map eN) (aG K3 _) rfl (by decide) rfl rfl rfl (by simp[E9])) rfl (aV _ _) ⟨_,(E9 _).take 3,rfl,by omega,by omega,rfl,PO _ 3 (by decide)⟩
theorem IV {l:List Int} {p i:Nat} (hl:kZ l) (hp50:p+8<2^50) (hi:i<nx) (ho:H i=some (rdO l p)) (h: ∀(p':Nat) (m:List Rng),p≤p'→p'≤p+8→(DH m)→K (dS (m.map eN)) (H.set i (rdO l p')) nx):
 aB Tryz.prog tN [dP 2 i,dI 99999] H nx K:=
 (TX l p hl hp50).OU i rfl (gW ⟨DG (by omega) rfl,aE rfl,trivial⟩) hi ho (aV l p) fun r o' ⟨p',m,h1,h2,h3,h4,h5⟩=>by
  subst h1;subst h4;exact EW (A:=fun d=>K d (H.set i (rdO l p')) nx) rfl (h p' m h2 h3 h5)
end
end Go.Proofs.YtegiblhkjfiooaaGreat
end
section
namespace Go.Proofs.YtegiblhkjfiooaaGreat
open Go Go.AM
set_option maxRecDepth 100000
set_option maxHeartbeats 20000000
section
variable {H : aA} {nx : Nat} {K : D → aA → Nat → Prop}
def rq0 (id kind addr many:Int) (wrap:Bool):List D1:=[cI id,cI kind,cI addr,cI many,cB wrap,.osl 0 0 0 0 0,.osl 0 0 0 0 0]
structure Rq where
 id:Int
 kind:Int
 addr:Int
 many:Int
 wrap:Bool
 p:Nat
theorem UT (l:List Int) (p:Nat) (hl:kZ l) (hp50:p+40<2^50):aB Tryz.prog tS [dP 2 0,dI 99999] (hp [(0,rdO l p)]) 1
 fun rr H' n'=>n'=1∧ ∃o',H'=hp [(0,o')]∧C7 o'∧ ∃(p':Nat) (q:Req),o'=rdO l p'∧p≤p'∧p'≤p+40∧rr=dA (eB q)∧(dH q):=by
 refine QN rfl fun Q hQ=> ?_
 unfold xW
 (refine aM.asL fun K hK=> ?_);(simp only[go_sem];try simp (disch:=omega) only[Iw]);(refine hK _ _ _ ?_;clear hK K)
 refine aM.join 2 (α:={u:Rq//(0≤u.id∧u.id≤1)∧(1≤u.kind∧u.kind≤4)∧(0≤u.addr∧u.addr≤63)∧(u.many=1∨u.many=2∨u.many=4)∧p≤u.p∧u.p≤p+11})
  (fun b u=>en [(5,dP 7 (b+1)),(4,dP 7 b),(1,dI 99999),(0,dP 2 0)]) (fun b u=>hp [(0,rdO l u.1.p),(b,⟨7,1,[rq0 0 0 0 0 false]⟩),(b+1,⟨7,1,[rq0 u.1.id u.1.kind u.1.addr u.1.many u.1.wrap]⟩)]) (fun KJ hKJ=> ?_) ?_
 ·repeat' (first| (first| (with_reducible refine Y2 fun K hK=> ?_)| (refine aX hl (by omega) (by omega) (by omega) rfl (fun x h1 h2=> ?_))| (refine SE hl (by omega) (by omega) rfl (fun pa xa ha1 ha2 ha3=> ?_)))<;>(simp only[go_sem];try simp (disch:=omega) only[Iw])|refine⟨by omega,?_⟩|fail)
  have hx:x=0∨x=1∨x=2∨x=3:=by omega
  rcases hx with rfl|rfl|rfl|rfl
  all_goals simp only[go_sem];try simp (disch:=omega) only[Iw]
  all_goals repeat' (first| (with_reducible (refine hK _ _ _ ?_;clear hK K))| (refine aX hl (by omega) (by omega) (by omega) rfl (fun x h1 h2=> ?_))<;>(simp only[go_sem])| ((with_reducible refine Y0 ?_);simp only[AQ.then,AQ.blk])|fail)
  all_goals rename_i id hid1 hid2 kind hkind1 hkind2 _ _
  ·refine hKJ _ _ _ ⟨⟨id,1+kind,xa,1,decide (x=0),pa+1+1⟩,by dsimp only;omega,by dsimp only;omega,by dsimp only;omega,by dsimp only;omega,by dsimp only;omega,by dsimp only;omega⟩ (by(refine cR [1,18,0] (by omega) (by repeat' (first| (with_reducible first|exact C1|refine C2 ?_ ?_)| ((with_reducible refine C0 ?_);exact CE (by omega) rfl)| ((with_reducible refine D0 ?_);first|exact CA rfl|refine CJ ?_)|fail)) ⟨⟨by simp,by simp[sgL],_,rfl,bS (aV _ _)⟩,⟨by simp,by simp[sgL],_,rfl,aP (by(try unfold rq0);repeat' (first| (with_reducible first|exact C3|refine C4 ?_ ?_)| ((with_reducible refine C0 ?_);first|exact CB rfl|exact CC)|fail))⟩,⟨by simp,by simp[sgL],_,rfl,aP (by(try unfold rq0);repeat' (first| (with_reducible first|exact C3|refine C4 ?_ ?_)| ((with_reducible refine C0 ?_);first|exact CB rfl|exact CC)|fail))⟩,trivial⟩ (by simp[sgL])))
  ·refine hKJ _ _ _ ⟨⟨id,1+kind,xa,1,decide (x=0),pa+1+1⟩,by dsimp only;omega,by dsimp only;omega,by dsimp only;omega,by dsimp only;omega,by dsimp only;omega,by dsimp only;omega⟩ (by(refine cR [1,18,0] (by omega) (by repeat' (first| (with_reducible first|exact C1|refine C2 ?_ ?_)| ((with_reducible refine C0 ?_);exact CE (by omega) rfl)| ((with_reducible refine D0 ?_);first|exact CA rfl|refine CJ ?_)|fail)) ⟨⟨by simp,by simp[sgL],_,rfl,bS (aV _ _)⟩,⟨by simp,by simp[sgL],_,rfl,aP (by(try unfold rq0);repeat' (first| (with_reducible first|exact C3|refine C4 ?_ ?_)| ((with_reducible refine C0 ?_);first|exact CB rfl|exact CC)|fail))⟩,⟨by simp,by simp[sgL],_,rfl,aP (by(try unfold rq0);repeat' (first| (with_reducible first|exact C3|refine C4 ?_ ?_)| ((with_reducible refine C0 ?_);first|exact CB rfl|exact CC)|fail))⟩,trivial⟩ (by simp[sgL])))
  ·refine hKJ _ _ _ ⟨⟨id,1+kind,xa,2,decide (x=0),pa+1+1⟩,by dsimp only;omega,by dsimp only;omega,by dsimp only;omega,by dsimp only;omega,by dsimp only;omega,by dsimp only;omega⟩ (by(refine cR [1,18,0] (by omega) (by repeat' (first| (with_reducible first|exact C1|refine C2 ?_ ?_)| ((with_reducible refine C0 ?_);exact CE (by omega) rfl)| ((with_reducible refine D0 ?_);first|exact CA rfl|refine CJ ?_)|fail)) ⟨⟨by simp,by simp[sgL],_,rfl,bS (aV _ _)⟩,⟨by simp,by simp[sgL],_,rfl,aP (by(try unfold rq0);repeat' (first| (with_reducible first|exact C3|refine C4 ?_ ?_)| ((with_reducible refine C0 ?_);first|exact CB rfl|exact CC)|fail))⟩,⟨by simp,by simp[sgL],_,rfl,aP (by(try unfold rq0);repeat' (first| (with_reducible first|exact C3|refine C4 ?_ ?_)| ((with_reducible refine C0 ?_);first|exact CB rfl|exact CC)|fail))⟩,trivial⟩ (by simp[sgL])))
  ·refine hKJ _ _ _ ⟨⟨id,1+kind,xa,4,decide (x=0),pa+1+1⟩,by dsimp only;omega,by dsimp only;omega,by dsimp only;omega,by dsimp only;omega,by dsimp only;omega,by dsimp only;omega⟩ (by(refine cR [1,18,0] (by omega) (by repeat' (first| (with_reducible first|exact C1|refine C2 ?_ ?_)| ((with_reducible refine C0 ?_);exact CE (by omega) rfl)| ((with_reducible refine D0 ?_);first|exact CA rfl|refine CJ ?_)|fail)) ⟨⟨by simp,by simp[sgL],_,rfl,bS (aV _ _)⟩,⟨by simp,by simp[sgL],_,rfl,aP (by(try unfold rq0);repeat' (first| (with_reducible first|exact C3|refine C4 ?_ ?_)| ((with_reducible refine C0 ?_);first|exact CB rfl|exact CC)|fail))⟩,⟨by simp,by simp[sgL],_,rfl,aP (by(try unfold rq0);repeat' (first| (with_reducible first|exact C3|refine C4 ?_ ?_)| ((with_reducible refine C0 ?_);first|exact CB rfl|exact CC)|fail))⟩,trivial⟩ (by simp[sgL])))
 rintro⟨⟨id,kind,addr,many,wrap,q⟩,f1,f2,f3,f4,f5,f6⟩
 dsimp only at f1 f2 f3 f4 f5 f6
 refine aM.join 2 (α:={u:Rq//((0≤u.id∧u.id≤1)∧(1≤u.kind∧u.kind≤4)∧(0≤u.addr∧u.addr≤63)∧(u.many=1∨u.many=2∨u.many=4)∧p≤u.p∧u.p≤p+12)∧(3≤u.kind→u.many=1)})
  (fun b u=>en [(5,dP 7 (b+1)),(4,dP 7 b),(1,dI 99999),(0,dP 2 0)]) (fun b u=>hp [(0,rdO l u.1.p),(b,⟨7,1,[rq0 0 0 0 0 false]⟩),(b+1,⟨7,1,[rq0 u.1.id u.1.kind u.1.addr u.1.many u.1.wrap]⟩)]) (fun KJ hKJ=> ?_) ?_
 ·repeat' (first| (with_reducible first| (refine hK _ _ _ ?_;clear hK K)| (refine hA ?_;clear hA hB A B)| (refine hB ?_;clear hA hB A B)|refine Z1 ?_|refine Z2 ?_|refine Z6 (fun h=> ?_) fun h=> ?_)| (first| (with_reducible first|refine Y2 fun K hK=> ?_|refine Y3 fun A B hA hB=> ?_)| (refine aX hl (by omega) (by omega) (by omega) rfl (fun x h1 h2=> ?_)))<;>(simp only[go_sem,rq0])| ((with_reducible refine Y0 ?_);simp only[AQ.then,AQ.blk])|refine⟨by omega,?_⟩|fail)
  ·have hx:x=0∨x=1∨x=2∨x=3:=by omega
   rcases hx with rfl|rfl|rfl|rfl
   all_goals simp only[go_sem];try simp (disch:=omega) only[Iw]
   all_goals repeat' (first| (with_reducible (refine hK _ _ _ ?_;clear hK K))| ((with_reducible refine Y0 ?_);simp only[AQ.then,AQ.blk])|fail)
   ·refine hKJ _ _ _ ⟨⟨id,kind,0,1,wrap,q+1⟩,by dsimp only;omega,by dsimp only;omega⟩ (by(refine cR [2,3,0] (by omega) (by repeat' (first| (with_reducible first|exact C1|refine C2 ?_ ?_)| ((with_reducible refine C0 ?_);exact CE (by omega) rfl)| ((with_reducible refine D0 ?_);first|exact CA rfl|refine CJ ?_)|fail)) ⟨⟨by simp,by simp[sgL],_,rfl,bS (aV _ _)⟩,⟨by simp,by simp[sgL],_,rfl,aP (by(try unfold rq0);repeat' (first| (with_reducible first|exact C3|refine C4 ?_ ?_)| ((with_reducible refine C0 ?_);first|exact CB rfl|exact CC)|fail))⟩,⟨by simp,by simp[sgL],_,rfl,aP (by(try unfold rq0);repeat' (first| (with_reducible first|exact C3|refine C4 ?_ ?_)| ((with_reducible refine C0 ?_);first|exact CB rfl|exact CC)|fail))⟩,trivial⟩ (by simp[sgL])))
   ·refine hKJ _ _ _ ⟨⟨id,kind,1,1,wrap,q+1⟩,by dsimp only;omega,by dsimp only;omega⟩ (by(refine cR [2,3,0] (by omega) (by repeat' (first| (with_reducible first|exact C1|refine C2 ?_ ?_)| ((with_reducible refine C0 ?_);exact CE (by omega) rfl)| ((with_reducible refine D0 ?_);first|exact CA rfl|refine CJ ?_)|fail)) ⟨⟨by simp,by simp[sgL],_,rfl,bS (aV _ _)⟩,⟨by simp,by simp[sgL],_,rfl,aP (by(try unfold rq0);repeat' (first| (with_reducible first|exact C3|refine C4 ?_ ?_)| ((with_reducible refine C0 ?_);first|exact CB rfl|exact CC)|fail))⟩,⟨by simp,by simp[sgL],_,rfl,aP (by(try unfold rq0);repeat' (first| (with_reducible first|exact C3|refine C4 ?_ ?_)| ((with_reducible refine C0 ?_);first|exact CB rfl|exact CC)|fail))⟩,trivial⟩ (by simp[sgL])))
   ·refine hKJ _ _ _ ⟨⟨id,kind,16,1,wrap,q+1⟩,by dsimp only;omega,by dsimp only;omega⟩ (by(refine cR [2,3,0] (by omega) (by repeat' (first| (with_reducible first|exact C1|refine C2 ?_ ?_)| ((with_reducible refine C0 ?_);exact CE (by omega) rfl)| ((with_reducible refine D0 ?_);first|exact CA rfl|refine CJ ?_)|fail)) ⟨⟨by simp,by simp[sgL],_,rfl,bS (aV _ _)⟩,⟨by simp,by simp[sgL],_,rfl,aP (by(try unfold rq0);repeat' (first| (with_reducible first|exact C3|refine C4 ?_ ?_)| ((with_reducible refine C0 ?_);first|exact CB rfl|exact CC)|fail))⟩,⟨by simp,by simp[sgL],_,rfl,aP (by(try unfold rq0);repeat' (first| (with_reducible first|exact C3|refine C4 ?_ ?_)| ((with_reducible refine C0 ?_);first|exact CB rfl|exact CC)|fail))⟩,trivial⟩ (by simp[sgL])))
   ·refine hKJ _ _ _ ⟨⟨id,kind,32,1,wrap,q+1⟩,by dsimp only;omega,by dsimp only;omega⟩ (by(refine cR [2,3,0] (by omega) (by repeat' (first| (with_reducible first|exact C1|refine C2 ?_ ?_)| ((with_reducible refine C0 ?_);exact CE (by omega) rfl)| ((with_reducible refine D0 ?_);first|exact CA rfl|refine CJ ?_)|fail)) ⟨⟨by simp,by simp[sgL],_,rfl,bS (aV _ _)⟩,⟨by simp,by simp[sgL],_,rfl,aP (by(try unfold rq0);repeat' (first| (with_reducible first|exact C3|refine C4 ?_ ?_)| ((with_reducible refine C0 ?_);first|exact CB rfl|exact CC)|fail))⟩,⟨by simp,by simp[sgL],_,rfl,aP (by(try unfold rq0);repeat' (first| (with_reducible first|exact C3|refine C4 ?_ ?_)| ((with_reducible refine C0 ?_);first|exact CB rfl|exact CC)|fail))⟩,trivial⟩ (by simp[sgL])))
  ·refine hKJ _ _ _ ⟨⟨id,kind,addr,many,wrap,q⟩,by dsimp only;omega,by dsimp only;omega⟩ (by(refine cR [2,3,0] (by omega) (by repeat' (first| (with_reducible first|exact C1|refine C2 ?_ ?_)| ((with_reducible refine C0 ?_);exact CE (by omega) rfl)| ((with_reducible refine D0 ?_);first|exact CA rfl|refine CJ ?_)|fail)) ⟨⟨by simp,by simp[sgL],_,rfl,bS (aV _ _)⟩,⟨by simp,by simp[sgL],_,rfl,aP (by(try unfold rq0);repeat' (first| (with_reducible first|exact C3|refine C4 ?_ ?_)| ((with_reducible refine C0 ?_);first|exact CB rfl|exact CC)|fail))⟩,⟨by simp,by simp[sgL],_,rfl,aP (by(try unfold rq0);repeat' (first| (with_reducible first|exact C3|refine C4 ?_ ?_)| ((with_reducible refine C0 ?_);first|exact CB rfl|exact CC)|fail))⟩,trivial⟩ (by simp[sgL])))
 rintro⟨⟨id,kind,addr,many,wrap,q⟩,⟨f1,f2,f3,f4,f5,f6⟩,f7⟩
 dsimp only at f1 f2 f3 f4 f5 f6 f7
 refine aM.join 2 (α:={u:Rq//((0≤u.id∧u.id≤1)∧(1≤u.kind∧u.kind≤4)∧p≤u.p∧u.p≤p+12)∧(3≤u.kind→u.many=1)∧o7 u.addr u.many u.wrap})
  (fun b u=>en [(5,dP 7 (b+1)),(4,dP 7 b),(1,dI 99999),(0,dP 2 0)]) (fun b u=>hp [(0,rdO l u.1.p),(b,⟨7,1,[rq0 0 0 0 0 false]⟩),(b+1,⟨7,1,[rq0 u.1.id u.1.kind u.1.addr u.1.many u.1.wrap]⟩)]) (fun KJ hKJ=> ?_) ?_
 ·repeat' (first| (with_reducible first| (refine hK _ _ _ ?_;clear hK K)| (refine hA ?_;clear hA hB A B)| (refine hB ?_;clear hA hB A B)|refine Z1 ?_|refine Z2 ?_|refine Z6 (fun h=> ?_) fun h=> ?_)| (with_reducible first|refine Y2 fun K hK=> ?_|refine Y3 fun A B hA hB=> ?_| (refine Y7 (fun h=> ?_) (fun h=> ?_)<;>try subst h))<;>(simp only[go_sem,rq0];try simp (disch:=omega) only[Iw])| ((with_reducible refine Y0 ?_);simp only[AQ.then,AQ.blk])|fail)
  ·refine hKJ _ _ _ ⟨⟨id,kind,63-many+1,many,wrap,q⟩,by dsimp only;omega,by dsimp only;omega,by dsimp only;exact⟨by omega,by omega,.inr (by omega)⟩⟩ (by(refine cR [4,5,0] (by omega) (by repeat' (first| (with_reducible first|exact C1|refine C2 ?_ ?_)| ((with_reducible refine C0 ?_);exact CE (by omega) rfl)| ((with_reducible refine D0 ?_);first|exact CA rfl|refine CJ ?_)|fail)) ⟨⟨by simp,by simp[sgL],_,rfl,bS (aV _ _)⟩,⟨by simp,by simp[sgL],_,rfl,aP (by(try unfold rq0);repeat' (first| (with_reducible first|exact C3|refine C4 ?_ ?_)| ((with_reducible refine C0 ?_);first|exact CB rfl|exact CC)|fail))⟩,⟨by simp,by simp[sgL],_,rfl,aP (by(try unfold rq0);repeat' (first| (with_reducible first|exact C3|refine C4 ?_ ?_)| ((with_reducible refine C0 ?_);first|exact CB rfl|exact CC)|fail))⟩,trivial⟩ (by simp[sgL])))
  ·refine hKJ _ _ _ ⟨⟨id,kind,addr,many,wrap,q⟩,by dsimp only;omega,by dsimp only;omega,by dsimp only;exact⟨by omega,by omega,.inr (by omega)⟩⟩ (by(refine cR [4,5,0] (by omega) (by repeat' (first| (with_reducible first|exact C1|refine C2 ?_ ?_)| ((with_reducible refine C0 ?_);exact CE (by omega) rfl)| ((with_reducible refine D0 ?_);first|exact CA rfl|refine CJ ?_)|fail)) ⟨⟨by simp,by simp[sgL],_,rfl,bS (aV _ _)⟩,⟨by simp,by simp[sgL],_,rfl,aP (by(try unfold rq0);repeat' (first| (with_reducible first|exact C3|refine C4 ?_ ?_)| ((with_reducible refine C0 ?_);first|exact CB rfl|exact CC)|fail))⟩,⟨by simp,by simp[sgL],_,rfl,aP (by(try unfold rq0);repeat' (first| (with_reducible first|exact C3|refine C4 ?_ ?_)| ((with_reducible refine C0 ?_);first|exact CB rfl|exact CC)|fail))⟩,trivial⟩ (by simp[sgL])))
  ·refine hKJ _ _ _ ⟨⟨id,kind,addr,many,wrap,q⟩,by dsimp only;omega,by dsimp only;omega,by dsimp only;exact⟨by omega,by omega,.inl (by simp_all)⟩⟩ (by(refine cR [4,5,0] (by omega) (by repeat' (first| (with_reducible first|exact C1|refine C2 ?_ ?_)| ((with_reducible refine C0 ?_);exact CE (by omega) rfl)| ((with_reducible refine D0 ?_);first|exact CA rfl|refine CJ ?_)|fail)) ⟨⟨by simp,by simp[sgL],_,rfl,bS (aV _ _)⟩,⟨by simp,by simp[sgL],_,rfl,aP (by(try unfold rq0);repeat' (first| (with_reducible first|exact C3|refine C4 ?_ ?_)| ((with_reducible refine C0 ?_);first|exact CB rfl|exact CC)|fail))⟩,⟨by simp,by simp[sgL],_,rfl,aP (by(try unfold rq0);repeat' (first| (with_reducible first|exact C3|refine C4 ?_ ?_)| ((with_reducible refine C0 ?_);first|exact CB rfl|exact CC)|fail))⟩,trivial⟩ (by simp[sgL])))
 rintro⟨⟨id,kind,addr,many,wrap,q⟩,⟨f1,f2,f5,f6⟩,f7,f8⟩
 dsimp only at f1 f2 f5 f6 f7 f8
 have f4:=f8.1
 refine aM.join 2 (α:={u:Req×Nat//dH u.1∧p≤u.2∧u.2≤p+40})
  (fun b u=>en [(5,dP 7 (b+1)),(4,dP 7 b),(1,dI 99999),(0,dP 2 0)]) (fun b u=>hp [(0,rdO l u.1.2),(b,⟨7,1,[rq0 0 0 0 0 false]⟩),(b+1,⟨7,1,[eB u.1.1]⟩)]) (fun KJ hKJ=> ?_) ?_
 ·repeat' (first| (with_reducible first| (refine hK _ _ _ ?_;clear hK K)| (refine hA ?_;clear hA hB A B)| (refine hB ?_;clear hA hB A B)|refine Z1 ?_|refine Z2 ?_|refine Z3 fun KB hKB=> ?_|refine Z6 (fun h=> ?_) fun h=> ?_)| (with_reducible first|refine Y2 fun K hK=> ?_|refine Y3 fun A B hA hB=> ?_|refine Y6 (fun h=> ?_) fun h=> ?_)<;>(simp only[go_sem,rq0])| ((with_reducible refine Y0 ?_);simp only[AQ.then,AQ.blk])|fail)
  rotate_left 2
  ·refine hKJ _ _ _ ⟨(⟨id,kind,addr,many,wrap,[],[]⟩,q),⟨f1,f2,f8,?_,?_,?_,?_,by dsimp only;omega⟩,by dsimp only;omega,by dsimp only;omega⟩ (by(refine cR [6,7,0] (by omega) (by repeat' (first| (with_reducible first|exact C1|refine C2 ?_ ?_)| ((with_reducible refine C0 ?_);exact CE (by omega) rfl)| ((with_reducible refine D0 ?_);first|exact CA rfl|refine CJ ?_)|fail)) ⟨⟨by simp,by simp[sgL],_,rfl,bS (aV _ _)⟩,⟨by simp,by simp[sgL],_,rfl,aP (by(try unfold rq0);repeat' (first| (with_reducible first|exact C3|refine C4 ?_ ?_)| ((with_reducible refine C0 ?_);first|exact CB rfl|exact CC)|fail))⟩,⟨by simp,by simp[sgL],_,rfl,aP (by(try unfold rq0);repeat' (first| (with_reducible first|exact C3|refine C4 ?_ ?_)| ((with_reducible refine C0 ?_);first|exact CB rfl|exact CF)|refine C4 ?_ ?_|fail))⟩,trivial⟩ (by simp[sgL])))
   ·simp only[n5];rw[if_neg (by omega)];rfl
   ·simp only[n5];rw[if_neg (by omega)];rfl
   ·intro x hx;simp at hx
   ·intro x hx;simp at hx
  all_goals
   have hkind:kind=2∨kind=4:=by omega
   refine aM.EJ 1 (aM.EJ 1 ?_)
   (have hKX:=hKB;clear hKB)
   refine aM.sG 4 (β:=(Nat×Nat)×(List Int×Nat)×(List Int×Nat))
    (fun b u=>en [(6,dI u.1.1),(5,dP 7 (b+1)),(4,dP 7 b),(1,dI 99999),(0,dP 2 0)])
    (fun b u=>hp [(0,rdO l u.1.2),(b,⟨7,1,[rq0 0 0 0 0 false]⟩),(b+1,⟨7,1,[[cI id,cI kind,cI addr,cI many,cB wrap,.osl 1 (b+2) 0 u.1.1 u.2.1.2,.osl 1 (b+3) 0 u.1.1 u.2.2.2]]⟩),(b+2,⟨1,u.2.1.2,u.2.1.1.map aJ⟩),(b+3,⟨1,u.2.2.2,u.2.2.1.map aJ⟩)])
    (fun u=>((u.1.1:Int)≤many∧u.1.2≤q+4*u.1.1∧q≤u.1.2)∧(u.2.1.1.length=u.1.1∧All u.2.1.1 0 65535∧u.1.1≤u.2.1.2)∧(u.2.2.1.length=u.1.1∧All u.2.2.1 0 3∧u.1.1≤u.2.2.2))
    (fun u=>many.toNat-u.1.1) ((0,q),([],0),([],0)) ?_ ⟨⟨by dsimp only;omega,by dsimp only;omega,by dsimp only;omega⟩,⟨rfl,by simp[All],by simp⟩,⟨rfl,by simp[All],by simp⟩⟩ ?_
   · (refine cR [6,7,17,18,0] (by omega) (by repeat' (first| (with_reducible first|exact C1|refine C2 ?_ ?_)| ((with_reducible refine C0 ?_);exact CE (by omega) rfl)| ((with_reducible refine D0 ?_);first|exact CA rfl|refine CJ ?_)|fail)) ⟨⟨by simp,by simp[sgL],_,rfl,bS (aV _ _)⟩,⟨by simp,by simp[sgL],_,rfl,aP (by unfold rq0;repeat' (first| (with_reducible first|exact C3|refine C4 ?_ ?_)| ((with_reducible refine C0 ?_);first|exact CB rfl|exact CC)|fail))⟩,⟨by simp,by simp[sgL],_,rfl,aP (by(try unfold rq0);repeat' (first| (with_reducible first|exact C3|refine C4 ?_ ?_)| ((with_reducible refine C0 ?_);first|exact CB rfl|exact CC)|fail))⟩,⟨by simp,by simp[sgL],_,rfl,bP (aG bF _) rfl rfl⟩,⟨by simp,by simp[sgL],_,rfl,bP (aG bF _) rfl rfl⟩,trivial⟩ (by simp[sgL]))
   ·rintro⟨⟨k,q'⟩,⟨da,ca⟩,⟨la,cl⟩⟩ ⟨⟨g1,g2,g3⟩,⟨g4,g5,g6⟩,⟨g7,g8,g9⟩⟩ KL hKL
    dsimp only at g1 g2 g3 g4 g5 g6 g7 g8 g9
    have hta:da.take k=da:=List.take_of_length_le (by omega)
    have htl:la.take k=la:=List.take_of_length_le (by omega)
    by_cases hlt:k<many.toNat
    ·repeat' (first| (with_reducible first| (refine hK _ _ _ ?_;clear hK K)| (refine hA ?_;clear hA hB A B)|refine Z1 ?_|refine Z2 ?_|refine Z3 fun KB hKB=> ?_|refine Z4 (by omega) ?_)| (first| (with_reducible first|refine Y2 fun K hK=> ?_|refine Y3 fun A B hA hB=> ?_)| (refine aX hl (by omega) (by omega) (by omega) rfl (fun x h1 h2=> ?_)))<;>(simp only[go_sem,rq0];try simp (disch:=omega) only[Iw])|refine⟨by omega,?_⟩|fail)
     have hx:x=0∨x=1∨x=2∨x=3:=by omega
     rcases hx with rfl|rfl|rfl|rfl
     all_goals simp only[go_sem,hta,htl];try simp (disch:=omega) only[Iw]
     all_goals repeat' (first| (with_reducible first| (refine hK _ _ _ ?_;clear hK K)|refine fun(cap:Nat) (hcap:_≤cap)=> ?_|refine fun(hcp:_≤cap)=> ?_)| (first| (with_reducible refine Y2 fun K hK=> ?_)| (refine aX hl (by omega) (by omega) (by omega) rfl (fun x h1 h2=> ?_)))<;>(simp only[go_sem,hta,htl])|refine⟨by omega,?_⟩|fail)
     all_goals
      have hx:x=0∨x=1∨x=2∨x=3∨x=4:=by omega
      rcases hx with rfl|rfl|rfl|rfl|rfl
     all_goals simp only[go_sem,hta,htl];try simp (disch:=omega) only[Iw]
     all_goals repeat' (first| (with_reducible first| (refine hK _ _ _ ?_;clear hK K)|refine fun(cap:Nat) (hcap:_≤cap)=> ?_|refine fun(hcp:_≤cap)=> ?_)| (with_reducible refine Y2 fun K hK=> ?_)<;>(simp only[go_sem,hta,htl];try simp (disch:=omega) only[Iw])| ((with_reducible refine Y0 ?_);simp only[AQ.then,AQ.blk])|refine⟨by omega,?_⟩| (with_reducible refine hKB _ _ _ ?_)|fail)
     all_goals
      refine hKL _ _ _ ((k+1,_),(da++[_],_),(la++[_],_)) (by omega) (by(refine cR [19,20,40,51,0] (by omega) (by repeat' (first| (with_reducible first|exact C1|refine C2 ?_ ?_)| ((with_reducible refine C0 ?_);exact CE (by omega) rfl)| ((with_reducible refine D0 ?_);first|exact CA rfl|refine CJ ?_)|fail)) ⟨⟨by simp,by simp[sgL],_,rfl,bS (aV _ _)⟩,⟨by simp,by simp[sgL],_,rfl,aP (by unfold rq0;repeat' (first| (with_reducible first|exact C3|refine C4 ?_ ?_)| ((with_reducible refine C0 ?_);first|exact CB rfl|exact CC)|fail))⟩,⟨by simp,by simp[sgL],_,rfl,aP (by repeat' (first| (with_reducible first|exact C3|refine C4 ?_ ?_)| ((with_reducible refine C0 ?_);first|exact CB rfl|exact CQ (by omega) rfl rfl (by rfl) rfl)|fail))⟩,⟨by simp,by simp[sgL],_,rfl,bP (aG bF _) rfl rfl⟩,⟨by simp,by simp[sgL],_,rfl,bP (aG bF _) rfl rfl⟩,trivial⟩ (by simp[sgL])))
       ⟨⟨by dsimp only;omega,by dsimp only;omega,by dsimp only;omega⟩,⟨by simp;omega,KC g5 (by omega) (by omega),by dsimp only;omega⟩,⟨by simp;omega,KC g8 (by omega) (by omega),by dsimp only;omega⟩⟩ (by dsimp only;omega)
    ·repeat' (first| (with_reducible first| (refine hK _ _ _ ?_;clear hK K)| (refine hB ?_;clear hA hB A B)|refine Z1 ?_|refine Z5 (by omega) ?_|refine hKX _ _ _ ?_)| (with_reducible first|refine Y2 fun K hK=> ?_|refine Y3 fun A B hA hB=> ?_)<;>(simp only[go_sem,rq0])| ((with_reducible refine Y9 ?_);try simp only[AQ.then,AQ.blk,reduceIte,Nat.reduceEqDiff])| ((with_reducible refine Y0 ?_);simp only[AQ.then,AQ.blk])|fail)
     refine hKJ _ _ _ ⟨(⟨id,kind,addr,many,wrap,da,la⟩,q'),⟨f1,f2,f8,?_,?_,g5,g8,by dsimp only;omega⟩,by dsimp only;omega,by dsimp only;omega⟩ (by(refine cR [19,20,0] (by omega) (by repeat' (first| (with_reducible first|exact C1|refine C2 ?_ ?_)| ((with_reducible refine C0 ?_);exact CE (by omega) rfl)| ((with_reducible refine D0 ?_);first|exact CA rfl|refine CJ ?_)|fail)) ⟨⟨by simp,by simp[sgL],_,rfl,bS (aV _ _)⟩,⟨by simp,by simp[sgL],_,rfl,aP (by(try unfold rq0);repeat' (first| (with_reducible first|exact C3|refine C4 ?_ ?_)| ((with_reducible refine C0 ?_);first|exact CB rfl|exact CC)|fail))⟩,⟨by simp,by simp[sgL],_,rfl,aP (aH (bB rfl) (aH (bB rfl) (aH (bB rfl) (aH (bB rfl) (aH (bB rfl) (aH (bW bF rfl (by dsimp only;omega) (by dsimp only;omega) (by simp)) (aH (bW bF rfl (by dsimp only;omega) (by dsimp only;omega) (by simp)) eP)))))))⟩,trivial⟩ (by simp[sgL])))
     ·simp only[n5];rw[if_pos hkind];omega
     ·simp only[n5];rw[if_pos hkind];omega
 rintro⟨⟨qq,q'⟩,hok,g1,g2⟩
 dsimp only at hok g1 g2
 repeat' (first| (with_reducible first| (refine hK _ _ _ ?_;clear hK K)| (refine hB ?_;clear hA hB A B)|refine Z1 ?_|refine Z2 ?_)| (first| (with_reducible first|refine Y2 fun K hK=> ?_|refine Y3 fun A B hA hB=> ?_)| (refine uA (by omega) rfl ?_))<;>(simp only[go_sem,rq0])| ((with_reducible refine Y8 ?_);try simp only[AQ.then,AQ.blk,reduceIte,Nat.reduceEqDiff])|fail)
 exact lA hQ (dA (eB qq)) _ _ rfl (aE rfl) rfl (aV l q') ⟨_,_,rfl,by omega,by omega,rfl,hok⟩
theorem ID {l:List Int} {p i:Nat} (hl:kZ l) (hp50:p+40<2^50) (hi:i<nx) (ho:H i=some (rdO l p)) (h: ∀(p':Nat) (q:Req),p≤p'→p'≤p+40→(dH q)→K (dA (eB q)) (H.set i (rdO l p')) nx):
 aB Tryz.prog tS [dP 2 i,dI 99999] H nx K:=
 (UT l p hl hp50).OU i rfl (gW ⟨DG (by omega) rfl,aE rfl,trivial⟩) hi ho (aV l p) fun r o' ⟨p',q,h1,h2,h3,h4,h5⟩=>by
  subst h1;subst h4;exact EW (A:=fun d=>K d (H.set i (rdO l p')) nx) rfl (h p' q h2 h3 h5)
end
end Go.Proofs.YtegiblhkjfiooaaGreat
end
