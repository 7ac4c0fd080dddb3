/- Texts laid together by a program: rules, contracts and the walk that leads to the law. -/
import Derived.Test.YtegiblhkjfiooaaGreatPu20
import Derived.Test.YtegiblhkjfiooaaGreatPu21
import Derived.Test.YtegiblhkjfiooaaGreatPu18
import Derived.Test.YtegiblhkjfiooaaGreatPu22
import Derived.Test.YtegiblhkjfiooaaGreatPu19
set_option linter.unusedVariables false
set_option linter.unusedSimpArgs false
set_option linter.unusedSectionVars false
section
namespace Go.Proofs.YtegiblhkjfiooaaGreat
open Go Go.AM
set_option maxRecDepth 100000
set_option maxHeartbeats 8000000
section
variable {H : aA} {nx : Nat} {K : D → aA → Nat → Prop}
theorem aXC {l:List Int} {p:Nat} {Q:AQ} (hQ: ∀ex e2 H2 nx2 d nh d2 H3 F σ,ex=AEx.normal∨ex=AEx.ret→yT H2 e2 aVF=some d→CvR 1 d H2 nh d2 H3 F σ→(nh=1∧ ∃o',H3=hp [(0,o')]∧C7 o'∧ ∃(p':Nat) (x:Rsp),o'=rdO l p'∧p≤p'∧p'≤p+12∧d2=dA (tG x)∧(x.data.length≤8))→Q ex e2 H2 nx2)
 {e2:Env} {H2:aA} {nx2 b n1 c1 m1 p':Nat} {id code:Int} {D:List Int} (h1:yT H2 e2 aVF=some (dA [cI id,cI code,.osl 1 b 0 n1 c1])) (h2:H2 0=some (rdO l p')) (h3:H2 b=some ⟨1,m1,D.map aJ⟩)
 (h5:p≤p'∧p'≤p+12) (h6:n1=D.length) (h7:n1≤c1∧b≠0∧n1≤8):Q .ret e2 H2 nx2:=by
 obtain⟨h7,h8,h9⟩:=h7
 subst h6
 exact lA hQ (dA (tG ⟨id,code,D⟩)) _ _ h1 (aH (bB rfl) (aH (bB rfl) (aH (bW bF h3 rfl h7 (by simpa using h8)) eP))) h2 (aV _ _) ⟨p',_,rfl,h5.1,h5.2,rfl,h9⟩
theorem aW6 (l:List Int) (p:Nat) (n:Int) (hn:0<n∧n<9000) (hl:kZ l) (hp50:p+12<2^50):aB Tryz.prog aVA [dP 2 0,dI n] (hp [(0,rdO l p)]) 1
 fun rr H' n'=>n'=1∧ ∃o',H'=hp [(0,o')]∧C7 o'∧ ∃(p':Nat) (x:Rsp),o'=rdO l p'∧p≤p'∧p'≤p+12∧rr=dA (tG x)∧(x.data.length≤8):=by
 refine aW2 rfl fun Q hQ=> ?_
 unfold aVP
 repeat' (first| (with_reducible first| (refine hK _ _ _ ?_;clear hK K)|refine Z1 ?_|refine Z3 fun KB hKB=> ?_)| (first| (with_reducible refine Y2 fun K hK=> ?_)| (refine aX hl (by omega) (by omega) (by omega) rfl (fun x h1 h2=> ?_)))<;>(simp only[go_sem];try simp (disch:=omega) only[Iw])|fail)
 rename_i id hid1 hid2 code hc1 hc2
 (have hKX:=hKB;clear hKB)
 refine aM.EJ 1 ?_
 refine aM.sG 3 (β:=Nat×Nat×List Int×Nat)
  (fun b u=>en [(6,dI u.1),(5,dP 3 (b+1)),(4,dP 3 b),(1,dI n),(0,dP 2 0)])
  (fun b u=>hp [(0,rdO l u.2.1),(b,⟨3,1,[[cI 0,cI 0,.osl 0 0 0 0 0]]⟩),(b+1,⟨3,1,[[cI id,cI (1+code),.osl 1 (b+2) 0 u.2.2.1.length u.2.2.2]]⟩),(b+2,⟨1,u.2.2.2,u.2.2.1.map aJ⟩)])
  (fun u=>u.1+u.2.2.1.length≤4∧p≤u.2.1∧u.2.1+u.1≤p+7∧u.2.2.1.length≤u.2.2.2)
  (fun u=>u.1) (x.toNat,p+3,[],0) ?_ ⟨by simp;omega,by dsimp only;omega,by dsimp only;omega,Nat.le_refl _⟩ ?_
 · (refine cR [1,8,13,0] (by omega) (by repeat' (first| (with_reducible first|exact C1|refine C2 ?_ ?_)| ((with_reducible refine C0 ?_);first|exact CE (by omega) rfl| (exact CG (by(congr 2;omega)) rfl))| ((with_reducible refine D0 ?_);first|exact CA rfl|refine CJ ?_)|fail)) ⟨⟨by simp,by simp[sgL],_,rfl,bS (aV _ _)⟩,⟨by simp,by simp[sgL],_,rfl,aP (by repeat' (first| (with_reducible first|exact C3|refine C4 ?_ ?_)| ((with_reducible refine C0 ?_);first|exact CB rfl|exact CC)|fail))⟩,⟨by simp,by simp[sgL],_,rfl,aP (by repeat' (first| (with_reducible first|exact C3|refine C4 ?_ ?_)| ((with_reducible refine C0 ?_);first|exact CB rfl|exact CC)|fail))⟩,⟨by simp,by simp[sgL],_,rfl,bP (aG bF _) rfl rfl⟩,trivial⟩ (by simp[sgL]))
 rintro⟨k,pk,da,ca⟩ ⟨f1,f2,f3,f4⟩ KL hKL
 dsimp only at f1 f2 f3 f4
 have hta:da.take da.length=da:=List.take_length
 by_cases hk:0<k
 ·repeat' (first| (with_reducible first| (refine hK _ _ _ ?_;clear hK K)| (refine hA ?_;clear hA hB A B)|refine Z1 ?_|refine Z2 ?_|refine Z3 fun KB hKB=> ?_|refine Z4 (by omega) ?_|refine fun(cap:Nat) (hcap:_≤cap)=> ?_|refine fun(hcp:_≤cap)=> ?_)| (first| (with_reducible first|refine Y2 fun K hK=> ?_|refine Y3 fun A B hA hB=> ?_)| (refine aX hl (by omega) (by omega) (by omega) rfl (fun x h1 h2=> ?_)))<;>(simp only[go_sem,hta];try simp (disch:=omega) only[Iw])| ((with_reducible refine Y0 ?_);simp only[AQ.then,AQ.blk])|refine⟨by omega,?_⟩| (with_reducible refine hKB _ _ _ ?_)|fail)
  exact hKL _ _ _ (k-1,pk+1,da++[x],cap) (by omega) (by dsimp only;rw[List.length_append,List.length_singleton];(refine cR [14,15,24,0] (by omega) (by repeat' (first| (with_reducible first|exact C1|refine C2 ?_ ?_)| ((with_reducible refine C0 ?_);first|exact CE (by omega) rfl| (exact CG (by(congr 2;omega)) rfl))| ((with_reducible refine D0 ?_);first|exact CA rfl|refine CJ ?_)|fail)) ⟨⟨by simp,by simp[sgL],_,rfl,bS (aV _ _)⟩,⟨by simp,by simp[sgL],_,rfl,aP (by repeat' (first| (with_reducible first|exact C3|refine C4 ?_ ?_)| ((with_reducible refine C0 ?_);first|exact CB rfl|exact CC)|fail))⟩,⟨by simp,by simp[sgL],_,rfl,aP (by repeat' (first| (with_reducible first|exact C3|refine C4 ?_ ?_)| ((with_reducible refine C0 ?_);first|exact CB rfl|exact CQ (by omega) rfl rfl (by rfl) rfl)|fail))⟩,⟨by simp,by simp[sgL],_,rfl,bP (aG bF _) rfl rfl⟩,trivial⟩ (by simp[sgL]))) ⟨by simp;omega,by dsimp only;omega,by dsimp only;omega,by simpa using hcap⟩ (by dsimp only;omega)
 ·repeat' (first| (with_reducible first| (refine hK _ _ _ ?_;clear hK K)| (refine hA ?_;clear hA hB A B)| (refine hB ?_;clear hA hB A B)|refine Z1 ?_|refine Z2 ?_|refine Z3 fun KB hKB=> ?_|refine Z5 (by omega) ?_|refine Z6 (fun h=> ?_) fun h=> ?_|refine hKX _ _ _ ?_)| (first| (with_reducible first|refine Y2 fun K hK=> ?_|refine Y3 fun A B hA hB=> ?_)| (refine d6 hn hl (by omega) (by omega) rfl (fun p1 bb hp1 hp2 _=> ?_))| (refine aX hl (by omega) (by omega) (by omega) rfl (fun x h1 h2=> ?_)))<;>(simp only[go_sem])| ((with_reducible first|refine Y8 ?_|refine Y9 ?_);try simp only[AQ.then,AQ.blk,reduceIte,Nat.reduceEqDiff])| ((with_reducible refine Y0 ?_);simp only[AQ.then,AQ.blk])| ((with_reducible refine Z8 (fun h=> ?_) (fun h=> ?_))<;>try subst h)|refine⟨by omega,?_⟩| (with_reducible refine hKB _ _ _ ?_)|fail)
  all_goals first
   | (obtain⟨v,hv⟩:=aN1 (L:=[[.v (.int .i64 (-1))],[.v (.int .i64 2)]]) (by simp) h1 (by simp;omega);simp only[hv];simp only[go_sem];repeat' (first| (with_reducible first| (refine hK _ _ _ ?_;clear hK K)|refine Z1 ?_)| (with_reducible refine Y2 fun K hK=> ?_)<;>(simp only[go_sem])| ((with_reducible refine Y8 ?_);try simp only[AQ.then,AQ.blk,reduceIte,Nat.reduceEqDiff])| ((with_reducible refine Y0 ?_);simp only[AQ.then,AQ.blk])| (with_reducible refine hKB _ _ _ ?_)|fail))
   | (obtain⟨v,hv⟩:=aN1 (L:=[[.v (.int .i64 0)],[.v (.int .i64 5)]]) (by simp) h1 (by simp;omega);simp only[hv];simp only[go_sem];repeat' (first| (with_reducible first| (refine hK _ _ _ ?_;clear hK K)|refine Z1 ?_)| (with_reducible refine Y2 fun K hK=> ?_)<;>(simp only[go_sem])| ((with_reducible refine Y8 ?_);try simp only[AQ.then,AQ.blk,reduceIte,Nat.reduceEqDiff])| ((with_reducible refine Y0 ?_);simp only[AQ.then,AQ.blk])| (with_reducible refine hKB _ _ _ ?_)|fail))
   |skip
  all_goals first
   |exact aXC hQ rfl rfl rfl (by omega) rfl (by omega)
   |exact aXC hQ (D:=[-1]) rfl rfl rfl (by omega) rfl (by omega)
   |exact aXC hQ (D:=[1,2,3,4,5]) rfl rfl rfl (by omega) rfl (by omega)
theorem aV4 {l:List Int} {p i:Nat} {n:Int} (hn:0<n∧n<9000) (hl:kZ l) (hp50:p+12<2^50) (hi:i<nx) (ho:H i=some (rdO l p)) (h: ∀(p':Nat) (x:Rsp),p≤p'→p'≤p+12→(x.data.length≤8)→K (dA (tG x)) (H.set i (rdO l p')) nx):
 aB Tryz.prog aVA [dP 2 i,dI n] H nx K:=
 (aW6 l p n hn hl hp50).OU i rfl (gW ⟨DG (by omega) rfl,aE rfl,trivial⟩) hi ho (aV l p) fun r o' ⟨p',x,h1,h2,h3,h4,h5⟩=>by
  subst h1;subst h4;exact EW (A:=fun d=>K d (H.set i (rdO l p')) nx) rfl (h p' x h2 h3 h5)
theorem aW1 {l:List Int} {p:Nat} {Q:AQ} (hQ: ∀ex e2 H2 nx2 d nh d2 H3 F σ,ex=AEx.normal∨ex=AEx.ret→yT H2 e2 aVH=some d→CvR 1 d H2 nh d2 H3 F σ→(nh=1∧ ∃o',H3=hp [(0,o')]∧C7 o'∧ ∃(p':Nat) (w:List Int),o'=rdO l p'∧p≤p'∧p'≤p+70∧d2=dA [.isl (w.map aJ)]∧(w.length≤65))→Q ex e2 H2 nx2)
 {e2:Env} {H2:aA} {nx2 b n1 c1 m1 p' off:Nat} {W D:List Int} (h1:yT H2 e2 aVH=some (dA [.osl 1 b off n1 c1])) (h2:H2 0=some (rdO l p')) (h3:H2 b=some ⟨1,m1,W.map aJ⟩)
 (h4:(W.drop off).take n1=D) (h5:p≤p'∧p'≤p+70) (h6:n1=D.length∧off+n1≤W.length) (h7:n1≤c1∧b≠0∧n1≤65):Q .ret e2 H2 nx2:=by
 obtain⟨h7,h8,h9⟩:=h7
 obtain⟨h6,h10⟩:=h6
 exact lA hQ (dA [.isl (D.map aJ)]) _ _ h1 (aH (aTY (aG bF _) (by rw[List.length_map];exact h6) (by simpa using h8) h3 rfl (by simp;omega) (by rw[List.length_map,←h6,←List.map_drop,←List.map_take,h4]) (by rw[List.length_map];omega)) eP) h2 (aV _ _) ⟨p',_,rfl,h5.1,h5.2,rfl,by omega⟩
theorem aW8 (l:List Int) (p:Nat) (n:Int) (hn:n=99999∨(0<n∧n<9000)) (hl:kZ l) (hp50:p+70<2^50):aB Tryz.prog aU9 [dP 2 0,dI n] (hp [(0,rdO l p)]) 1
 fun rr H' n'=>n'=1∧ ∃o',H'=hp [(0,o')]∧C7 o'∧ ∃(p':Nat) (w:List Int),o'=rdO l p'∧p≤p'∧p'≤p+70∧rr=dA [.isl (w.map aJ)]∧(w.length≤65):=by
 refine aWR rfl fun Q hQ=> ?_
 unfold aVN
 have hw0:(List.replicate 64 (0:Int)).length=64:=rfl
 have hmn: ∀{H:aA} {nx:Nat} {K:D→aA→Nat→Prop},K (dA [.osl 1 nx 0 64 64]) (H.set nx ⟨1,64,(List.replicate 64 (0:Int)).map aJ⟩) (nx+1)→aB Tryz.prog v8 [] H nx K:=fun h=>aSB h
 generalize List.replicate 64 (0:Int)=w0 at*
 repeat' (first| (with_reducible first| (refine hK _ _ _ ?_;clear hK K)|refine Z1 ?_|refine Z3 fun KB hKB=> ?_)| (first| (with_reducible refine Y2 fun K hK=> ?_)| (refine hmn ?_)| (refine aX hl (by omega) (by omega) (by omega) rfl (fun x h1 h2=> ?_)))<;>(simp only[go_sem])|fail)
 (have hKX:=hKB;clear hKB)
 refine aM.sG 3 (β:=Nat×Nat×List Int)
  (fun b u=>en [(6,dI u.1),(5,dP 1 (b+1)),(4,dP 1 b),(1,dI n),(0,dP 2 0)])
  (fun b u=>hp [(0,rdO l u.2.1),(b,⟨1,1,[[.osl 0 0 0 0 0]]⟩),(b+1,⟨1,1,[[.osl 1 (b+2) 0 64 64]]⟩),(b+2,⟨1,64,u.2.2.map aJ⟩)])
  (fun u=>u.1≤7∧p≤u.2.1∧u.2.1+8*u.1≤p+57∧u.2.2.length=64)
  (fun u=>u.1) (x.toNat,p+1,w0) ?_ ⟨by dsimp only;omega,by dsimp only;omega,by dsimp only;omega,hw0⟩ ?_
 · (refine cR [1,3,5,0] (by omega) (by repeat' (first| (with_reducible first|exact C1|refine C2 ?_ ?_)| ((with_reducible refine C0 ?_);first|exact CE (by omega) rfl| (exact CG (by(congr 2;omega)) rfl))| ((with_reducible refine D0 ?_);first|exact CA rfl|refine CJ ?_)|fail)) ⟨⟨by simp,by simp[sgL],_,rfl,bS (aV _ _)⟩,⟨by simp,by simp[sgL],_,rfl,aP (by repeat' (first| (with_reducible first|exact C3|refine C4 ?_ ?_)| ((with_reducible refine C0 ?_);exact CC)|fail))⟩,⟨by simp,by simp[sgL],_,rfl,aP (by repeat' (first| (with_reducible first|exact C3|refine C4 ?_ ?_)| ((with_reducible refine C0 ?_);exact CQ (by omega) rfl rfl (by rfl) rfl)|fail))⟩,⟨by simp,by simp[sgL],_,rfl,bP (aG bF _) rfl rfl⟩,trivial⟩ (by simp[sgL]))
 rintro⟨k,pk,w⟩ ⟨f1,f2,f3,f4⟩ KL hKL
 dsimp only at f1 f2 f3 f4
 by_cases hk:0<k
 ·repeat' (first| (with_reducible first| (refine hK _ _ _ ?_;clear hK K)| (refine hA ?_;clear hA hB A B)|refine Z1 ?_|refine Z2 ?_|refine Z3 fun KB hKB=> ?_|refine Z4 (by omega) ?_)| (first| (with_reducible first|refine Y2 fun K hK=> ?_|refine Y3 fun A B hA hB=> ?_)| (refine SE hl (by omega) (by omega) rfl (fun pa xa ha1 ha2 ha3=> ?_))| (refine aX hl (by omega) (by omega) (by omega) rfl (fun x h1 h2=> ?_)))<;>(simp only[go_sem];try simp (disch:=omega) only[Iw])| ((with_reducible refine Y0 ?_);simp only[AQ.then,AQ.blk])|refine⟨by omega,?_⟩| (with_reducible refine hKB _ _ _ ?_)|fail)
  exact hKL _ _ _ (k-1,pa+1,w.set xa.toNat (x*257)) (by omega) (by(refine cR [9,10,11,0] (by omega) (by repeat' (first| (with_reducible first|exact C1|refine C2 ?_ ?_)| ((with_reducible refine C0 ?_);first|exact CE (by omega) rfl| (exact CG (by(congr 2;omega)) rfl))| ((with_reducible refine D0 ?_);first|exact CA rfl|refine CJ ?_)|fail)) ⟨⟨by simp,by simp[sgL],_,rfl,bS (aV _ _)⟩,⟨by simp,by simp[sgL],_,rfl,aP (by repeat' (first| (with_reducible first|exact C3|refine C4 ?_ ?_)| ((with_reducible refine C0 ?_);exact CC)|fail))⟩,⟨by simp,by simp[sgL],_,rfl,aP (by repeat' (first| (with_reducible first|exact C3|refine C4 ?_ ?_)| ((with_reducible refine C0 ?_);exact CQ (by omega) rfl rfl (by rfl) rfl)|fail))⟩,⟨by simp,by simp[sgL],_,rfl,bP (aG bF _) rfl rfl⟩,trivial⟩ (by simp[sgL]))) ⟨by dsimp only;omega,by dsimp only;omega,by dsimp only;omega,by simp;omega⟩ (by dsimp only;omega)
 ·rcases hn with rfl|hn
  ·repeat' (first| (with_reducible first| (refine hK _ _ _ ?_;clear hK K)| (refine hB ?_;clear hA hB A B)|refine Z1 ?_|refine Z2 ?_|refine Z5 (by omega) ?_|refine hKX _ _ _ ?_)| (first| (with_reducible first|refine Y2 fun K hK=> ?_|refine Y3 fun A B hA hB=> ?_)| (refine uA (by omega) rfl ?_))<;>(simp only[go_sem])| ((with_reducible first|refine Y8 ?_|refine Y9 ?_);try simp only[AQ.then,AQ.blk,reduceIte,Nat.reduceEqDiff])|fail)
   exact aW1 hQ (D:=w) rfl rfl rfl (List.take_of_length_le (by simp;omega)) (by omega) (by omega) (by omega)
  ·repeat' (first| (with_reducible first| (refine hK _ _ _ ?_;clear hK K)| (refine hA ?_;clear hA hB A B)| (refine hB ?_;clear hA hB A B)|refine Z1 ?_|refine Z2 ?_|refine Z3 fun KB hKB=> ?_|refine Z5 (by omega) ?_|refine Z6 (fun h=> ?_) fun h=> ?_|refine fun(cap:Nat) (hcap:_≤cap)=> ?_|refine fun(hcp:_≤cap)=> ?_|refine hKX _ _ _ ?_)| (first| (with_reducible first|refine Y2 fun K hK=> ?_|refine Y3 fun A B hA hB=> ?_)| (refine d6 hn hl (by omega) (by omega) rfl (fun p1 bb hp1 hp2 _=> ?_))| (refine aX hl (by omega) (by omega) (by omega) rfl (fun x h1 h2=> ?_)))<;>(simp only[go_sem])| ((with_reducible first|refine Y8 ?_|refine Y9 ?_);try simp only[AQ.then,AQ.blk,reduceIte,Nat.reduceEqDiff])| ((with_reducible refine Y0 ?_);simp only[AQ.then,AQ.blk])| ((with_reducible refine Z8 (fun h=> ?_) (fun h=> ?_))<;>try subst h)|refine⟨by omega,?_⟩| (with_reducible refine hKB _ _ _ ?_)|fail)
   all_goals first
    | (obtain⟨v,hv⟩:=aN1 (L:=[[.v (.int .i64 (-1))],[.v (.int .i64 65536)]]) (by simp) h1 (by simp;omega);simp only[hv];simp only[go_sem];repeat' (first| (with_reducible first| (refine hK _ _ _ ?_;clear hK K)|refine Z1 ?_)| (with_reducible refine Y2 fun K hK=> ?_)<;>(simp only[go_sem])| ((with_reducible refine Y8 ?_);try simp only[AQ.then,AQ.blk,reduceIte,Nat.reduceEqDiff])| ((with_reducible refine Y0 ?_);simp only[AQ.then,AQ.blk])|refine⟨by omega,?_⟩| (with_reducible refine hKB _ _ _ ?_)|fail))
    |skip
   all_goals first
    |exact aW1 hQ (D:=w.drop 1) rfl rfl rfl (List.take_of_length_le (by simp;omega)) (by omega) (by simp;omega) (by omega)
    |exact aW1 hQ (D:=w.set _ _) rfl rfl rfl (List.take_of_length_le (by simp;omega)) (by omega) (by simp;omega) (by omega)
    |exact aW1 hQ (D:=w.take 64++[0]) rfl rfl rfl (List.take_of_length_le (by simp;omega)) (by omega) (by simp;omega) (by omega)
    |exact aW1 hQ (D:=w) rfl rfl rfl (List.take_of_length_le (by simp;omega)) (by omega) (by omega) (by omega)
    |fail
theorem aV3 {l:List Int} {p i:Nat} {n:Int} (hn:n=99999∨(0<n∧n<9000)) (hl:kZ l) (hp50:p+70<2^50) (hi:i<nx) (ho:H i=some (rdO l p)) (h: ∀(p':Nat) (w:List Int),p≤p'→p'≤p+70→(w.length≤65)→K (dA [.isl (w.map aJ)]) (H.set i (rdO l p')) nx):
 aB Tryz.prog aU9 [dP 2 i,dI n] H nx K:=
 (aW8 l p n hn hl hp50).OU i rfl (gW ⟨DG (by omega) rfl,aE rfl,trivial⟩) hi ho (aV l p) fun r o' ⟨p',w,h1,h2,h3,h4,h5⟩=>by
  subst h1;subst h4;exact EW (A:=fun d=>K d (H.set i (rdO l p')) nx) rfl (h p' w h2 h3 h5)
theorem aXA {l:List Int} {p:Nat} {Q:AQ} (hQ: ∀ex e2 H2 nx2 d nh d2 H3 F σ,ex=AEx.normal∨ex=AEx.ret→yT H2 e2 aVE=some d→CvR 1 d H2 nh d2 H3 F σ→(nh=1∧ ∃o',H3=hp [(0,o')]∧C7 o'∧ ∃(p':Nat) (w u:List Int),o'=rdO l p'∧p≤p'∧p'≤p+200∧d2=dA [.isl (w.map aJ),.isl (u.map aJ)]∧(w.length≤65∧u.length≤6))→Q ex e2 H2 nx2)
 {e2:Env} {H2:aA} {nx2 b n1 c1 m1 p' off:Nat} {w W D:List Int} (h1:yT H2 e2 aVE=some (dA [.isl (w.map aJ),.osl 1 b off n1 c1])) (h2:H2 0=some (rdO l p')) (h3:H2 b=some ⟨1,m1,W.map aJ⟩)
 (h4:(W.drop off).take n1=D) (h5:p≤p'∧p'≤p+200) (h6:n1=D.length∧off+n1≤W.length) (h7:n1≤c1∧b≠0∧n1≤6∧w.length≤65):Q .ret e2 H2 nx2:=by
 obtain⟨h7,h8,h9,h11⟩:=h7
 obtain⟨h6,h10⟩:=h6
 exact lA hQ (dA [.isl (w.map aJ),.isl (D.map aJ)]) _ _ h1 (aH (bB rfl) (aH (aTY (aG bF _) (by rw[List.length_map];exact h6) (by simpa using h8) h3 rfl (by simp;omega) (by rw[List.length_map,←h6,←List.map_drop,←List.map_take,h4]) (by rw[List.length_map];omega)) eP)) h2 (aV _ _) ⟨p',_,_,rfl,h5.1,h5.2,rfl,h11,by omega⟩
theorem aW7 (l:List Int) (p:Nat) (n:Int) (hn:0<n∧n<9000) (hl:kZ l) (hp50:p+200<2^50):aB Tryz.prog aVK [dP 2 0,dI n] (hp [(0,rdO l p)]) 1
 fun rr H' n'=>n'=1∧ ∃o',H'=hp [(0,o')]∧C7 o'∧ ∃(p':Nat) (w:List Int) (u:List Int),o'=rdO l p'∧p≤p'∧p'≤p+200∧rr=dA [.isl (w.map aJ),.isl (u.map aJ)]∧(w.length≤65∧u.length≤6):=by
 refine aWW rfl fun Q hQ=> ?_
 unfold aVO
 have hu0:(List.replicate 6 (-1:Int)).length=6:=rfl
 have han: ∀{H:aA} {nx:Nat} {K:D→aA→Nat→Prop},(∀hc,6≤hc→K (dA [.osl 1 nx 0 64 64,.osl 1 (nx+1) 0 6 hc]) ((H.set nx ⟨1,64,(List.replicate 64 (0:Int)).map aJ⟩).set (nx+1) ⟨1,hc,(List.replicate 6 (-1:Int)).map aJ⟩) (nx+2))→aB Tryz.prog v7 [] H nx K:=fun h=>aR5 h
 generalize List.replicate 64 (0:Int)=w0 at*
 generalize List.replicate 6 (-1:Int)=aXL at*
 repeat' (first| (with_reducible first| (refine hK _ _ _ ?_;clear hK K)|refine Z1 ?_|refine Z3 fun KB hKB=> ?_)| (first| (with_reducible refine Y2 fun K hK=> ?_)| (refine han fun hc hhc=> ?_)| (refine aV3 (n:=99999) (.inl rfl) hl (by omega) (by omega) rfl (fun pm w hm1 hm2 hm3=> ?_)))<;>(simp only[go_sem])|fail)
 (have hKX:=hKB;clear hKB)
 refine aM.sG 3 (β:=Nat×Nat×List Int)
  (fun b u=>en [(6,dI u.1),(5,dP 2 (b+1)),(4,dP 2 b),(1,dI n),(0,dP 2 0)])
  (fun b u=>hp [(0,rdO l u.2.1),(b,⟨2,1,[[.osl 0 0 0 0 0,.osl 0 0 0 0 0]]⟩),(b+1,⟨2,1,[[.isl (w.map aJ),.osl 1 (b+2) 0 6 hc]]⟩),(b+2,⟨1,hc,u.2.2.map aJ⟩)])
  (fun u=>u.1≤6∧p≤u.2.1∧u.2.1≤p+70+u.1∧u.2.2.length=6)
  (fun u=>6-u.1) (0,pm,aXL) ?_ ⟨by dsimp only;omega,by dsimp only;omega,by dsimp only;omega,hu0⟩ ?_
 · (refine cR [1,3,6,0] (by omega) (by repeat' (first| (with_reducible first|exact C1|refine C2 ?_ ?_)| ((with_reducible refine C0 ?_);exact CE (by omega) rfl)| ((with_reducible refine D0 ?_);first|exact CA rfl|refine CJ ?_)|fail)) ⟨⟨by simp,by simp[sgL],_,rfl,bS (aV _ _)⟩,⟨by simp,by simp[sgL],_,rfl,aP (by repeat' (first| (with_reducible first|exact C3|refine C4 ?_ ?_)| ((with_reducible refine C0 ?_);exact CC)|fail))⟩,⟨by simp,by simp[sgL],_,rfl,aP (by repeat' (first| (with_reducible first|exact C3|refine C4 ?_ ?_)| ((with_reducible refine C0 ?_);first|exact CB rfl|exact CQ (by omega) rfl rfl (by rfl) rfl)|fail))⟩,⟨by simp,by simp[sgL],_,rfl,bP (aG bF _) rfl rfl⟩,trivial⟩ (by simp[sgL]))
 rintro⟨k,pk,u⟩ ⟨f1,f2,f3,f4⟩ KL hKL
 dsimp only at f1 f2 f3 f4
 by_cases hk:k<6
 ·repeat' (first| (with_reducible first| (refine hK _ _ _ ?_;clear hK K)| (refine hA ?_;clear hA hB A B)|refine Z1 ?_|refine Z2 ?_|refine Z3 fun KB hKB=> ?_|refine Z4 (by omega) ?_)| (first| (with_reducible first|refine Y2 fun K hK=> ?_|refine Y3 fun A B hA hB=> ?_)| (refine aX hl (by omega) (by omega) (by omega) rfl (fun x h1 h2=> ?_)))<;>(simp only[go_sem])|refine⟨by omega,?_⟩|fail)
  obtain⟨v,hv⟩:=aN1 (L:=[[.v (.int .i64 (-1))],[.v (.int .i64 0)],[.v (.int .i64 1)],[.v (.int .i64 16)],[.v (.int .i64 32)]]) (by simp) h1 (by simp;omega)
  simp only[go_sem,hv]
  repeat' (first| (with_reducible (refine hK _ _ _ ?_;clear hK K))| (with_reducible refine Y2 fun K hK=> ?_)<;>(simp only[go_sem];try simp (disch:=omega) only[Iw])| ((with_reducible refine Y0 ?_);simp only[AQ.then,AQ.blk])|refine⟨by omega,?_⟩| (with_reducible refine hKB _ _ _ ?_)|fail)
  exact hKL _ _ _ (k+1,pk+1,u.set k v) (by omega) (by(refine cR [12,13,14,0] (by omega) (by repeat' (first| (with_reducible first|exact C1|refine C2 ?_ ?_)| ((with_reducible refine C0 ?_);exact CE (by omega) rfl)| ((with_reducible refine D0 ?_);first|exact CA rfl|refine CJ ?_)|fail)) ⟨⟨by simp,by simp[sgL],_,rfl,bS (aV _ _)⟩,⟨by simp,by simp[sgL],_,rfl,aP (by repeat' (first| (with_reducible first|exact C3|refine C4 ?_ ?_)| ((with_reducible refine C0 ?_);exact CC)|fail))⟩,⟨by simp,by simp[sgL],_,rfl,aP (by repeat' (first| (with_reducible first|exact C3|refine C4 ?_ ?_)| ((with_reducible refine C0 ?_);first|exact CB rfl|exact CQ (by omega) rfl rfl (by rfl) rfl)|fail))⟩,⟨by simp,by simp[sgL],_,rfl,bP (aG bF _) rfl rfl⟩,trivial⟩ (by simp[sgL]))) ⟨by dsimp only;omega,by dsimp only;omega,by dsimp only;omega,by simp;omega⟩ (by dsimp only;omega)
 ·repeat' (first| (with_reducible first| (refine hK _ _ _ ?_;clear hK K)| (refine hA ?_;clear hA hB A B)| (refine hB ?_;clear hA hB A B)|refine Z1 ?_|refine Z2 ?_|refine Z3 fun KB hKB=> ?_|refine Z5 (by omega) ?_|refine Z6 (fun h=> ?_) fun h=> ?_|refine hKX _ _ _ ?_)| (first| (with_reducible first|refine Y2 fun K hK=> ?_|refine Y3 fun A B hA hB=> ?_)| (refine d6 hn hl (by omega) (by omega) rfl (fun p1 bb hp1 hp2 _=> ?_))| (refine aX hl (by omega) (by omega) (by omega) rfl (fun x h1 h2=> ?_))| (refine aV3 (n:=1) (.inr (by omega)) hl (by omega) (by omega) rfl (fun p2 w2 hm1 hm2 hm3=> ?_)))<;>(simp only[go_sem])| ((with_reducible first|refine Y8 ?_|refine Y9 ?_);try simp only[AQ.then,AQ.blk,reduceIte,Nat.reduceEqDiff])| ((with_reducible refine Y0 ?_);simp only[AQ.then,AQ.blk])| ((with_reducible refine Z8 (fun h=> ?_) (fun h=> ?_))<;>try subst h)|refine⟨by omega,?_⟩| (with_reducible refine hKB _ _ _ ?_)|fail)
  all_goals first
   | (obtain⟨v,hv⟩:=aN1 (L:=[[.v (.int .i64 (-2))],[.v (.int .i64 64)]]) (by simp) h1 (by simp;omega);simp only[hv];simp only[go_sem];repeat' (first| (with_reducible first| (refine hK _ _ _ ?_;clear hK K)|refine Z1 ?_)| (with_reducible refine Y2 fun K hK=> ?_)<;>(simp only[go_sem])| ((with_reducible refine Y8 ?_);try simp only[AQ.then,AQ.blk,reduceIte,Nat.reduceEqDiff])| ((with_reducible refine Y0 ?_);simp only[AQ.then,AQ.blk])|refine⟨by omega,?_⟩| (with_reducible refine hKB _ _ _ ?_)|fail))
   |skip
  all_goals first
   |exact aXA hQ (D:=u.drop 1) rfl rfl rfl (List.take_of_length_le (by simp;omega)) (by omega) (by simp;omega) (by omega)
   |exact aXA hQ (D:=u.set _ _) rfl rfl rfl (List.take_of_length_le (by simp;omega)) (by omega) (by simp;omega) (by omega)
   |exact aXA hQ (D:=u) rfl rfl rfl (List.take_of_length_le (by simp;omega)) (by omega) (by omega) (by omega)
   |fail
theorem aW5 {l:List Int} {p i:Nat} {n:Int} (hn:0<n∧n<9000) (hl:kZ l) (hp50:p+200<2^50) (hi:i<nx) (ho:H i=some (rdO l p)) (h: ∀(p':Nat) (w:List Int) (u:List Int),p≤p'→p'≤p+200→(w.length≤65∧u.length≤6)→K (dA [.isl (w.map aJ),.isl (u.map aJ)]) (H.set i (rdO l p')) nx):
 aB Tryz.prog aVK [dP 2 i,dI n] H nx K:=
 (aW7 l p n hn hl hp50).OU i rfl (gW ⟨DG (by omega) rfl,aE rfl,trivial⟩) hi ho (aV l p) fun r o' ⟨p',w,u,h1,h2,h3,h4,h5⟩=>by
  subst h1;subst h4;exact EW (A:=fun d=>K d (H.set i (rdO l p')) nx) rfl (h p' w u h2 h3 h5)
end
end Go.Proofs.YtegiblhkjfiooaaGreat
end
section
namespace Go.AM
structure aVX (s:TSt):Prop where
 words:s.words.length≤65
 holds:s.holds.length≤6
 asked:s.asked.length≤3
 wait:s.wait.length≤40
 done:s.done.length≤40
 told:s.told.length≤40
 data: ∀j∈s.wait++s.done++s.told,j.rsp.data.length≤8
theorem aVY {s:TSt} (h1:s.words.length≤65) (h2:s.holds.length≤6) (h3:s.asked.length≤3) (h4:s.wait.length≤40) (h5:s.done.length≤40) (h6:s.told.length≤40) (d3: ∀j∈s.wait,j.rsp.data.length≤8) (d4: ∀j∈s.done,j.rsp.data.length≤8) (d5: ∀j∈s.told,j.rsp.data.length≤8):aVX s:=
 ⟨h1,h2,h3,h4,h5,h6,fun j hj=>by
  simp only[List.mem_append] at hj
  rcases hj with(hj|hj)|hj
  ·exact d3 j hj
  ·exact d4 j hj
  ·exact d5 j hj⟩
theorem aWQ {l:List Job} {j:Job} (h: ∀x∈l,x.rsp.data.length≤8) (hj:j.rsp.data.length≤8): ∀x∈l++[j],x.rsp.data.length≤8:=fun x hx=>by
 rcases List.mem_append.1 hx with hx|hx
 ·exact h x hx
 ·simp at hx;subst hx;exact hj
theorem aVX.fit {s:TSt} (h:aVX s):aTQ s:=by
 obtain⟨h1,h2,h3,h4,h5,h6,h7⟩:=h
 exact⟨by omega,by omega,by omega,by omega,by omega,by omega,fun j hj=>by have:=h7 j hj;omega⟩
theorem BA.small {c:Cfg} {s:TSt} (hb:aQ c) (hs:BA c s):aVX s:=by
 have h:=hs.lens hb
 refine⟨by rw[hs.atm.wl];decide,by rw[hs.atm.hl];decide,by rw[hs.JI];decide,by omega,by omega,by omega,fun j hj=> ?_⟩
 simp only[List.mem_append] at hj
 rcases hj with(hj|hj)|hj
 ·rw[hs.P4 j hj];decide
 ·have:=(hs.R8 j (by simp[hj])).1.2.2.1;omega
 ·have:=(hs.R8 j (by simp[hj])).1.2.2.1;omega
end Go.AM
namespace Go.Proofs.YtegiblhkjfiooaaGreat
open Go Go.AM
set_option maxRecDepth 100000
set_option maxHeartbeats 8000000
section
variable {H : aA} {nx : Nat} {K : D → aA → Nat → Prop}
theorem aXI {H:aA} {e:Env} {t1 n1 id1 m1 t2 n2 id2 m2:Nat} {cs1 cs2:List D1} (he1:e t1= .one (.c (.ptr n1 id1 0 0))) (ho1:H id1=some ⟨n1,m1,[cs1]⟩) (hl1:cs1.length=n1) (he2:e t2= .one (.c (.ptr n2 id2 0 0))) (ho2:H id2=some ⟨n2,m2,[cs2]⟩) (hl2:cs2.length=n2):
 yT H e [.cell t1 n1 true,.cell t2 n2 true]=some (.tup [.agg cs1,.agg cs2]):=by
 subst hl1;subst hl2
 simp[yT,VP,he1,he2,tT,ho1,ho2,mkV,as1]
theorem aW9 {F:Nat→Prop} {b m cap:Nat} {l:List Job} {j:Job} {row:List D1} (h:H b=some ⟨5,m,l.map aS++[row]⟩) (hr:VK H F (aS j) row) (hF:F b) (hc:l.length+1≤cap):Frz H F (.isl ((l++[j]).map aS)) (.osl 5 b 0 (l.length+1) cap):=by
 refine QM hF h rfl (by simp) (by simp) hc fun i r' hr'=> ?_
 rw[Nat.zero_add]
 rw[List.map_append,List.getElem?_append] at hr'
 dsimp only
 rw[List.getElem?_append]
 by_cases hi:i<(l.map aS).length
 ·rw[if_pos hi] at hr' ⊢
  have:=aG dZ _ _ (List.mem_of_getElem? hr')
  exact⟨this.1,r',hr',amO this.2⟩
 ·rw[if_neg hi] at hr' ⊢
  rw[List.map_cons,List.map_nil,List.getElem?_singleton] at hr'
  rw[List.getElem?_singleton]
  split at hr'
  ·rename_i h0
   simp only[Option.some.injEq] at hr'
   subst hr'
   exact⟨rfl,row,if_pos h0,hr⟩
  ·cases hr'
theorem aWF:cJ Tryz.prog aVL Tryz.f98 aVI aVR:=cJ.mk Tryz.func98 (by kernel_rfl) aWB
theorem aWK {l:List Int} {p i:Nat} {n:Int} (hn:0<n∧n<9000) (hl:kZ l) (hp50:p+12000<2^50) (hi:i<nx) (ho:H i=some (rdO l p))
 (h: ∀H' nx' p' (c:Cfg) (s:TSt),nx≤nx'→jO c→aVX s→p≤p'→p'≤p+12000→H' i=some (rdO l p')→(∀id,id<nx→id≠i→H' id=H id)→K (.tup [.agg (cU c),.agg (eSt s)]) H' nx'):aB Tryz.prog aVL [dP 2 i,dI n] H nx K:=by
 refine aB.tW ?_
 refine aWF rfl fun Q hQ=> ?_
 unfold aVI
 have hA:bQ nx [i]:=AM.apart (by simp) (by simp;omega)
 simp only[bQ,eZ] at hA
 repeat' (first| (with_reducible first| (refine hK _ _ _ ?_;clear hK K)|refine Z1 ?_)| (first| (with_reducible refine Y2 fun K hK=> ?_)| (refine aRH (p:=p) hl (by omega) (by omega) (by omega) (by rw[aA.aC (by omega),aA.aC (by omega)];exact ho) (fun H1 nx1 pb c es b0 b1 b2 b3 b4 b5 c0 c1 c2 c3 c4 c5 be ce h1 h2 h3 h4 h5 h6 q0 aUV aUW aIG aII aUX aIH aUY u8 ⟨o0,o1,o2,o3,o4,o5⟩ oe qf=> ?_)))<;>(simp only[go_sem,Nat.add_assoc,Nat.left_eq_add,Nat.add_eq_left,hA,aU4])|fail)
 have hcf:=h2
 have hl36:=(azI h1 (arF c) h3).lens h1
 have hs:=azI h1 (arF c) h3
 have hsm:=hs.small h1
 generalize runM c st0 es=s at*
 have r1:H1 nx=some ⟨3,1,[[.osl 0 0 0 0 0,.osl 0 0 0 0 0,.osl 0 0 0 0 0]]⟩:=by rw[qf _ (by omega) (by omega),aA.aC (by omega)];exact aA.bH
 have r2:H1 (nx+1)=some ⟨6,1,[[.osl 0 0 0 0 0,.osl 0 0 0 0 0,.osl 0 0 0 0 0,.osl 0 0 0 0 0,.osl 0 0 0 0 0,.osl 0 0 0 0 0]]⟩:=by rw[qf _ (by omega) (by omega)];exact aA.bH
 have rf: ∀id,id<nx→id≠i→H1 id=H id:=fun id h1 h2=>by rw[qf id (by omega) h2,aA.aC (by omega),aA.aC (by omega)]
 generalize hG:aA.set _ (nx+9) _=G
 have hG:=hG.symm
 have q0:G i=some (rdO l pb):=by rw[hG,aA.aC (by omega),aA.aC (by omega)];exact q0
 have q1:G nx=some ⟨3,1,[[.osl 0 0 0 0 0,.osl 0 0 0 0 0,.osl 0 0 0 0 0]]⟩:=by rw[hG,aA.aC (by omega),aA.aC (by omega)];exact r1
 have q2:G (nx+1)=some ⟨6,1,[[.osl 0 0 0 0 0,.osl 0 0 0 0 0,.osl 0 0 0 0 0,.osl 0 0 0 0 0,.osl 0 0 0 0 0,.osl 0 0 0 0 0]]⟩:=by rw[hG,aA.aC (by omega),aA.aC (by omega)];exact r2
 have q3:G (nx+8)=some ⟨3,1,[cU c]⟩:=by rw[hG,aA.aC (by omega)];exact aA.bH
 have q4:G (nx+9)=some ⟨6,1,[[.osl 1 b0 0 s.words.length c0,.osl 1 b1 0 s.holds.length c1,.osl 1 b2 0 s.asked.length c2,.osl 5 b3 0 s.wait.length c3,.osl 5 b4 0 s.done.length c4,.osl 5 b5 0 s.told.length c5]]⟩:=by rw[hG];exact aA.bH
 obtain⟨m0,p0,e0,d0⟩:=o0.of (H':=G) (by rw[hG,aA.aC (by omega),aA.aC (by omega)])
 obtain⟨m1,p1,e1,d1⟩:=o1.of (H':=G) (by rw[hG,aA.aC (by omega),aA.aC (by omega)])
 obtain⟨m2,p2,e2,d2⟩:=o2.of (H':=G) (by rw[hG,aA.aC (by omega),aA.aC (by omega)])
 obtain⟨m3,p3,e3,d3⟩:=o3.of (H':=G) (by rw[hG,aA.aC (by omega),aA.aC (by omega)])
 obtain⟨m4,p4,e4,d4⟩:=o4.of (H':=G) (by rw[hG,aA.aC (by omega),aA.aC (by omega)])
 obtain⟨m5,p5,e5,d5⟩:=o5.of (H':=G) (by rw[hG,aA.aC (by omega),aA.aC (by omega)])
 have qf: ∀id,id<nx→id≠i→G id=H id:=fun id h1 h2=>by rw[hG,aA.aC (by omega),aA.aC (by omega)];exact rf id h1 h2
 clear hG r1 r2 rf o0 o1 o2 o3 o4 o5 oe
 have hal:=hs.JI
 obtain⟨s1,s2,s3,s4,s5,aIE,aXM⟩:=hsm
 have t3:s.wait.take s.wait.length=s.wait:=List.take_length
 have t4:s.done.take s.done.length=s.done:=List.take_length
 have aU1:s.told.take s.told.length=s.told:=List.take_length
 have hA1:bQ nx1 [i,nx,nx+1,nx+8,nx+9,b0,b1,b2,b3,b4,b5]:=AM.apart (by simp;omega) (by simp;omega)
 simp only[bQ,eZ] at hA1
 have hM: ∀(d k:Nat) (G:aA),msk (nx1+d) [k] G (nx+9)=G (nx+9):=fun d k G=>mk1 (by omega)
 have endT: ∀(aID:aA) (nx2:Nat) (c':Cfg) (s':TSt) (cells:List D1) (pb2:Nat) (F:Nat→Prop),nx1≤nx2→aID nx=some ⟨3,1,[cU c']⟩→aID (nx+1)=some ⟨6,1,[cells]⟩→cells.length=6→jO c'→aVX s'→p≤pb2→pb2≤p+12000→aID i=some (rdO l pb2)→(∀id,id<nx→id≠i→aID id=H id)→(∀j,F j→nx+10≤j)→VK aID F (eSt s') cells→
  ∀{e2:Env},e2 4= .one (.c (.ptr 3 nx 0 0))→e2 5= .one (.c (.ptr 6 (nx+1) 0 0))→Q .ret e2 aID nx2:=fun aID nx2 c' s' cells pb2 F g1 g2 g3 g4 g5 g6 g7 g8 g9 g10 g11 g12 e2 he1 he2=>by
  have hh:=h (without F aID) nx2 pb2 c' s' (by omega) g5 g6 g7 g8 (by rw[iI fun hj=>by have:=g11 _ hj;omega];exact g9) fun id h1 h2=>by rw[iI fun hj=>by have:=g11 _ hj;omega];exact g10 id h1 h2
  exact hQ _ _ _ _ _ (.inr rfl) (aXI (m1:=1) (m2:=1) he1 g2 rfl he2 g3 g4) ⟨_,_,F,ay7 (ayY (GW fun x hx=>List.all_eq_true.1 (azD c').2 x hx)) (ayY (A8 g12)),kS,hh⟩
 have hd3: ∀j∈s.wait,j.rsp.data.length≤8:=fun j hj=>aXM j (by simp[hj])
 have hd4: ∀j∈s.done,j.rsp.data.length≤8:=fun j hj=>aXM j (by simp[hj])
 have hd5: ∀j∈s.told,j.rsp.data.length≤8:=fun j hj=>aXM j (by simp[hj])
 have w0: ∀(aID:aA) (F:Nat→Prop),aID b0=some ⟨1,m0,s.words.map aJ⟩→F b0→Frz aID F (.isl (s.words.map aJ)) (.osl 1 b0 0 s.words.length c0):=fun aID F h1 h2=>ay5 (σ:=id) (nh:=0) rfl (bW bF h1 rfl e0 h2)
 have w1: ∀(aID:aA) (F:Nat→Prop),aID b1=some ⟨1,m1,s.holds.map aJ⟩→F b1→Frz aID F (.isl (s.holds.map aJ)) (.osl 1 b1 0 s.holds.length c1):=fun aID F h1 h2=>ay5 (σ:=id) (nh:=0) rfl (bW bF h1 rfl e1 h2)
 have w2: ∀(aID:aA) (F:Nat→Prop) (L:List Int) (k:Nat),L.length=k→k=s.asked.length→aID b2=some ⟨1,m2,L.map aJ⟩→F b2→Frz aID F (.isl (L.map aJ)) (.osl 1 b2 0 k c2):=fun aID F L k h0 h00 h1 h2=>ay5 (σ:=id) (nh:=0) rfl (bW bF h1 h0.symm (by omega) h2)
 have w3: ∀(aID:aA) (F:Nat→Prop),aID b3=some ⟨5,m3,s.wait.map aS⟩→F b3→Frz aID F (.isl (s.wait.map aS)) (.osl 5 b3 0 s.wait.length c3):=fun aID F h1 h2=>ay5 (σ:=id) (nh:=0) rfl (bW dZ h1 rfl e3 h2)
 have w4: ∀(aID:aA) (F:Nat→Prop),aID b4=some ⟨5,m4,s.done.map aS⟩→F b4→Frz aID F (.isl (s.done.map aS)) (.osl 5 b4 0 s.done.length c4):=fun aID F h1 h2=>ay5 (σ:=id) (nh:=0) rfl (bW dZ h1 rfl e4 h2)
 have w5: ∀(aID:aA) (F:Nat→Prop),aID b5=some ⟨5,m5,s.told.map aS⟩→F b5→Frz aID F (.isl (s.told.map aS)) (.osl 5 b5 0 s.told.length c5):=fun aID F h1 h2=>ay5 (σ:=id) (nh:=0) rfl (bW dZ h1 rfl e5 h2)
 refine d6 (p:=pb) hn hl (by omega) (by omega) q0 fun pc bb hp1 hp2 _=> ?_
 (try simp only[go_sem,Nat.add_assoc,Nat.left_eq_add,Nat.add_eq_left,q0,q1,q2,q3,q4,p0,p1,p2,p3,p4,p5,t3,t4,aU1,hA1,hM]);repeat' (first| (with_reducible first| (refine hK _ _ _ ?_;clear hK K)| (refine hA ?_;clear hA hB A B)| (refine hB ?_;clear hA hB A B)|refine Z1 ?_|refine Z2 ?_|refine Z3 fun KB hKB=> ?_|refine Z6 (fun h=> ?_) fun h=> ?_)| (first| (with_reducible first|refine Y2 fun K hK=> ?_|refine Y3 fun A B hA hB=> ?_)| (refine aX (p:=pc) hl (by omega) (by omega) (by omega) aA.bH (fun x h1 h2=> ?_)))<;>(simp only[go_sem,Nat.add_assoc,Nat.left_eq_add,Nat.add_eq_left,q0,q1,q2,q3,q4,p0,p1,p2,p3,p4,p5,t3,t4,aU1,hA1,hM])| ((with_reducible refine Y8 ?_);try simp only[AQ.then,AQ.blk,reduceIte,Nat.reduceEqDiff])| ((with_reducible refine Y0 ?_);simp only[AQ.then,AQ.blk])| ((with_reducible refine Z8 (fun h=> ?_) (fun h=> ?_))<;>try subst h)|refine⟨by omega,?_⟩| (with_reducible refine hKB _ _ _ ?_)|fail)
 ·refine aW5 (p:=pc+1) (n:=2) (by omega) hl (by omega) (by omega) aA.bH fun p6 w u hp3 hp4 ⟨hw1,hw2⟩=> ?_
  (try simp only[go_sem,Nat.add_assoc,Nat.left_eq_add,Nat.add_eq_left,q0,q1,q2,q3,q4,hA1,hM]);repeat' (first| (with_reducible first| (refine hK _ _ _ ?_;clear hK K)|refine Z1 ?_)| (with_reducible refine Y2 fun K hK=> ?_)<;>(simp only[go_sem,Nat.add_assoc,Nat.left_eq_add,Nat.add_eq_left,q0,q1,q2,q3,q4,hA1,hM])| ((with_reducible refine Y8 ?_);try simp only[AQ.then,AQ.blk,reduceIte,Nat.reduceEqDiff])| ((with_reducible refine Y0 ?_);simp only[AQ.then,AQ.blk])| (with_reducible refine hKB _ _ _ ?_)|fail)
  exact endT _ _ c ⟨w,u,s.asked,s.wait,s.done,s.told⟩ _ p6 (fun j=>j=b0∨j=b1∨j=b2∨j=b3∨j=b4∨j=b5) (by omega) (by simp only[aA.set,aA.del,Nat.add_assoc,Nat.reduceAdd,Nat.add_left_cancel_iff,Nat.reduceEqDiff,Nat.left_eq_add,Nat.add_eq_left,if_true,if_false,hA1,q3];done) aA.bH rfl hcf (aVY hw1 hw2 s3 s4 s5 aIE hd3 hd4 hd5) (by omega) (by omega) (by simp only[aA.set,aA.del,Nat.add_assoc,Nat.reduceAdd,Nat.add_left_cancel_iff,Nat.reduceEqDiff,Nat.left_eq_add,Nat.add_eq_left,if_true,if_false,hA1];done) (fun id h1 h2=>by rw[aA.aC (by omega),aA.aC (by omega),aA.aC (by omega),aA.aC h2];exact qf id h1 h2) (fun j hj=>by omega) (fO (.same _ rfl) (fO (.same _ rfl) (fO (w2 _ _ s.asked _ rfl rfl (by simp only[aA.set,aA.del,Nat.add_assoc,Nat.reduceAdd,Nat.add_left_cancel_iff,Nat.reduceEqDiff,Nat.left_eq_add,Nat.add_eq_left,if_true,if_false,hA1,p2];done) (by simp)) (fO (w3 _ _ (by simp only[aA.set,aA.del,Nat.add_assoc,Nat.reduceAdd,Nat.add_left_cancel_iff,Nat.reduceEqDiff,Nat.left_eq_add,Nat.add_eq_left,if_true,if_false,hA1,p3];done) (by simp)) (fO (w4 _ _ (by simp only[aA.set,aA.del,Nat.add_assoc,Nat.reduceAdd,Nat.add_left_cancel_iff,Nat.reduceEqDiff,Nat.left_eq_add,Nat.add_eq_left,if_true,if_false,hA1,p4];done) (by simp)) (fO (w5 _ _ (by simp only[aA.set,aA.del,Nat.add_assoc,Nat.reduceAdd,Nat.add_left_cancel_iff,Nat.reduceEqDiff,Nat.left_eq_add,Nat.add_eq_left,if_true,if_false,hA1,p5];done) (by simp)) LH)))))) rfl rfl
 ·refine aX (p:=pc+1) hl (by omega) (by omega) (by omega) aA.bH fun y hy1 hy2=> ?_
  (try simp only[go_sem,Nat.add_assoc,Nat.left_eq_add,Nat.add_eq_left,q0,q1,q2,q3,q4,hA1,hM]);skip
  generalize aU3:dT (nx1+9) [4] _ (msk (nx1+9) [4] G)=U
  have kq1:U nx=some ⟨3,1,[[.osl 0 0 0 0 0,.osl 0 0 0 0 0,.osl 0 0 0 0 0]]⟩:=by rw[←aU3,um1 (by omega),mk1 (by omega)];exact q1
  have kq2:U (nx+1)=some ⟨6,1,[[.osl 0 0 0 0 0,.osl 0 0 0 0 0,.osl 0 0 0 0 0,.osl 0 0 0 0 0,.osl 0 0 0 0 0,.osl 0 0 0 0 0]]⟩:=by rw[←aU3,um1 (by omega),mk1 (by omega)];exact q2
  have kq3:U (nx+8)=some ⟨3,1,[cU c]⟩:=by rw[←aU3,um1 (by omega),mk1 (by omega)];exact q3
  have kq4:U (nx+9)=some ⟨6,1,[[.osl 1 b0 0 s.words.length c0,.osl 1 b1 0 s.holds.length c1,.osl 1 b2 0 s.asked.length c2,.osl 5 b3 0 s.wait.length c3,.osl 5 b4 0 s.done.length c4,.osl 5 b5 0 s.told.length c5]]⟩:=by rw[←aU3,um1 (by omega),mk1 (by omega)];exact q4
  have kp0:U b0=some ⟨1,m0,s.words.map aJ⟩:=by rw[←aU3,um1 (by omega),mk1 (by omega)];exact p0
  have kp1:U b1=some ⟨1,m1,s.holds.map aJ⟩:=by rw[←aU3,um1 (by omega),mk1 (by omega)];exact p1
  have kp2:U b2=some ⟨1,m2,s.asked.map aJ⟩:=by rw[←aU3,um1 (by omega),mk1 (by omega)];exact p2
  have kp3:U b3=some ⟨5,m3,s.wait.map aS⟩:=by rw[←aU3,um1 (by omega),mk1 (by omega)];exact p3
  have kp4:U b4=some ⟨5,m4,s.done.map aS⟩:=by rw[←aU3,um1 (by omega),mk1 (by omega)];exact p4
  have kp5:U b5=some ⟨5,m5,s.told.map aS⟩:=by rw[←aU3,um1 (by omega),mk1 (by omega)];exact p5
  have kqf: ∀id,id<nx→id≠i→U id=H id:=fun id h1 h2=>by rw[←aU3,um1 (by omega),mk1 (by omega)];exact qf id h1 h2
  have k6:U (nx1+9+4)=some ⟨1,3,[[.v (.int .i64 (-1))],[.v (.int .i64 13)],[.v (.int .i64 1)]]⟩:=by rw[←aU3,aH6];exact aA.bH
  clear aU3 q0 q1 q2 q3 q4 p0 p1 p2 p3 p4 p5 qf
  refine⟨fun _=>by rw[kq4];rfl,?_⟩
  refine aX (p:=pc+2) hl (by omega) (by omega) (by omega) aA.bH fun z hz1 hz2=> ?_
  (try simp only[go_sem,Nat.add_assoc,Nat.left_eq_add,Nat.add_eq_left,kq4,hA1,hM]);skip
  generalize aU3:dT (nx1+9) [4] _ (msk (nx1+9) [4] U)=V
  have tq1:V nx=some ⟨3,1,[[.osl 0 0 0 0 0,.osl 0 0 0 0 0,.osl 0 0 0 0 0]]⟩:=by rw[←aU3,um1 (by omega),mk1 (by omega)];exact kq1
  have tq2:V (nx+1)=some ⟨6,1,[[.osl 0 0 0 0 0,.osl 0 0 0 0 0,.osl 0 0 0 0 0,.osl 0 0 0 0 0,.osl 0 0 0 0 0,.osl 0 0 0 0 0]]⟩:=by rw[←aU3,um1 (by omega),mk1 (by omega)];exact kq2
  have tq3:V (nx+8)=some ⟨3,1,[cU c]⟩:=by rw[←aU3,um1 (by omega),mk1 (by omega)];exact kq3
  have tq4:V (nx+9)=some ⟨6,1,[[.osl 1 b0 0 s.words.length c0,.osl 1 b1 0 s.holds.length c1,.osl 1 b2 0 s.asked.length c2,.osl 5 b3 0 s.wait.length c3,.osl 5 b4 0 s.done.length c4,.osl 5 b5 0 s.told.length c5]]⟩:=by rw[←aU3,um1 (by omega),mk1 (by omega)];exact kq4
  have tp0:V b0=some ⟨1,m0,s.words.map aJ⟩:=by rw[←aU3,um1 (by omega),mk1 (by omega)];exact kp0
  have tp1:V b1=some ⟨1,m1,s.holds.map aJ⟩:=by rw[←aU3,um1 (by omega),mk1 (by omega)];exact kp1
  have tp2:V b2=some ⟨1,m2,s.asked.map aJ⟩:=by rw[←aU3,um1 (by omega),mk1 (by omega)];exact kp2
  have tp3:V b3=some ⟨5,m3,s.wait.map aS⟩:=by rw[←aU3,um1 (by omega),mk1 (by omega)];exact kp3
  have tp4:V b4=some ⟨5,m4,s.done.map aS⟩:=by rw[←aU3,um1 (by omega),mk1 (by omega)];exact kp4
  have tp5:V b5=some ⟨5,m5,s.told.map aS⟩:=by rw[←aU3,um1 (by omega),mk1 (by omega)];exact kp5
  have tqf: ∀id,id<nx→id≠i→V id=H id:=fun id h1 h2=>by rw[←aU3,um1 (by omega),mk1 (by omega)];exact kqf id h1 h2
  have aU2:V (nx1+13)=some ⟨1,3,[[.v (.int .i64 (-1))],[.v (.int .i64 13)],[.v (.int .i64 1)]]⟩:=by
   rw[show nx1+13=nx1+9+4 from rfl,←aU3,aH6,aA.aC (by omega)];exact k6
  clear aU3 kq1 kq2 kq3 kq4 kp0 kp1 kp2 kp3 kp4 kp5 k6 kqf
  refine⟨fun _=>by rw[tq4];rfl,by omega,?_⟩
  obtain⟨v,hv⟩:=aN1 (L:=[[.v (.int .i64 (-1))],[.v (.int .i64 13)],[.v (.int .i64 1)]]) (by simp) hz1 (by simp;omega)
  (try simp only[go_sem,Nat.add_assoc,Nat.left_eq_add,Nat.add_eq_left,tq1,tq2,tq3,tq4,tp2,aU2,hv,hA1,hM,hal]);repeat' (first| (with_reducible first| (refine hK _ _ _ ?_;clear hK K)|refine Z1 ?_)| (with_reducible refine Y2 fun K hK=> ?_)<;>(simp only[go_sem,Nat.add_assoc,Nat.left_eq_add,Nat.add_eq_left,tq1,tq2,tq3,tq4,tp2,aU2,hv,hA1,hM,hal])| ((with_reducible refine Y8 ?_);try simp only[AQ.then,AQ.blk,reduceIte,Nat.reduceEqDiff])| ((with_reducible refine Y0 ?_);simp only[AQ.then,AQ.blk])|refine⟨by omega,?_⟩| (with_reducible refine hKB _ _ _ ?_)|fail)
  exact endT _ _ c ⟨s.words,s.holds,s.asked.set y.toNat v,s.wait,s.done,s.told⟩ _ (pc+3) (fun j=>j=b0∨j=b1∨j=b2∨j=b3∨j=b4∨j=b5) (by omega) (by simp only[aA.set,aA.del,Nat.add_assoc,Nat.reduceAdd,Nat.add_left_cancel_iff,Nat.reduceEqDiff,Nat.left_eq_add,Nat.add_eq_left,if_true,if_false,hA1,tq3];done) aA.bH rfl hcf (aVY s1 s2 (by simp;omega) s4 s5 aIE hd3 hd4 hd5) (by omega) (by omega) (by simp only[aA.set,aA.del,Nat.add_assoc,Nat.reduceAdd,Nat.add_left_cancel_iff,Nat.reduceEqDiff,Nat.left_eq_add,Nat.add_eq_left,if_true,if_false,hA1];done) (fun id h1 h2=>by rw[aA.aC (by omega),aA.aC (by omega),aA.aC (by omega),aA.aC h2];exact tqf id h1 h2) (fun j hj=>by omega) (fO (w0 _ _ (by simp only[aA.set,aA.del,Nat.add_assoc,Nat.reduceAdd,Nat.add_left_cancel_iff,Nat.reduceEqDiff,Nat.left_eq_add,Nat.add_eq_left,if_true,if_false,hA1,tp0];done) (by simp)) (fO (w1 _ _ (by simp only[aA.set,aA.del,Nat.add_assoc,Nat.reduceAdd,Nat.add_left_cancel_iff,Nat.reduceEqDiff,Nat.left_eq_add,Nat.add_eq_left,if_true,if_false,hA1,tp1];done) (by simp)) (fO (w2 _ _ (s.asked.set y.toNat v) _ (by simp;omega) hal.symm (by simp only[aA.set,aA.del,Nat.add_assoc,Nat.reduceAdd,Nat.add_left_cancel_iff,Nat.reduceEqDiff,Nat.left_eq_add,Nat.add_eq_left,if_true,if_false,hA1];done) (by simp)) (fO (w3 _ _ (by simp only[aA.set,aA.del,Nat.add_assoc,Nat.reduceAdd,Nat.add_left_cancel_iff,Nat.reduceEqDiff,Nat.left_eq_add,Nat.add_eq_left,if_true,if_false,hA1,tp3];done) (by simp)) (fO (w4 _ _ (by simp only[aA.set,aA.del,Nat.add_assoc,Nat.reduceAdd,Nat.add_left_cancel_iff,Nat.reduceEqDiff,Nat.left_eq_add,Nat.add_eq_left,if_true,if_false,hA1,tp4];done) (by simp)) (fO (w5 _ _ (by simp only[aA.set,aA.del,Nat.add_assoc,Nat.reduceAdd,Nat.add_left_cancel_iff,Nat.reduceEqDiff,Nat.left_eq_add,Nat.add_eq_left,if_true,if_false,hA1,tp5];done) (by simp)) LH)))))) rfl rfl
 ·refine aX (p:=pc+1) hl (by omega) (by omega) (by omega) aA.bH fun y hy1 hy2=> ?_
  (try simp only[go_sem,Nat.add_assoc,Nat.left_eq_add,Nat.add_eq_left,q0,q1,q2,q3,q4,p3,t3,hA1,hM]);repeat' (first| (with_reducible first| (refine hK _ _ _ ?_;clear hK K)|refine Z1 ?_|refine fun(cap:Nat) (hcap:_≤cap)=> ?_|refine fun(hcp:_≤cap)=> ?_)| (first| (with_reducible refine Y2 fun K hK=> ?_)| (refine aX (p:=pc+2) hl (by omega) (by omega) (by omega) aA.bH (fun z hz1 hz2=> ?_)))<;>(simp only[go_sem,Nat.add_assoc,Nat.left_eq_add,Nat.add_eq_left,q0,q1,q2,q3,q4,p3,t3,hA1,hM];try simp (disch:=omega) only[Iw])| ((with_reducible refine Y8 ?_);try simp only[AQ.then,AQ.blk,reduceIte,Nat.reduceEqDiff])| ((with_reducible refine Y0 ?_);simp only[AQ.then,AQ.blk])|refine⟨by omega,?_⟩| (with_reducible refine hKB _ _ _ ?_)|fail)
  exact endT _ _ c ⟨s.words,s.holds,s.asked,s.wait++[⟨y-1,z,oW⟩],s.done,s.told⟩ _ (pc+3) (fun j=>j=b0∨j=b1∨j=b2∨j=b3∨j=b4∨j=b5∨j=nx1+20) (by omega) (by simp only[aA.set,aA.del,Nat.add_assoc,Nat.reduceAdd,Nat.add_left_cancel_iff,Nat.reduceEqDiff,Nat.left_eq_add,Nat.add_eq_left,if_true,if_false,hA1,q3];done) aA.bH rfl hcf (aVY s1 s2 s3 (by simp;omega) s5 aIE (aWQ hd3 (by simp[oW])) hd4 hd5) (by omega) (by omega) (by simp only[aA.set,aA.del,Nat.add_assoc,Nat.reduceAdd,Nat.add_left_cancel_iff,Nat.reduceEqDiff,Nat.left_eq_add,Nat.add_eq_left,if_true,if_false,hA1];done) (fun id h1 h2=>by rw[aA.aC (by omega),aA.aC (by omega),aA.aC (by omega),aA.aC (by omega),aA.aC (by omega),aA.aC h2,aA.jG (by omega)];exact qf id h1 h2) (fun j hj=>by omega) (fO (w0 _ _ (by simp only[aA.set,aA.del,Nat.add_assoc,Nat.reduceAdd,Nat.add_left_cancel_iff,Nat.reduceEqDiff,Nat.left_eq_add,Nat.add_eq_left,if_true,if_false,hA1,p0];done) (by simp)) (fO (w1 _ _ (by simp only[aA.set,aA.del,Nat.add_assoc,Nat.reduceAdd,Nat.add_left_cancel_iff,Nat.reduceEqDiff,Nat.left_eq_add,Nat.add_eq_left,if_true,if_false,hA1,p1];done) (by simp)) (fO (w2 _ _ s.asked _ rfl rfl (by simp only[aA.set,aA.del,Nat.add_assoc,Nat.reduceAdd,Nat.add_left_cancel_iff,Nat.reduceEqDiff,Nat.left_eq_add,Nat.add_eq_left,if_true,if_false,hA1,p2];done) (by simp)) (fO (aW9 (m:=cap) (row:=[cI (y-1),cI z,cI 0,cI 0,.osl 0 0 0 0 0]) (j:=⟨y-1,z,oW⟩) (by simp only[aA.set,aA.del,Nat.add_assoc,Nat.reduceAdd,Nat.add_left_cancel_iff,Nat.reduceEqDiff,Nat.left_eq_add,Nat.add_eq_left,if_true,if_false,hA1];done) (fO (.same _ rfl) (fO (.same _ rfl) (fO (.same _ rfl) (fO (.same _ rfl) (fO (.nil _ _ _) LH))))) (by simp) (by omega)) (fO (w4 _ _ (by simp only[aA.set,aA.del,Nat.add_assoc,Nat.reduceAdd,Nat.add_left_cancel_iff,Nat.reduceEqDiff,Nat.left_eq_add,Nat.add_eq_left,if_true,if_false,hA1,p4];done) (by simp)) (fO (w5 _ _ (by simp only[aA.set,aA.del,Nat.add_assoc,Nat.reduceAdd,Nat.add_left_cancel_iff,Nat.reduceEqDiff,Nat.left_eq_add,Nat.add_eq_left,if_true,if_false,hA1,p5];done) (by simp)) LH)))))) rfl rfl
 ·refine aX (p:=pc+1) hl (by omega) (by omega) (by omega) aA.bH fun y hy1 hy2=> ?_
  (try simp only[go_sem,Nat.add_assoc,Nat.left_eq_add,Nat.add_eq_left,q0,q1,q2,q3,q4,p4,t4,hA1,hM]);repeat' (first| (with_reducible first| (refine hK _ _ _ ?_;clear hK K)|refine Z1 ?_|refine fun(cap:Nat) (hcap:_≤cap)=> ?_|refine fun(hcp:_≤cap)=> ?_)| (first| (with_reducible refine Y2 fun K hK=> ?_)| (refine aX (p:=pc+2) hl (by omega) (by omega) (by omega) aA.bH (fun z hz1 hz2=> ?_))| (refine aV4 (n:=3) (p:=pc+3) (by omega) hl (by omega) (by omega) aA.bH (fun p6 rs hp3 hp4 hrs=> ?_)))<;>(simp only[go_sem,Nat.add_assoc,Nat.left_eq_add,Nat.add_eq_left,q0,q1,q2,q3,q4,p4,t4,hA1,hM];try simp (disch:=omega) only[Iw])| ((with_reducible refine Y8 ?_);try simp only[AQ.then,AQ.blk,reduceIte,Nat.reduceEqDiff])| ((with_reducible refine Y0 ?_);simp only[AQ.then,AQ.blk])|refine⟨by omega,?_⟩| (with_reducible refine hKB _ _ _ ?_)|fail)
  exact endT _ _ c ⟨s.words,s.holds,s.asked,s.wait,s.done++[⟨y-1,z,rs⟩],s.told⟩ _ p6 (fun j=>j=b0∨j=b1∨j=b2∨j=b3∨j=b4∨j=b5∨j=nx1+24) (by omega) (by simp only[aA.set,aA.del,Nat.add_assoc,Nat.reduceAdd,Nat.add_left_cancel_iff,Nat.reduceEqDiff,Nat.left_eq_add,Nat.add_eq_left,if_true,if_false,hA1,q3];done) aA.bH rfl hcf (aVY s1 s2 s3 s4 (by simp;omega) aIE hd3 (aWQ hd4 hrs) hd5) (by omega) (by omega) (by simp only[aA.set,aA.del,Nat.add_assoc,Nat.reduceAdd,Nat.add_left_cancel_iff,Nat.reduceEqDiff,Nat.left_eq_add,Nat.add_eq_left,if_true,if_false,hA1];done) (fun id h1 h2=>by rw[aA.aC (by omega),aA.aC (by omega),aA.aC (by omega),aA.aC (by omega),aA.aC (by omega),aA.aC h2,aA.jG (by omega)];exact qf id h1 h2) (fun j hj=>by omega) (fO (w0 _ _ (by simp only[aA.set,aA.del,Nat.add_assoc,Nat.reduceAdd,Nat.add_left_cancel_iff,Nat.reduceEqDiff,Nat.left_eq_add,Nat.add_eq_left,if_true,if_false,hA1,p0];done) (by simp)) (fO (w1 _ _ (by simp only[aA.set,aA.del,Nat.add_assoc,Nat.reduceAdd,Nat.add_left_cancel_iff,Nat.reduceEqDiff,Nat.left_eq_add,Nat.add_eq_left,if_true,if_false,hA1,p1];done) (by simp)) (fO (w2 _ _ s.asked _ rfl rfl (by simp only[aA.set,aA.del,Nat.add_assoc,Nat.reduceAdd,Nat.add_left_cancel_iff,Nat.reduceEqDiff,Nat.left_eq_add,Nat.add_eq_left,if_true,if_false,hA1,p2];done) (by simp)) (fO (w3 _ _ (by simp only[aA.set,aA.del,Nat.add_assoc,Nat.reduceAdd,Nat.add_left_cancel_iff,Nat.reduceEqDiff,Nat.left_eq_add,Nat.add_eq_left,if_true,if_false,hA1,p3];done) (by simp)) (fO (aW9 (m:=cap) (row:=cI (y-1)::cI z::tG rs) (j:=⟨y-1,z,rs⟩) (by simp only[aA.set,aA.del,Nat.add_assoc,Nat.reduceAdd,Nat.add_left_cancel_iff,Nat.reduceEqDiff,Nat.left_eq_add,Nat.add_eq_left,if_true,if_false,hA1];done) (amO fun x hx=>List.all_eq_true.1 (dZ (⟨y-1,z,rs⟩:Job)).2 x hx) (by simp) (by omega)) (fO (w5 _ _ (by simp only[aA.set,aA.del,Nat.add_assoc,Nat.reduceAdd,Nat.add_left_cancel_iff,Nat.reduceEqDiff,Nat.left_eq_add,Nat.add_eq_left,if_true,if_false,hA1,p5];done) (by simp)) LH)))))) rfl rfl
 ·refine aX (p:=pc+1) hl (by omega) (by omega) (by omega) aA.bH fun y hy1 hy2=> ?_
  (try simp only[go_sem,Nat.add_assoc,Nat.left_eq_add,Nat.add_eq_left,q0,q1,q2,q3,q4,p5,aU1,hA1,hM]);repeat' (first| (with_reducible first| (refine hK _ _ _ ?_;clear hK K)|refine Z1 ?_|refine fun(cap:Nat) (hcap:_≤cap)=> ?_|refine fun(hcp:_≤cap)=> ?_)| (first| (with_reducible refine Y2 fun K hK=> ?_)| (refine aX (p:=pc+2) hl (by omega) (by omega) (by omega) aA.bH (fun z hz1 hz2=> ?_))| (refine aV4 (n:=3) (p:=pc+3) (by omega) hl (by omega) (by omega) aA.bH (fun p6 rs hp3 hp4 hrs=> ?_)))<;>(simp only[go_sem,Nat.add_assoc,Nat.left_eq_add,Nat.add_eq_left,q0,q1,q2,q3,q4,p5,aU1,hA1,hM];try simp (disch:=omega) only[Iw])| ((with_reducible refine Y8 ?_);try simp only[AQ.then,AQ.blk,reduceIte,Nat.reduceEqDiff])| ((with_reducible refine Y0 ?_);simp only[AQ.then,AQ.blk])|refine⟨by omega,?_⟩| (with_reducible refine hKB _ _ _ ?_)|fail)
  exact endT _ _ c ⟨s.words,s.holds,s.asked,s.wait,s.done,s.told++[⟨y-1,z,rs⟩]⟩ _ p6 (fun j=>j=b0∨j=b1∨j=b2∨j=b3∨j=b4∨j=b5∨j=nx1+26) (by omega) (by simp only[aA.set,aA.del,Nat.add_assoc,Nat.reduceAdd,Nat.add_left_cancel_iff,Nat.reduceEqDiff,Nat.left_eq_add,Nat.add_eq_left,if_true,if_false,hA1,q3];done) aA.bH rfl hcf (aVY s1 s2 s3 s4 s5 (by simp;omega) hd3 hd4 (aWQ hd5 hrs)) (by omega) (by omega) (by simp only[aA.set,aA.del,Nat.add_assoc,Nat.reduceAdd,Nat.add_left_cancel_iff,Nat.reduceEqDiff,Nat.left_eq_add,Nat.add_eq_left,if_true,if_false,hA1];done) (fun id h1 h2=>by rw[aA.aC (by omega),aA.aC (by omega),aA.aC (by omega),aA.aC (by omega),aA.aC (by omega),aA.aC h2,aA.jG (by omega)];exact qf id h1 h2) (fun j hj=>by omega) (fO (w0 _ _ (by simp only[aA.set,aA.del,Nat.add_assoc,Nat.reduceAdd,Nat.add_left_cancel_iff,Nat.reduceEqDiff,Nat.left_eq_add,Nat.add_eq_left,if_true,if_false,hA1,p0];done) (by simp)) (fO (w1 _ _ (by simp only[aA.set,aA.del,Nat.add_assoc,Nat.reduceAdd,Nat.add_left_cancel_iff,Nat.reduceEqDiff,Nat.left_eq_add,Nat.add_eq_left,if_true,if_false,hA1,p1];done) (by simp)) (fO (w2 _ _ s.asked _ rfl rfl (by simp only[aA.set,aA.del,Nat.add_assoc,Nat.reduceAdd,Nat.add_left_cancel_iff,Nat.reduceEqDiff,Nat.left_eq_add,Nat.add_eq_left,if_true,if_false,hA1,p2];done) (by simp)) (fO (w3 _ _ (by simp only[aA.set,aA.del,Nat.add_assoc,Nat.reduceAdd,Nat.add_left_cancel_iff,Nat.reduceEqDiff,Nat.left_eq_add,Nat.add_eq_left,if_true,if_false,hA1,p3];done) (by simp)) (fO (w4 _ _ (by simp only[aA.set,aA.del,Nat.add_assoc,Nat.reduceAdd,Nat.add_left_cancel_iff,Nat.reduceEqDiff,Nat.left_eq_add,Nat.add_eq_left,if_true,if_false,hA1,p4];done) (by simp)) (fO (aW9 (m:=cap) (row:=cI (y-1)::cI z::tG rs) (j:=⟨y-1,z,rs⟩) (by simp only[aA.set,aA.del,Nat.add_assoc,Nat.reduceAdd,Nat.add_left_cancel_iff,Nat.reduceEqDiff,Nat.left_eq_add,Nat.add_eq_left,if_true,if_false,hA1];done) (amO fun x hx=>List.all_eq_true.1 (dZ (⟨y-1,z,rs⟩:Job)).2 x hx) (by simp) (by omega)) LH)))))) rfl rfl
 ·exact endT _ _ c ⟨s.words,s.holds,s.asked.drop 1,s.wait,s.done,s.told⟩ _ (pc+1) (fun j=>j=b0∨j=b1∨j=b2∨j=b3∨j=b4∨j=b5) (by omega) (by simp only[aA.set,aA.del,Nat.add_assoc,Nat.reduceAdd,Nat.add_left_cancel_iff,Nat.reduceEqDiff,Nat.left_eq_add,Nat.add_eq_left,if_true,if_false,hA1,q3];done) aA.bH rfl hcf (aVY s1 s2 (by simp;omega) s4 s5 aIE hd3 hd4 hd5) (by omega) (by omega) (by simp only[aA.set,aA.del,Nat.add_assoc,Nat.reduceAdd,Nat.add_left_cancel_iff,Nat.reduceEqDiff,Nat.left_eq_add,Nat.add_eq_left,if_true,if_false,hA1];done) (fun id h1 h2=>by rw[aA.aC (by omega),aA.aC (by omega),aA.aC (by omega),aA.aC h2];exact qf id h1 h2) (fun j hj=>by omega) (fO (w0 _ _ (by simp only[aA.set,aA.del,Nat.add_assoc,Nat.reduceAdd,Nat.add_left_cancel_iff,Nat.reduceEqDiff,Nat.left_eq_add,Nat.add_eq_left,if_true,if_false,hA1,p0];done) (by simp)) (fO (w1 _ _ (by simp only[aA.set,aA.del,Nat.add_assoc,Nat.reduceAdd,Nat.add_left_cancel_iff,Nat.reduceEqDiff,Nat.left_eq_add,Nat.add_eq_left,if_true,if_false,hA1,p1];done) (by simp)) (fO (ay5 (σ:=id) (nh:=0) rfl (aTY (aG bF _) (by simp) (by simp) (show aA.set _ (nx+1) _ b2=some ⟨1,m2,s.asked.map aJ⟩ from (by simp only[aA.set,aA.del,Nat.add_assoc,Nat.reduceAdd,Nat.add_left_cancel_iff,Nat.reduceEqDiff,Nat.left_eq_add,Nat.add_eq_left,if_true,if_false,hA1,p2];done)) rfl (by simp;omega) (by rw[List.take_of_length_le (by simp),List.map_drop]) (by simp;omega))) (fO (w3 _ _ (by simp only[aA.set,aA.del,Nat.add_assoc,Nat.reduceAdd,Nat.add_left_cancel_iff,Nat.reduceEqDiff,Nat.left_eq_add,Nat.add_eq_left,if_true,if_false,hA1,p3];done) (by simp)) (fO (w4 _ _ (by simp only[aA.set,aA.del,Nat.add_assoc,Nat.reduceAdd,Nat.add_left_cancel_iff,Nat.reduceEqDiff,Nat.left_eq_add,Nat.add_eq_left,if_true,if_false,hA1,p4];done) (by simp)) (fO (w5 _ _ (by simp only[aA.set,aA.del,Nat.add_assoc,Nat.reduceAdd,Nat.add_left_cancel_iff,Nat.reduceEqDiff,Nat.left_eq_add,Nat.add_eq_left,if_true,if_false,hA1,p5];done) (by simp)) LH)))))) rfl rfl
 ·refine aQA (n:=1) (p:=pc+1) (by omega) hl (by omega) (by omega) aA.bH fun H2 nx2 p6 c' v1 v2 aXN v4 aXO v6=> ?_
  have tq1:H2 nx=some ⟨3,1,[[.osl 0 0 0 0 0,.osl 0 0 0 0 0,.osl 0 0 0 0 0]]⟩:=by rw[v6 _ (by omega) (by omega),aA.aC (by omega)];exact q1
  have tq2:H2 (nx+1)=some ⟨6,1,[[.osl 0 0 0 0 0,.osl 0 0 0 0 0,.osl 0 0 0 0 0,.osl 0 0 0 0 0,.osl 0 0 0 0 0,.osl 0 0 0 0 0]]⟩:=by rw[v6 _ (by omega) (by omega),aA.aC (by omega)];exact q2
  have tq3:H2 (nx+8)=some ⟨3,1,[cU c]⟩:=by rw[v6 _ (by omega) (by omega),aA.aC (by omega)];exact q3
  have tq4:H2 (nx+9)=some ⟨6,1,[[.osl 1 b0 0 s.words.length c0,.osl 1 b1 0 s.holds.length c1,.osl 1 b2 0 s.asked.length c2,.osl 5 b3 0 s.wait.length c3,.osl 5 b4 0 s.done.length c4,.osl 5 b5 0 s.told.length c5]]⟩:=by rw[v6 _ (by omega) (by omega),aA.aC (by omega)];exact q4
  have tp0:H2 b0=some ⟨1,m0,s.words.map aJ⟩:=by rw[v6 _ (by omega) (by omega),aA.aC (by omega)];exact p0
  have tp1:H2 b1=some ⟨1,m1,s.holds.map aJ⟩:=by rw[v6 _ (by omega) (by omega),aA.aC (by omega)];exact p1
  have tp2:H2 b2=some ⟨1,m2,s.asked.map aJ⟩:=by rw[v6 _ (by omega) (by omega),aA.aC (by omega)];exact p2
  have tp3:H2 b3=some ⟨5,m3,s.wait.map aS⟩:=by rw[v6 _ (by omega) (by omega),aA.aC (by omega)];exact p3
  have tp4:H2 b4=some ⟨5,m4,s.done.map aS⟩:=by rw[v6 _ (by omega) (by omega),aA.aC (by omega)];exact p4
  have tp5:H2 b5=some ⟨5,m5,s.told.map aS⟩:=by rw[v6 _ (by omega) (by omega),aA.aC (by omega)];exact p5
  have tqf: ∀id,id<nx→id≠i→H2 id=H id:=fun id h1 h2=>by rw[v6 _ (by omega) h2,aA.aC h2];exact qf id h1 h2
  have hA2:bQ nx2 [i,nx,nx+1,nx+8,nx+9,b0,b1,b2,b3,b4,b5]:=AM.apart (by simp;omega) (by simp;omega)
  simp only[bQ,eZ] at hA2
  (try simp only[go_sem,Nat.add_assoc,Nat.left_eq_add,Nat.add_eq_left,tq1,tq2,tq3,tq4,hA2]);repeat' (first| (with_reducible first| (refine hK _ _ _ ?_;clear hK K)|refine Z1 ?_)| (with_reducible refine Y2 fun K hK=> ?_)<;>(simp only[go_sem,Nat.add_assoc,Nat.left_eq_add,Nat.add_eq_left,tq1,tq2,tq3,tq4,hA2])| ((with_reducible refine Y8 ?_);try simp only[AQ.then,AQ.blk,reduceIte,Nat.reduceEqDiff])| ((with_reducible refine Y0 ?_);simp only[AQ.then,AQ.blk])| (with_reducible refine hKB _ _ _ ?_)|fail)
  exact endT _ _ c' s _ p6 (fun j=>j=b0∨j=b1∨j=b2∨j=b3∨j=b4∨j=b5) (by omega) (by simp only[aA.set,aA.del,Nat.add_assoc,Nat.reduceAdd,Nat.add_left_cancel_iff,Nat.reduceEqDiff,Nat.left_eq_add,Nat.add_eq_left,if_true,if_false,hA2,tq3];done) aA.bH rfl v2 (aVY s1 s2 s3 s4 s5 aIE hd3 hd4 hd5) (by omega) (by omega) (by simp only[aA.set,aA.del,Nat.add_assoc,Nat.reduceAdd,Nat.add_left_cancel_iff,Nat.reduceEqDiff,Nat.left_eq_add,Nat.add_eq_left,if_true,if_false,hA2,aXO];done) (fun id h1 h2=>by rw[aA.aC (by omega),aA.aC (by omega),aA.aC (by omega)];exact tqf id h1 h2) (fun j hj=>by omega) (fO (w0 _ _ (by simp only[aA.set,aA.del,Nat.add_assoc,Nat.reduceAdd,Nat.add_left_cancel_iff,Nat.reduceEqDiff,Nat.left_eq_add,Nat.add_eq_left,if_true,if_false,hA2,tp0];done) (by simp)) (fO (w1 _ _ (by simp only[aA.set,aA.del,Nat.add_assoc,Nat.reduceAdd,Nat.add_left_cancel_iff,Nat.reduceEqDiff,Nat.left_eq_add,Nat.add_eq_left,if_true,if_false,hA2,tp1];done) (by simp)) (fO (w2 _ _ s.asked _ rfl rfl (by simp only[aA.set,aA.del,Nat.add_assoc,Nat.reduceAdd,Nat.add_left_cancel_iff,Nat.reduceEqDiff,Nat.left_eq_add,Nat.add_eq_left,if_true,if_false,hA2,tp2];done) (by simp)) (fO (w3 _ _ (by simp only[aA.set,aA.del,Nat.add_assoc,Nat.reduceAdd,Nat.add_left_cancel_iff,Nat.reduceEqDiff,Nat.left_eq_add,Nat.add_eq_left,if_true,if_false,hA2,tp3];done) (by simp)) (fO (w4 _ _ (by simp only[aA.set,aA.del,Nat.add_assoc,Nat.reduceAdd,Nat.add_left_cancel_iff,Nat.reduceEqDiff,Nat.left_eq_add,Nat.add_eq_left,if_true,if_false,hA2,tp4];done) (by simp)) (fO (w5 _ _ (by simp only[aA.set,aA.del,Nat.add_assoc,Nat.reduceAdd,Nat.add_left_cancel_iff,Nat.reduceEqDiff,Nat.left_eq_add,Nat.add_eq_left,if_true,if_false,hA2,tp5];done) (by simp)) LH)))))) rfl rfl
 ·exact endT _ _ c s _ pc (fun j=>j=b0∨j=b1∨j=b2∨j=b3∨j=b4∨j=b5) (by omega) (by simp only[aA.set,aA.del,Nat.add_assoc,Nat.reduceAdd,Nat.add_left_cancel_iff,Nat.reduceEqDiff,Nat.left_eq_add,Nat.add_eq_left,if_true,if_false,hA1,q3];done) aA.bH rfl hcf (aVY s1 s2 s3 s4 s5 aIE hd3 hd4 hd5) (by omega) (by omega) (by simp only[aA.set,aA.del,Nat.add_assoc,Nat.reduceAdd,Nat.add_left_cancel_iff,Nat.reduceEqDiff,Nat.left_eq_add,Nat.add_eq_left,if_true,if_false,hA1];done) (fun id h1 h2=>by rw[aA.aC (by omega),aA.aC (by omega),aA.aC h2];exact qf id h1 h2) (fun j hj=>by omega) (fO (w0 _ _ (by simp only[aA.set,aA.del,Nat.add_assoc,Nat.reduceAdd,Nat.add_left_cancel_iff,Nat.reduceEqDiff,Nat.left_eq_add,Nat.add_eq_left,if_true,if_false,hA1,p0];done) (by simp)) (fO (w1 _ _ (by simp only[aA.set,aA.del,Nat.add_assoc,Nat.reduceAdd,Nat.add_left_cancel_iff,Nat.reduceEqDiff,Nat.left_eq_add,Nat.add_eq_left,if_true,if_false,hA1,p1];done) (by simp)) (fO (w2 _ _ s.asked _ rfl rfl (by simp only[aA.set,aA.del,Nat.add_assoc,Nat.reduceAdd,Nat.add_left_cancel_iff,Nat.reduceEqDiff,Nat.left_eq_add,Nat.add_eq_left,if_true,if_false,hA1,p2];done) (by simp)) (fO (w3 _ _ (by simp only[aA.set,aA.del,Nat.add_assoc,Nat.reduceAdd,Nat.add_left_cancel_iff,Nat.reduceEqDiff,Nat.left_eq_add,Nat.add_eq_left,if_true,if_false,hA1,p3];done) (by simp)) (fO (w4 _ _ (by simp only[aA.set,aA.del,Nat.add_assoc,Nat.reduceAdd,Nat.add_left_cancel_iff,Nat.reduceEqDiff,Nat.left_eq_add,Nat.add_eq_left,if_true,if_false,hA1,p4];done) (by simp)) (fO (w5 _ _ (by simp only[aA.set,aA.del,Nat.add_assoc,Nat.reduceAdd,Nat.add_left_cancel_iff,Nat.reduceEqDiff,Nat.left_eq_add,Nat.add_eq_left,if_true,if_false,hA1,p5];done) (by simp)) LH)))))) rfl rfl
end
end Go.Proofs.YtegiblhkjfiooaaGreat
end
section
namespace Go.Proofs.YtegiblhkjfiooaaGreat
open Go Go.AM
set_option maxRecDepth 100000
set_option maxHeartbeats 8000000
section
variable {H : aA} {nx : Nat} {K : D → aA → Nat → Prop}
end
end Go.Proofs.YtegiblhkjfiooaaGreat
end
section
namespace Go.Proofs.YtegiblhkjfiooaaGreat
open Go Go.AM
set_option maxRecDepth 100000
set_option maxHeartbeats 8000000
section
variable {H : aA} {nx : Nat} {K : D → aA → Nat → Prop}
end
end Go.Proofs.YtegiblhkjfiooaaGreat
end
