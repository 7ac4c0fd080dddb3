/- Texts laid together by a program: rules, contracts and the walk that leads to the law. -/
import Derived.Test.YtmccpdapaccnoaaGreatPK7
import Derived.Test.YtmccpdapaccnoaaGreatPK4
set_option linter.unusedVariables false
set_option linter.unusedSimpArgs false
set_option linter.unusedSectionVars false
set_option maxRecDepth 100000
set_option maxHeartbeats 8000000
namespace Go.Proofs.YtmccpdapaccnoaaGreat
open Go Go.AM
attribute [local irreducible] aM wv aB vd wvH
section
variable {H : aA} {nx : Nat} {K : D → aA → Nat → Prop}
theorem RI (l:List Int) (p:Nat) (hl:kZ l) (hp50:p+7<2^50):aB Tryz.prog qM [bkP 2 0] (hp [(0,rdO l p)]) 1
 fun rr H' n'=>n'=1∧ ∃o',H'=hp [(0,o')]∧C7 o'∧ ∃(p':Nat) (x:Int),o'=rdO l p'∧p≤p'∧p'≤p+7∧rr=boP x∧(0≤x∧x≤63):=by
 refine N4 rfl fun Q hQ=> ?_
 unfold vH
 repeat' first| (first|apply bn1|refine aX hl (by omega) (by omega) (by omega) rfl (fun x h1 h2=> ?_))<;>(simp only[go_sem];try simp (disch:=omega) only[Iw])|refine⟨by omega,?_⟩|fail
 have hx:x=0∨x=1∨x=2∨x=3∨x=4∨x=5∨x=6∨x=7:=by omega
 rcases hx with rfl|rfl|rfl|rfl|rfl|rfl|rfl|rfl
 all_goals simp only[go_sem];try simp (disch:=omega) only[Iw]
 all_goals repeat' first|apply bn1<;>(simp only[go_sem])|refine⟨by omega,?_⟩|fail
 all_goals exact lA hQ (boP _) _ _ rfl (aE rfl) rfl (aV _ _) ⟨_,_,rfl,by omega,by omega,rfl,by omega,by omega⟩
variable{l:List Int}
theorem SE{p i:Nat} (hl:kZ l) (hp50:p+7<2^50) (hi:i<nx) (ho:H i=some (rdO l p)) (h: ∀(p':Nat) (x:Int),p≤p'→p'≤p+7→(0≤x∧x≤63)→K (boP x) (H.set i (rdO l p')) nx):
 aB Tryz.prog qM [bkP 2 i] H nx K:=
 (RI l p hl hp50).OU i rfl (gW ⟨DG (by omega) rfl,trivial⟩) hi ho (aV l p) fun r o' ⟨p',x,h1,h2,h3,h4,h5⟩=>by subst h1;subst h4;exact EW (A:=fun d=>K d (H.set i (rdO l p')) nx) rfl (h p' x h2 h3 h5)
theorem TX (l:List Int) (p:Nat) (hl:kZ l) (hp50:p+8<2^50):aB Tryz.prog tN [bkP 2 0,boP 99999] (hp [(0,rdO l p)]) 1
 fun rr H' n'=>n'=1∧ ∃o',H'=hp [(0,o')]∧C7 o'∧ ∃(p':Nat) (m:List Rng),o'=rdO l p'∧p≤p'∧p'≤p+8∧rr=dS (m.map eN)∧(DH m):=by
 refine RN rfl fun Q hQ=> ?_
 unfold w9
 repeat' first| (first|apply bn1|refine aX hl (by omega) (by omega) (by omega) rfl (fun x h1 h2=> ?_)|refine uA (by omega) rfl ?_)<;>(simp only[go_sem];try simp (disch:=omega) only[Iw])|refine bnE (fun h=> ?_) fun h=> ?_|refine⟨by omega,?_⟩|fail
 ·exact lA hQ (dS ((al2 _ _).map eN)) _ _ rfl (yP (l:=al2 _ _) K3 rfl rfl (by simp[al2]) (by decide)) rfl (aV _ _) ⟨_,al2 _ _,rfl,by omega,by omega,rfl,apM _ _ (by omega)⟩
 ·have hx:x=0∨x=1∨x=2:=by omega
  rcases hx with rfl|rfl|rfl;·exact lA hQ (dS (((E9 false).take 1).map eN)) _ _ rfl (DJ (rows:=((E9 false).take 1).map eN) (aG K3 _) rfl (by decide) rfl rfl rfl (by simp[E9])) rfl (aV _ _) ⟨_,(E9 false).take 1,rfl,by omega,by omega,rfl,PO _ 1 (by decide)⟩
  ·exact lA hQ (dS (((E9 false).take 2).map eN)) _ _ rfl (DJ (rows:=((E9 false).take 2).map eN) (aG K3 _) rfl (by decide) rfl rfl rfl (by simp[E9])) rfl (aV _ _) ⟨_,(E9 false).take 2,rfl,by omega,by omega,rfl,PO _ 2 (by decide)⟩
  ·exact lA hQ (dS (((E9 _).take 3).map eN)) _ _ rfl (DJ (rows:=((E9 _).take 3).map eN) (aG K3 _) rfl (by decide) rfl rfl rfl (by simp[E9])) rfl (aV _ _) ⟨_,(E9 _).take 3,rfl,by omega,by omega,rfl,PO _ 3 (by decide)⟩
 ·exact lA hQ (dS (((E9 _).take 3).map eN)) _ _ rfl (DJ (rows:=((E9 _).take 3).map eN) (aG K3 _) rfl (by decide) rfl rfl rfl (by simp[E9])) rfl (aV _ _) ⟨_,(E9 _).take 3,rfl,by omega,by omega,rfl,PO _ 3 (by decide)⟩
theorem IV{p i:Nat} (hl:kZ l) (hp50:p+8<2^50) (hi:i<nx) (ho:H i=some (rdO l p)) (h: ∀(p':Nat) (m:List Rng),p≤p'→p'≤p+8→(DH m)→K (dS (m.map eN)) (H.set i (rdO l p')) nx):
 aB Tryz.prog tN [bkP 2 i,boP 99999] H nx K:=
 (TX l p hl hp50).OU i rfl (gW ⟨DG (by omega) rfl,aE rfl,trivial⟩) hi ho (aV l p) fun r o' ⟨p',m,h1,h2,h3,h4,h5⟩=>by subst h1;subst h4;exact EW (A:=fun d=>K d (H.set i (rdO l p')) nx) rfl (h p' m h2 h3 h5)
theorem aPB{p:Nat}{Q:AQ} (hQ: ∀ex e2 H2 nx2 d nh d2 H3 F σ,ex=AEx.normal∨ex=AEx.ret→yT H2 e2 GO=some d→CvR 1 d H2 nh d2 H3 F σ→(nh=1∧ ∃o',H3=hp [(0,o')]∧C7 o'∧ ∃(p':Nat) (m:List Rng),o'=rdO l p'∧p≤p'∧p'≤p+20∧d2=dS (m.map eN)∧(m.length≤8))→Q ex e2 H2 nx2)
 {e2:Env} {H2:aA} {nx2 b n cap ext p':Nat} {rows:List (List D1)} {m:List Rng} (h1:yT H2 e2 GO=some (.one (.c (.osl 4 b 0 n cap)))) (h2:H2 0=some (rdO l p')) (h3:H2 b=some ⟨4,ext,rows⟩) (h4:p≤p') (h5:p'≤p+20) (h6:rows.take n=m.map eN) (h7:m.length≤8∧n≤cap∧b≠0∧n≤rows.length):Q .ret e2 H2 nx2:=by
 obtain⟨h7,h8,h9,h10⟩:=h7
 have hn:n=(m.map eN).length:=by rw[←h6];simp;omega
 exact lA hQ (dS (m.map eN)) _ _ h1 (DJ (rows:=m.map eN) (aG K3 _) hn h9 h3 rfl (by rw[←hn];exact h6) (by omega)) h2 (aV _ _) ⟨p',m,rfl,h4,h5,rfl,h7⟩
theorem aPJ (l:List Int) (p:Nat) (n:Int) (hn:0<n∧n<9000) (hl:kZ l) (hp50:p+1<2^50):aB Tryz.prog kE [bkP 2 0,boP n] (hp [(0,rdO l p)]) 1
 fun rr H' n'=>n'=1∧ ∃o',H'=hp [(0,o')]∧C7 o'∧ ∃(p':Nat) (b:Bool),o'=rdO l p'∧p≤p'∧p'≤p+1∧rr=dB b∧(True):=by
 refine LF rfl fun Q hQ=> ?_
 unfold rH
 repeat' first| (first|apply bn1|apply bpJ (by omega)|refine aX hl (by omega) (by omega) (by omega) rfl (fun x h1 h2=> ?_))<;>(simp only[go_sem];try simp (disch:=omega) only[Iw])|fail
 exact lA hQ (dB _) _ _ rfl (aE rfl) rfl (aV _ _) ⟨_,_,rfl,by omega,by omega,rfl,trivial⟩
theorem d6{p i:Nat}{n:Int} (hn:0<n∧n<9000) (hl:kZ l) (hp50:p+1<2^50) (hi:i<nx) (ho:H i=some (rdO l p)) (h: ∀(p':Nat) (b:Bool),p≤p'→p'≤p+1→(True)→K (dB b) (H.set i (rdO l p')) nx):
 aB Tryz.prog kE [bkP 2 i,boP n] H nx K:=
 (aPJ l p n hn hl hp50).OU i rfl (gW ⟨DG (by omega) rfl,aE rfl,trivial⟩) hi ho (aV l p) fun r o' ⟨p',b,h1,h2,h3,h4,h5⟩=>by subst h1;subst h4;exact EW (A:=fun d=>K d (H.set i (rdO l p')) nx) rfl (h p' b h2 h3 h5)
theorem aQP (l:List Int) (p:Nat) (hl:kZ l) (hp50:p+20<2^50):aB Tryz.prog tN [bkP 2 0,boP 1] (hp [(0,rdO l p)]) 1
 fun rr H' n'=>n'=1∧ ∃o',H'=hp [(0,o')]∧C7 o'∧ ∃(p':Nat) (m:List Rng),o'=rdO l p'∧p≤p'∧p'≤p+20∧rr=dS (m.map eN)∧(m.length≤8):=by
 refine RN rfl fun Q hQ=> ?_
 unfold w9
 repeat' first| (first|apply bn1|refine aX hl (by omega) (by omega) (by omega) rfl (fun x h1 h2=> ?_))<;>(simp only[go_sem];try simp (disch:=omega) only[Iw])|refine bnE (fun h=> ?_) fun h=> ?_|refine⟨by omega,?_⟩|fail
 case' refine_2.refine_1=>(have hx:x=0∨x=1∨x=2:=by omega);rcases hx with rfl|rfl|rfl
 all_goals (refine(fun(h: ∀b:Bool,_)=>d6 (n:=1) (by omega) hl (by omega) (by omega) rfl (fun p1 b hp1 hp2 _=> ?_)) (fun _=>trivial);cases b)
 all_goals (simp only[go_sem];try apply bn0)
 all_goals repeat' first|apply bn1<;>(simp only[go_sem])|fail
 all_goals first
  | (refine aX hl (by omega) (by omega) (by omega) rfl (fun k hk1 hk2=> ?_)
     have hk:k=0∨k=1∨k=2∨k=3:=by omega
     rcases hk with rfl|rfl|rfl|rfl
     all_goals first| (exfalso;omega)| (simp only[go_sem];try apply bn0))
  |skip
 all_goals try repeat' first| (first|apply bn1|refine aX hl (by omega) (by omega) (by omega) rfl (fun x h1 h2=> ?_))<;>(simp only[go_sem];try simp (disch:=omega) only[Iw])|refine bnE (fun h=> ?_) fun h=> ?_| (with_reducible first|refine fun(cap:Nat) (hcap:_≤cap)=> ?_|refine fun(hcp:_≤cap)=> ?_)|refine⟨by omega,?_⟩|fail
 all_goals first
  | (have hx:x=0∨x=1∨x=2:=by omega
     rcases hx with rfl|rfl|rfl
     all_goals first| (exfalso;omega)| (simp only[go_sem];try simp (disch:=omega) only[Iw];(refine⟨by omega,bn0 ?_⟩);repeat' first|apply bn1<;>(simp only[go_sem])|fail)|skip)
  |skip
 all_goals try refine⟨by omega,?_⟩
 all_goals try (try apply bn0;repeat' first|apply bn1<;>(simp only[go_sem])|fail)
 all_goals first
  |exact aPB hQ (m:=[⟨_,_,_,_⟩]) rfl rfl rfl (by omega) (by omega) rfl ⟨by simp,by omega,by decide,by simp⟩
  |exact aPB hQ (m:=[⟨_,_,_,_⟩,⟨_,_,_,_⟩]) rfl rfl rfl (by omega) (by omega) rfl ⟨by simp,by omega,by decide,by simp⟩
  |exact aPB hQ (m:=[⟨_,_,_,_⟩,⟨_,_,_,_⟩,⟨_,_,_,_⟩]) rfl rfl rfl (by omega) (by omega) rfl ⟨by simp,by omega,by decide,by simp⟩
  |exact aPB hQ (m:=[⟨_,_,_,_⟩,⟨_,_,_,_⟩,⟨_,_,_,_⟩,⟨_,_,_,_⟩]) rfl rfl rfl (by omega) (by omega) rfl ⟨by simp,by omega,by decide,by simp⟩
  |exact aPB hQ (m:=[⟨_,_,_,_⟩,⟨_,_,_,_⟩,⟨_,_,_,_⟩,⟨_,_,_,_⟩,⟨_,_,_,_⟩]) rfl rfl rfl (by omega) (by omega) rfl ⟨by simp,by omega,by decide,by simp⟩
  |exact aPB hQ (m:=[⟨_,_,_,_⟩,⟨_,_,_,_⟩,⟨_,_,_,_⟩,⟨_,_,_,_⟩,⟨_,_,_,_⟩,⟨_,_,_,_⟩]) rfl rfl rfl (by omega) (by omega) rfl ⟨by simp,by omega,by decide,by simp⟩
  |exact aPB hQ (m:=[⟨_,_,_,_⟩,⟨_,_,_,_⟩,⟨_,_,_,_⟩,⟨_,_,_,_⟩,⟨_,_,_,_⟩,⟨_,_,_,_⟩,⟨_,_,_,_⟩]) rfl rfl rfl (by omega) (by omega) rfl ⟨by simp,by omega,by decide,by simp⟩
theorem aQQ{p i:Nat} (hl:kZ l) (hp50:p+20<2^50) (hi:i<nx) (ho:H i=some (rdO l p)) (h: ∀(p':Nat) (m:List Rng),p≤p'→p'≤p+20→(m.length≤8)→K (dS (m.map eN)) (H.set i (rdO l p')) nx):
 aB Tryz.prog tN [bkP 2 i,boP 1] H nx K:=
 (aQP l p hl hp50).OU i rfl (gW ⟨DG (by omega) rfl,aE rfl,trivial⟩) hi ho (aV l p) fun r o' ⟨p',m,h1,h2,h3,h4,h5⟩=>by subst h1;subst h4;exact EW (A:=fun d=>K d (H.set i (rdO l p')) nx) rfl (h p' m h2 h3 h5)
end
end Go.Proofs.YtmccpdapaccnoaaGreat
