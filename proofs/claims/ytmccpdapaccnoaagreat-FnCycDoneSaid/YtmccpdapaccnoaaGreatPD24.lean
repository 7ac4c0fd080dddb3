/- Texts laid together by a program: rules, contracts and the walk that leads to the law. -/
import Derived.Test.YtmccpdapaccnoaaGreatPD9
import Derived.Test.YtmccpdapaccnoaaGreatPD11
import Derived.Test.YtmccpdapaccnoaaGreatPD19
import Derived.Test.YtmccpdapaccnoaaGreatPD22
set_option linter.unusedVariables false
set_option linter.unusedSimpArgs false
set_option linter.unusedSectionVars false
set_option maxRecDepth 100000
set_option maxHeartbeats 8000000
namespace Go.Proofs.YtmccpdapaccnoaaGreat
open Go Go.AM
attribute [local irreducible] aM wv aB vd wvH
section
variable {H : aA} {nx : Nat} {K : D → aA → Nat → Prop}
variable{l:List Int}{p:Nat}
theorem aXC{Q:AQ} (hQ: ∀ex e2 H2 nx2 d nh d2 H3 F σ,ex=AEx.normal∨ex=AEx.ret→yT H2 e2 aVF=some d→CvR 1 d H2 nh d2 H3 F σ→(nh=1∧ ∃o',H3=hp [(0,o')]∧C7 o'∧ ∃(p':Nat) (x:Rsp),o'=rdO l p'∧p≤p'∧p'≤p+12∧d2=boR (tG x)∧(x.data.length≤8))→Q ex e2 H2 nx2)
 {e2:Env} {H2:aA} {nx2 b bp0 c1 m1 p':Nat} {id code:Int} {D:List Int} (h1:yT H2 e2 aVF=some (boR [cI id,cI code,.osl 1 b 0 bp0 c1])) (h2:H2 0=some (rdO l p')) (h3:H2 b=some ⟨1,m1,D.map aJ⟩)
 (h5:p≤p'∧p'≤p+12) (h6:bp0=D.length) (h7:bp0≤c1∧b≠0∧bp0≤8):Q .ret e2 H2 nx2:=by
 obtain⟨h7,h8,h9⟩:=h7
 subst h6
 exact lA hQ (boR (tG ⟨id,code,D⟩)) _ _ h1 (aH (bB rfl) (aH (bB rfl) (aH (bW bF h3 rfl h7 (by simpa using h8)) eP))) h2 (aV _ _) ⟨p',_,rfl,h5.1,h5.2,rfl,h9⟩
theorem aW6 (l:List Int) (p:Nat) (n:Int) (hn:0<n∧n<9000) (hl:kZ l) (hp50:p+12<2^50):aB Tryz.prog aVA [bkP 2 0,boP n] (hp [(0,rdO l p)]) 1
 fun rr H' n'=>n'=1∧ ∃o',H'=hp [(0,o')]∧C7 o'∧ ∃(p':Nat) (x:Rsp),o'=rdO l p'∧p≤p'∧p'≤p+12∧rr=boR (tG x)∧(x.data.length≤8):=by
 refine aW2 rfl fun Q hQ=> ?_
 unfold aVP
 repeat' first| (first|apply bn1|refine aX hl (by omega) (by omega) (by omega) rfl (fun x h1 h2=> ?_))<;>(simp only[go_sem];try simp (disch:=omega) only[Iw])|fail
 rename_i id hid1 hid2 code hc1 hc2
 apply aM.EJ 1
 refine aM.sG 3 (β:=Nat×Nat×List Int×Nat)
  (fun b u=>en [(6,boP u.1),(5,bkP 3 (b+1)),(4,bkP 3 b),(1,boP n),(0,bkP 2 0)])
  (fun b u=>hp [(0,rdO l u.2.1),(b,⟨3,1,[[cI 0,cI 0,.osl 0 0 0 0 0]]⟩),(b+1,⟨3,1,[[cI id,cI (1+code),.osl 1 (b+2) 0 u.2.2.1.length u.2.2.2]]⟩),(b+2,⟨1,u.2.2.2,u.2.2.1.map aJ⟩)])
  (fun u=>u.1+u.2.2.1.length≤4∧p≤u.2.1∧u.2.1+u.1≤p+7∧u.2.2.1.length≤u.2.2.2)
  (fun u=>u.1) (x.toNat,p+3,[],0) ?_ ⟨by simp;omega,by dsimp only;omega,by dsimp only;omega,m5 _⟩ ?_
 · (refine cR [1,8,13,0] (by omega) (by repeat' first|exact bo2|refine xqI rfl rfl ?_|refine xqP (by omega) rfl rfl ?_|refine xqV rfl (by omega) ?_|fail) ⟨⟨by simp,by simp[sgL],_,rfl,bS (aV _ _)⟩,⟨by simp,by simp[sgL],_,rfl,aP (by repeat' first|exact bo2| (with_reducible first|exact bo4|apply bo5)| ((with_reducible apply bo0);first|exact bo9 rfl|exact bpA)|fail)⟩,⟨by simp,by simp[sgL],_,rfl,aP (by repeat' first|exact bo2| (with_reducible first|exact bo4|apply bo5)| ((with_reducible apply bo0);first|exact bo9 rfl|exact bpA)|fail)⟩,⟨by simp,by simp[sgL],_,rfl,bP (aG bF _) rfl rfl⟩,trivial⟩ (by simp[sgL]))
 rintro⟨k,pk,da,ca⟩ ⟨bpR,f2,bpS,bpT⟩ bpQ hKL
 dsimp only at bpR f2 bpS bpT
 have hta:da.take da.length=da:=bq4
 by_cases hk:0<k
 ·repeat' first| (first|apply bn1|refine aX hl (by omega) (by omega) (by omega) rfl (fun x h1 h2=> ?_))<;>(simp only[go_sem,hta];try simp (disch:=omega) only[Iw])|apply bn2 (by omega)| (with_reducible first|refine fun(cap:Nat) (hcap:_≤cap)=> ?_|refine fun(hcp:_≤cap)=> ?_)|refine⟨by omega,?_⟩|fail
  exact hKL _ _ _ (k-1,pk+1,da++[x],cap) (by omega) (by dsimp only;rw[t2,List.length_singleton];(refine cR [14,15,24,0] (by omega) (by repeat' first|exact bo2|refine xqI rfl rfl ?_|refine xqP (by omega) rfl rfl ?_|refine xqV rfl (by omega) ?_|fail) ⟨⟨by simp,by simp[sgL],_,rfl,bS (aV _ _)⟩,⟨by simp,by simp[sgL],_,rfl,aP (by repeat' first|exact bo2| (with_reducible first|exact bo4|apply bo5)| ((with_reducible apply bo0);first|exact bo9 rfl|exact bpA)|fail)⟩,⟨by simp,by simp[sgL],_,rfl,aP (by repeat' first|exact bo2| (with_reducible first|exact bo4|apply bo5)| ((with_reducible apply bo0);first|exact bo9 rfl|exact bpB (by omega) rfl rfl (by rfl) rfl)|fail)⟩,⟨by simp,by simp[sgL],_,rfl,bP (aG bF _) rfl rfl⟩,trivial⟩ (by simp[sgL]))) ⟨by simp;omega,by dsimp only;omega,by dsimp only;omega,by simpa using hcap⟩ (by dsimp only;omega)
 ·repeat' first| (first|apply bn1|refine d6 hn hl (by omega) (by omega) rfl (fun p1 bb hp1 hp2 _=> ?_)|refine aX hl (by omega) (by omega) (by omega) rfl (fun x h1 h2=> ?_))<;>(simp only[go_sem])|apply bn3 (by omega)|refine bnE (fun h=> ?_) fun h=> ?_| ((refine bnF (fun h=> ?_) (fun h=> ?_))<;>try subst h)|refine⟨by omega,?_⟩|fail
  all_goals first
   | (obtain⟨v,hv⟩:=aN1 (L:=[[.v (.int .i64 (-1))],[.v (.int .i64 2)]]) (by simp) h1 (by simp;omega);simp only[hv];simp only[go_sem];repeat' first|apply bn1<;>(simp only[go_sem])|fail)
   | (obtain⟨v,hv⟩:=aN1 (L:=[[.v (.int .i64 0)],[.v (.int .i64 5)]]) (by simp) h1 (by simp;omega);simp only[hv];simp only[go_sem];repeat' first|apply bn1<;>(simp only[go_sem])|fail)
   |skip
  all_goals first
   |exact aXC hQ rfl rfl rfl (by omega) rfl (by omega)
   |exact aXC hQ (D:=[-1]) rfl rfl rfl (by omega) rfl (by omega)
   |exact aXC hQ (D:=[1,2,3,4,5]) rfl rfl rfl (by omega) rfl (by omega)
theorem aV4{i:Nat}{n:Int} (hn:0<n∧n<9000) (hl:kZ l) (hp50:p+12<2^50) (hi:i<nx) (ho:H i=some (rdO l p)) (h: ∀(p':Nat) (x:Rsp),p≤p'→p'≤p+12→(x.data.length≤8)→K (boR (tG x)) (H.set i (rdO l p')) nx):
 aB Tryz.prog aVA [bkP 2 i,boP n] H nx K:=
 (aW6 l p n hn hl hp50).OU i rfl (gW ⟨DG (by omega) rfl,aE rfl,trivial⟩) hi ho (aV l p) fun r o' ⟨p',x,h1,h2,h3,h4,h5⟩=>by subst h1;subst h4;exact EW (A:=fun d=>K d (H.set i (rdO l p')) nx) rfl (h p' x h2 h3 h5)
theorem aW1{Q:AQ} (hQ: ∀ex e2 H2 nx2 d nh d2 H3 F σ,ex=AEx.normal∨ex=AEx.ret→yT H2 e2 aVH=some d→CvR 1 d H2 nh d2 H3 F σ→(nh=1∧ ∃o',H3=hp [(0,o')]∧C7 o'∧ ∃(p':Nat) (w:List Int),o'=rdO l p'∧p≤p'∧p'≤p+70∧d2=boR [.isl (w.map aJ)]∧(w.length≤65))→Q ex e2 H2 nx2)
 {e2:Env} {H2:aA} {nx2 b bp0 c1 m1 p' off:Nat} {W D:List Int} (h1:yT H2 e2 aVH=some (boR [.osl 1 b off bp0 c1])) (h2:H2 0=some (rdO l p')) (h3:H2 b=some ⟨1,m1,W.map aJ⟩)
 (h4:(W.drop off).take bp0=D) (h5:p≤p'∧p'≤p+70) (h6:bp0=D.length∧off+bp0≤W.length) (h7:bp0≤c1∧b≠0∧bp0≤65):Q .ret e2 H2 nx2:=by
 obtain⟨h7,h8,h9⟩:=h7
 obtain⟨h6,h10⟩:=h6
 exact lA hQ (boR [.isl (D.map aJ)]) _ _ h1 (aH (aTY (aG bF _) (by rw[bqW];exact h6) (by simpa using h8) h3 rfl (by simp;omega) (by rw[bqW,←h6,←brE,←br7,h4]) (by rw[bqW];omega)) eP) h2 (aV _ _) ⟨p',_,rfl,h5.1,h5.2,rfl,by omega⟩
theorem aW8 (l:List Int) (p:Nat) (n:Int) (hn:n=99999∨(0<n∧n<9000)) (hl:kZ l) (hp50:p+70<2^50):aB Tryz.prog aU9 [bkP 2 0,boP n] (hp [(0,rdO l p)]) 1
 fun rr H' n'=>n'=1∧ ∃o',H'=hp [(0,o')]∧C7 o'∧ ∃(p':Nat) (w:List Int),o'=rdO l p'∧p≤p'∧p'≤p+70∧rr=boR [.isl (w.map aJ)]∧(w.length≤65):=by
 refine aWR rfl fun Q hQ=> ?_
 unfold aVN
 have hw0:(List.replicate 64 (0:Int)).length=64:=rfl
 have hmn: ∀{H:aA} {nx:Nat} {K:D→aA→Nat→Prop},K (boR [.osl 1 nx 0 64 64]) (H.set nx ⟨1,64,(List.replicate 64 (0:Int)).map aJ⟩) (nx+1)→aB Tryz.prog v8 [] H nx K:=fun h=>aSB h
 generalize List.replicate 64 (0:Int)=bk1 at*
 repeat' first| (first|apply bn1|apply hmn|refine aX hl (by omega) (by omega) (by omega) rfl (fun x h1 h2=> ?_))<;>(simp only[go_sem])|fail
 refine aM.sG 3 (β:=Nat×Nat×List Int)
  (fun b u=>en [(6,boP u.1),(5,bkP 1 (b+1)),(4,bkP 1 b),(1,boP n),(0,bkP 2 0)])
  (fun b u=>hp [(0,rdO l u.2.1),(b,⟨1,1,[[.osl 0 0 0 0 0]]⟩),(b+1,⟨1,1,[[.osl 1 (b+2) 0 64 64]]⟩),(b+2,⟨1,64,u.2.2.map aJ⟩)])
  (fun u=>u.1≤7∧p≤u.2.1∧u.2.1+8*u.1≤p+57∧u.2.2.length=64)
  (fun u=>u.1) (x.toNat,p+1,bk1) ?_ ⟨by dsimp only;omega,by dsimp only;omega,by dsimp only;omega,hw0⟩ ?_
 · (refine cR [1,3,5,0] (by omega) (by repeat' first|exact bo2|refine xqI rfl rfl ?_|refine xqP (by omega) rfl rfl ?_|refine xqV rfl (by omega) ?_|fail) ⟨⟨by simp,by simp[sgL],_,rfl,bS (aV _ _)⟩,⟨by simp,by simp[sgL],_,rfl,aP (by repeat' first|exact bo2| (with_reducible first|exact bo4|apply bo5)| ((with_reducible apply bo0);exact bpA)|fail)⟩,⟨by simp,by simp[sgL],_,rfl,aP (by repeat' first|exact bo2| (with_reducible first|exact bo4|apply bo5)| ((with_reducible apply bo0);exact bpB (by omega) rfl rfl (by rfl) rfl)|fail)⟩,⟨by simp,by simp[sgL],_,rfl,bP (aG bF _) rfl rfl⟩,trivial⟩ (by simp[sgL]))
 rintro⟨k,pk,w⟩ ⟨bpR,f2,bpS,bpT⟩ bpQ hKL
 dsimp only at bpR f2 bpS bpT
 by_cases hk:0<k
 ·repeat' first| (first|apply bn1|refine SE hl (by omega) (by omega) rfl (fun pa xa ha1 ha2 ha3=> ?_)|refine aX hl (by omega) (by omega) (by omega) rfl (fun x h1 h2=> ?_))<;>(simp only[go_sem];try simp (disch:=omega) only[Iw])|apply bn2 (by omega)|refine⟨by omega,?_⟩|fail
  exact hKL _ _ _ (k-1,pa+1,w.set xa.toNat (x*257)) (by omega) (by(refine cR [9,10,11,0] (by omega) (by repeat' first|exact bo2|refine xqI rfl rfl ?_|refine xqP (by omega) rfl rfl ?_|refine xqV rfl (by omega) ?_|fail) ⟨⟨by simp,by simp[sgL],_,rfl,bS (aV _ _)⟩,⟨by simp,by simp[sgL],_,rfl,aP (by repeat' first|exact bo2| (with_reducible first|exact bo4|apply bo5)| ((with_reducible apply bo0);exact bpA)|fail)⟩,⟨by simp,by simp[sgL],_,rfl,aP (by repeat' first|exact bo2| (with_reducible first|exact bo4|apply bo5)| ((with_reducible apply bo0);exact bpB (by omega) rfl rfl (by rfl) rfl)|fail)⟩,⟨by simp,by simp[sgL],_,rfl,bP (aG bF _) rfl rfl⟩,trivial⟩ (by simp[sgL]))) ⟨by dsimp only;omega,by dsimp only;omega,by dsimp only;omega,by simp;omega⟩ (by dsimp only;omega)
 ·rcases hn with rfl|hn
  ·repeat' first| (first|apply bn1|refine uA (by omega) rfl ?_)<;>(simp only[go_sem])|apply bn3 (by omega)|fail
   exact aW1 hQ (D:=w) rfl rfl rfl (boL (by simp;omega)) (by omega) (by omega) (by omega)
  ·repeat' first| (first|apply bn1|refine d6 hn hl (by omega) (by omega) rfl (fun p1 bb hp1 hp2 _=> ?_)|refine aX hl (by omega) (by omega) (by omega) rfl (fun x h1 h2=> ?_))<;>(simp only[go_sem])|apply bn3 (by omega)|refine bnE (fun h=> ?_) fun h=> ?_| (with_reducible first|refine fun(cap:Nat) (hcap:_≤cap)=> ?_|refine fun(hcp:_≤cap)=> ?_)| ((refine bnF (fun h=> ?_) (fun h=> ?_))<;>try subst h)|refine⟨by omega,?_⟩|fail
   all_goals first
    | (obtain⟨v,hv⟩:=aN1 (L:=[[.v (.int .i64 (-1))],[.v (.int .i64 65536)]]) (by simp) h1 (by simp;omega);simp only[hv];simp only[go_sem];repeat' first|apply bn1<;>(simp only[go_sem])|refine⟨by omega,?_⟩|fail)
    |skip
   all_goals first
    |exact aW1 hQ (D:=w.drop 1) rfl rfl rfl (boL (by simp;omega)) (by omega) (by simp;omega) (by omega)
    |exact aW1 hQ (D:=w.set _ _) rfl rfl rfl (boL (by simp;omega)) (by omega) (by simp;omega) (by omega)
    |exact aW1 hQ (D:=w.take 64++[0]) rfl rfl rfl (boL (by simp;omega)) (by omega) (by simp;omega) (by omega)
    |exact aW1 hQ (D:=w) rfl rfl rfl (boL (by simp;omega)) (by omega) (by omega) (by omega)
    |fail
theorem aV3{i:Nat}{n:Int} (hn:n=99999∨(0<n∧n<9000)) (hl:kZ l) (hp50:p+70<2^50) (hi:i<nx) (ho:H i=some (rdO l p)) (h: ∀(p':Nat) (w:List Int),p≤p'→p'≤p+70→(w.length≤65)→K (boR [.isl (w.map aJ)]) (H.set i (rdO l p')) nx):
 aB Tryz.prog aU9 [bkP 2 i,boP n] H nx K:=
 (aW8 l p n hn hl hp50).OU i rfl (gW ⟨DG (by omega) rfl,aE rfl,trivial⟩) hi ho (aV l p) fun r o' ⟨p',w,h1,h2,h3,h4,h5⟩=>by subst h1;subst h4;exact EW (A:=fun d=>K d (H.set i (rdO l p')) nx) rfl (h p' w h2 h3 h5)
theorem aXA{Q:AQ} (hQ: ∀ex e2 H2 nx2 d nh d2 H3 F σ,ex=AEx.normal∨ex=AEx.ret→yT H2 e2 aVE=some d→CvR 1 d H2 nh d2 H3 F σ→(nh=1∧ ∃o',H3=hp [(0,o')]∧C7 o'∧ ∃(p':Nat) (w u:List Int),o'=rdO l p'∧p≤p'∧p'≤p+200∧d2=boR [.isl (w.map aJ),.isl (u.map aJ)]∧(w.length≤65∧u.length≤6))→Q ex e2 H2 nx2)
 {e2:Env} {H2:aA} {nx2 b bp0 c1 m1 p' off:Nat} {w W D:List Int} (h1:yT H2 e2 aVE=some (boR [.isl (w.map aJ),.osl 1 b off bp0 c1])) (h2:H2 0=some (rdO l p')) (h3:H2 b=some ⟨1,m1,W.map aJ⟩)
 (h4:(W.drop off).take bp0=D) (h5:p≤p'∧p'≤p+200) (h6:bp0=D.length∧off+bp0≤W.length) (h7:bp0≤c1∧b≠0∧bp0≤6∧w.length≤65):Q .ret e2 H2 nx2:=by
 obtain⟨h7,h8,h9,h11⟩:=h7
 obtain⟨h6,h10⟩:=h6
 exact lA hQ (boR [.isl (w.map aJ),.isl (D.map aJ)]) _ _ h1 (aH (bB rfl) (aH (aTY (aG bF _) (by rw[bqW];exact h6) (by simpa using h8) h3 rfl (by simp;omega) (by rw[bqW,←h6,←brE,←br7,h4]) (by rw[bqW];omega)) eP)) h2 (aV _ _) ⟨p',_,_,rfl,h5.1,h5.2,rfl,h11,by omega⟩
theorem aW7 (l:List Int) (p:Nat) (n:Int) (hn:0<n∧n<9000) (hl:kZ l) (hp50:p+200<2^50):aB Tryz.prog aVK [bkP 2 0,boP n] (hp [(0,rdO l p)]) 1
 fun rr H' n'=>n'=1∧ ∃o',H'=hp [(0,o')]∧C7 o'∧ ∃(p':Nat) (w:List Int) (u:List Int),o'=rdO l p'∧p≤p'∧p'≤p+200∧rr=boR [.isl (w.map aJ),.isl (u.map aJ)]∧(w.length≤65∧u.length≤6):=by
 refine aWW rfl fun Q hQ=> ?_
 unfold aVO
 have hu0:(List.replicate 6 (-1:Int)).length=6:=rfl
 have han: ∀{H:aA} {nx:Nat} {K:D→aA→Nat→Prop},(∀hc,6≤hc→K (boR [.osl 1 nx 0 64 64,.osl 1 (nx+1) 0 6 hc]) ((H.set nx ⟨1,64,(List.replicate 64 (0:Int)).map aJ⟩).set (nx+1) ⟨1,hc,(List.replicate 6 (-1:Int)).map aJ⟩) (nx+2))→aB Tryz.prog v7 [] H nx K:=fun h=>aR5 h
 generalize List.replicate 64 (0:Int)=bk1 at*
 generalize List.replicate 6 (-1:Int)=aXL at*
 repeat' first| (first|apply bn1|refine han fun hc hhc=> ?_|refine aV3 (n:=99999) (.inl rfl) hl (by omega) (by omega) rfl (fun pm w hm1 hm2 hm3=> ?_))<;>(simp only[go_sem])|fail
 refine aM.sG 3 (β:=Nat×Nat×List Int)
  (fun b u=>en [(6,boP u.1),(5,bkP 2 (b+1)),(4,bkP 2 b),(1,boP n),(0,bkP 2 0)])
  (fun b u=>hp [(0,rdO l u.2.1),(b,⟨2,1,[[.osl 0 0 0 0 0,.osl 0 0 0 0 0]]⟩),(b+1,⟨2,1,[[.isl (w.map aJ),.osl 1 (b+2) 0 6 hc]]⟩),(b+2,⟨1,hc,u.2.2.map aJ⟩)])
  (fun u=>u.1≤6∧p≤u.2.1∧u.2.1≤p+70+u.1∧u.2.2.length=6)
  (fun u=>6-u.1) (0,pm,aXL) ?_ ⟨by dsimp only;omega,by dsimp only;omega,by dsimp only;omega,hu0⟩ ?_
 · (refine cR [1,3,6,0] (by omega) (by repeat' first|exact bo2|refine xqI rfl rfl ?_|refine xqP (by omega) rfl rfl ?_|fail) ⟨⟨by simp,by simp[sgL],_,rfl,bS (aV _ _)⟩,⟨by simp,by simp[sgL],_,rfl,aP (by repeat' first|exact bo2| (with_reducible first|exact bo4|apply bo5)| ((with_reducible apply bo0);exact bpA)|fail)⟩,⟨by simp,by simp[sgL],_,rfl,aP (by repeat' first|exact bo2| (with_reducible first|exact bo4|apply bo5)| ((with_reducible apply bo0);first|exact bo9 rfl|exact bpB (by omega) rfl rfl (by rfl) rfl)|fail)⟩,⟨by simp,by simp[sgL],_,rfl,bP (aG bF _) rfl rfl⟩,trivial⟩ (by simp[sgL]))
 rintro⟨k,pk,u⟩ ⟨bpR,f2,bpS,bpT⟩ bpQ hKL
 dsimp only at bpR f2 bpS bpT
 by_cases hk:k<6
 ·repeat' first| (first|apply bn1|refine aX hl (by omega) (by omega) (by omega) rfl (fun x h1 h2=> ?_))<;>(simp only[go_sem])|apply bn2 (by omega)|refine⟨by omega,?_⟩|fail
  obtain⟨v,hv⟩:=aN1 (L:=[[.v (.int .i64 (-1))],[.v (.int .i64 0)],[.v (.int .i64 1)],[.v (.int .i64 16)],[.v (.int .i64 32)]]) (by simp) h1 (by simp;omega);simp only[go_sem,hv];repeat' first|apply bn1<;>(simp only[go_sem];try simp (disch:=omega) only[Iw])|refine⟨by omega,?_⟩|fail
  exact hKL _ _ _ (k+1,pk+1,u.set k v) (by omega) (by(refine cR [12,13,14,0] (by omega) (by repeat' first|exact bo2|refine xqI rfl rfl ?_|refine xqP (by omega) rfl rfl ?_|fail) ⟨⟨by simp,by simp[sgL],_,rfl,bS (aV _ _)⟩,⟨by simp,by simp[sgL],_,rfl,aP (by repeat' first|exact bo2| (with_reducible first|exact bo4|apply bo5)| ((with_reducible apply bo0);exact bpA)|fail)⟩,⟨by simp,by simp[sgL],_,rfl,aP (by repeat' first|exact bo2| (with_reducible first|exact bo4|apply bo5)| ((with_reducible apply bo0);first|exact bo9 rfl|exact bpB (by omega) rfl rfl (by rfl) rfl)|fail)⟩,⟨by simp,by simp[sgL],_,rfl,bP (aG bF _) rfl rfl⟩,trivial⟩ (by simp[sgL]))) ⟨by dsimp only;omega,by dsimp only;omega,by dsimp only;omega,by simp;omega⟩ (by dsimp only;omega)
 ·repeat' first| (first|apply bn1|refine d6 hn hl (by omega) (by omega) rfl (fun p1 bb hp1 hp2 _=> ?_)|refine aX hl (by omega) (by omega) (by omega) rfl (fun x h1 h2=> ?_)|refine aV3 (n:=1) (.inr (by omega)) hl (by omega) (by omega) rfl (fun p2 bqI hm1 hm2 hm3=> ?_))<;>(simp only[go_sem])|apply bn3 (by omega)|refine bnE (fun h=> ?_) fun h=> ?_| ((refine bnF (fun h=> ?_) (fun h=> ?_))<;>try subst h)|refine⟨by omega,?_⟩|fail
  all_goals first
   | (obtain⟨v,hv⟩:=aN1 (L:=[[.v (.int .i64 (-2))],[.v (.int .i64 64)]]) (by simp) h1 (by simp;omega);simp only[hv];simp only[go_sem];repeat' first|apply bn1<;>(simp only[go_sem])|refine⟨by omega,?_⟩|fail)
   |skip
  all_goals first
   |exact aXA hQ (D:=u.drop 1) rfl rfl rfl (boL (by simp;omega)) (by omega) (by simp;omega) (by omega)
   |exact aXA hQ (D:=u.set _ _) rfl rfl rfl (boL (by simp;omega)) (by omega) (by simp;omega) (by omega)
   |exact aXA hQ (D:=u) rfl rfl rfl (boL (by simp;omega)) (by omega) (by omega) (by omega)
   |fail
theorem aW5{i:Nat}{n:Int} (hn:0<n∧n<9000) (hl:kZ l) (hp50:p+200<2^50) (hi:i<nx) (ho:H i=some (rdO l p)) (h: ∀(p':Nat) (w:List Int) (u:List Int),p≤p'→p'≤p+200→(w.length≤65∧u.length≤6)→K (boR [.isl (w.map aJ),.isl (u.map aJ)]) (H.set i (rdO l p')) nx):
 aB Tryz.prog aVK [bkP 2 i,boP n] H nx K:=
 (aW7 l p n hn hl hp50).OU i rfl (gW ⟨DG (by omega) rfl,aE rfl,trivial⟩) hi ho (aV l p) fun r o' ⟨p',w,u,h1,h2,h3,h4,h5⟩=>by subst h1;subst h4;exact EW (A:=fun d=>K d (H.set i (rdO l p')) nx) rfl (h p' w u h2 h3 h5)
theorem aMQ{c:Cfg}{s:TSt} (hcf:jO c) (hf:aTQ s) (h:K (dB (tlB c s)) H nx):aB Tryz.prog aI6 [boR (cU c),boR (eSt s)] H nx K:=by
 refine aB.pure (args0:=[boR (cU c),boR (eSt s)]) (R:=fun rr=>rr=dB (tlB c s)) ?_ rfl (aI ⟨aE rfl,aE rfl,trivial⟩) (fun r hr=>hr▸h);clear h;refine aMM rfl fun Q hQ=> ?_;unfold aJP;have hwf:=hf.words;have hhf:=hf.holds;have haf:=hf.asked;have hl3:=hf.wait;have hl4:=hf.done;have hl5:=hf.told;have hd3: ∀j∈s.wait,j.rsp.data.length<2^21:=fun j hj=>hf.data j (by simp[hj]);have hd4: ∀j∈s.done,j.rsp.data.length<2^21:=fun j hj=>hf.data j (by simp[hj]);have hd5: ∀j∈s.told,j.rsp.data.length<2^21:=fun j hj=>hf.data j (by simp[hj]);by_cases hb:aQ c
 case neg=>
  repeat' first| (first|apply bn1|apply aKG hcf)<;>(simp only[go_sem,eq_false hb])|fail
  all_goals exact aZ hQ (dB false) rfl rfl (congrArg dB (aOH fun h=>hb h.1)).symm
 by_cases hat:JS s.words s.holds
 case neg=>
  repeat' first| (first|apply bn1|apply aKG hcf|apply aKH (show s.words.length<2^40 by omega) (show s.holds.length<2^40 by omega))<;>(simp only[go_sem,eq_true hb,eq_false hat])|fail
  all_goals exact aZ hQ (dB false) rfl rfl (congrArg dB (aOH fun h=>hat ⟨⟨by rw[h.2.atm.wl];rfl,h.2.atm.wr⟩,by rw[h.2.atm.hl];rfl,h.2.atm.hr⟩)).symm
 by_cases ha:s.asked.length=3
 case neg=>
  repeat' first| (first|apply bn1|apply aKG hcf|apply aKH (show s.words.length<2^40 by omega) (show s.holds.length<2^40 by omega))<;>(simp only[go_sem,eq_true hb,eq_true hat])|apply bn2 (by omega)|fail
  all_goals first| (exfalso;omega)|exact aZ hQ (dB false) rfl rfl (congrArg dB (aOH fun h=>ha h.2.JI)).symm
 obtain⟨hp3,hp12⟩:=hC hb;repeat' first| (first|apply bn1|apply aKG hcf|apply aKH (show s.words.length<2^40 by omega) (show s.holds.length<2^40 by omega))<;>(simp only[go_sem,eq_true hb,eq_true hat,ha])|apply bn3 (by omega)|fail
 have hsz: ∀k,k≤3→(∀i,i<k→0≤s.asked.getD i default∧s.asked.getD i default≤((c.cP.getD i default).length:Int))→0≤jS (fun j=>s.asked.getD j default) k∧jS (fun j=>s.asked.getD j default) k≤12*k:=fun k hk h=>KF (m:=12) (by omega) k fun j hj=>by have:=h j hj;have:=hp12 j;(try dsimp only);omega
 (refine aM.loop (α:={k:Nat//k≤3∧(∀i,i<k→0≤s.asked.getD i default∧s.asked.getD i default≤((c.cP.getD i default).length:Int))}) (fun u=>en [(6,boP u.1),(5,boP (jS (fun j=>s.asked.getD j default) u.1)),(3,.one (.c (.fQ (eSt s)))),(2,.one (.c (.fQ (cU c))))]) (fun _=>.nil) _ (fun u=>3-u.1) ⟨0,by omega,(by intros;first|trivial|omega)⟩ (bU (m5 _) (by repeat' first|exact bo2|refine xqI rfl rfl ?_| (with_reducible apply bo3)| ((with_reducible apply bo1);exact bpH rfl (by simp) rfl rfl rfl)|fail)) ?_);(rintro⟨k,hk,hinv⟩ bpQ hKL);have hz:=hsz k hk hinv;by_cases hlt:k<3
 ·have hpk:=hp12 k;have hss:jS (fun j=>s.asked.getD j default) (k+1)=jS (fun j=>s.asked.getD j default) k+s.asked.getD k default:=rfl;by_cases hr:0≤s.asked.getD k default∧s.asked.getD k default≤((c.cP.getD k default).length:Int)
  ·repeat' first| (first|apply bn1|apply aBC)<;>(simp only[go_sem,eq_true hr,hp3,ha];try simp (disch:=omega) only[Iw])|apply bn2 (by omega)|refine⟨by omega,?_⟩|fail
   all_goals (rw[←hss];(refine hKL _ _ _ ⟨k+1,by omega,iS hinv hr⟩ (by omega) (by(try dsimp only);omega) (bU (m5 _) (by repeat' first|exact bo2|refine xqI rfl rfl ?_|fail))))
  ·repeat' first| (first|apply bn1|apply aBC)<;>(simp only[go_sem,eq_false hr,hp3,ha])|apply bn2 (by omega)|refine⟨by omega,?_⟩|fail
   all_goals exact aZ hQ (dB false) rfl rfl (congrArg dB (aOH fun h=>hr (h.2.DC k hlt))).symm
 have hk3:k=3:=by omega
 subst hk3;have har:aTF c s.asked:=hinv;have hsum3:jS (fun j=>s.asked.getD j default) 3=s.asked.getD 0 default+s.asked.getD 1 default+s.asked.getD 2 default:=by simp[jS]
 have hj1: ∀{H:aA} {nx:Nat} {K:D→aA→Nat→Prop},K (dB (aPK c s.asked s.wait false)) H nx→aB Tryz.prog aIQ [boR (cU c),dS (s.asked.map aJ),dS (s.wait.map aS),dB false] H nx K:=fun h=>aMA hb ha har hl3 hd3 h;have hj2: ∀{H:aA} {nx:Nat} {K:D→aA→Nat→Prop},K (dB (aPK c s.asked s.done true)) H nx→aB Tryz.prog aIQ [boR (cU c),dS (s.asked.map aJ),dS (s.done.map aS),dB true] H nx K:=fun h=>aMA hb ha har hl4 hd4 h;by_cases hw:aPN c s.asked s.wait false
 case neg=>
  have e1:=aSY hw;repeat' first| (first|apply bn1|apply hj1)<;>(simp only[go_sem,e1])|apply bn3 (by omega)|fail
  all_goals exact aZ hQ (dB false) rfl rfl (congrArg dB (aOH fun h=>hw h.2.aUL)).symm
 by_cases hdn:aPN c s.asked s.done true
 case neg=>
  have e1:=aQD hw;have e2:=aSY hdn;repeat' first| (first|apply bn1|apply hj1|apply hj2)<;>(simp only[go_sem,e1,e2])|apply bn3 (by omega)|fail
  all_goals exact aZ hQ (dB false) rfl rfl (congrArg dB (aOH fun h=>hdn h.2.aUM)).symm
 have e1:=aQD hw;have e2:=aQD hdn;by_cases ht:aSQ c s
 case neg=>
  have e3:=aTL ht;repeat' first| (first|apply bn1|apply hj1|apply hj2|apply aMG hb ha har hl5 hd5)<;>(simp only[go_sem,e1,e2,e3])|apply bn3 (by omega)|fail
  all_goals exact aZ hQ (dB false) rfl rfl (congrArg dB (aOH fun h=>ht h.2.aUN)).symm
 have e3:=aTM ht;by_cases hc:(s.wait.length:Int)+s.done.length+s.told.length=s.asked.getD 0 default+s.asked.getD 1 default+s.asked.getD 2 default
 case neg=>
  repeat' first| (first|apply bn1|apply hj1|apply hj2|apply aMG hb ha har hl5 hd5)<;>(simp only[go_sem,e1,e2,e3];try simp (disch:=omega) only[Iw])|apply bn2 (by omega)|apply bn3 (by omega)|fail
  all_goals first| (exfalso;omega)|exact aZ hQ (dB false) rfl rfl (congrArg dB (aOH fun h=>hc h.2.count)).symm
 repeat' first| (first|apply bn1|apply hj1|apply hj2|apply aMG hb ha har hl5 hd5)<;>(simp only[go_sem,e1,e2,e3];try simp (disch:=omega) only[Iw])|apply bn3 (by omega)|fail
 refine aM.loop (α:={k:Nat//k≤s.told.length∧ ∀i,i<k→key (s.told.getD i default)∉s.wait.map key∧key (s.told.getD i default)∉s.done.map key}) (fun u=>en [(7,boP u.1),(3,.one (.c (.fQ (eSt s))))]) (fun _=>.nil) _ (fun u=>s.told.length-u.1) ⟨0,by omega,fun i hi=>by omega⟩ (bU (m5 _) (by repeat' first|exact bo2|refine xqI rfl rfl ?_|fail)) ?_;rintro⟨k,hk,hinv2⟩ bpQ hKL;by_cases hlt:k<s.told.length
 ·obtain⟨j,hj⟩: ∃j,j=s.told.getD k default:=⟨_,rfl⟩
  have hj':=hj.symm;have hm:j∈s.told:=by rw[hj];exact cC hlt
  by_cases h1:0≤bK (iM j.who j.n) s.wait
  ·repeat' first| (first|apply bn1|apply bpJ (by omega)|apply aKK (show s.wait.length<2^40 by omega))<;>(simp only[go_sem,hj'])|apply bn2 (by omega)|refine⟨by omega,?_⟩|fail
   all_goals first| (exfalso;omega)|exact aZ hQ (dB false) rfl rfl (congrArg dB (aOH fun h=>(h.2.apart.2.1 j hm).1 (ZP.1 h1))).symm
  ·by_cases h2:0≤bK (iM j.who j.n) s.done
   ·repeat' first| (first|apply bn1|apply bpK (by omega)|apply aKK (show s.wait.length<2^40 by omega)|apply aKK (show s.done.length<2^40 by omega))<;>(simp only[go_sem,hj'])|apply bn2 (by omega)|refine⟨by omega,?_⟩|fail
    all_goals first| (exfalso;omega)|exact aZ hQ (dB false) rfl rfl (congrArg dB (aOH fun h=>(h.2.apart.2.1 j hm).2 (ZP.1 h2))).symm
   ·repeat' first| (first|apply bn1|apply bpK (by omega)|apply aKK (show s.wait.length<2^40 by omega)|apply aKK (show s.done.length<2^40 by omega))<;>(simp only[go_sem,hj'];try simp (disch:=omega) only[Iw])|apply bn2 (by omega)|apply bn3 (by omega)|refine⟨by omega,?_⟩|fail
    all_goals first| (exfalso;omega)|exact hKL _ _ _ ⟨k+1,by omega,iS hinv2 (by rw[hj'];exact⟨fun h=>h1 (ZP.2 h),fun h=>h2 (ZP.2 h)⟩)⟩ (by omega) (by(try dsimp only);omega) (bU (m5 _) (by repeat' first|exact bo2|refine xqI rfl rfl ?_|fail))
 ·have hk2:k=s.told.length:=by omega
  subst hk2;repeat' first|apply bn1<;>(simp only[go_sem])|apply bn3 (by omega)|fail
  refine aM.loop (α:={k:Nat//k≤s.done.length∧ ∀i,i<k→key (s.done.getD i default)∉s.wait.map key}) (fun u=>en [(8,boP u.1),(3,.one (.c (.fQ (eSt s))))]) (fun _=>.nil) _ (fun u=>s.done.length-u.1) ⟨0,by omega,fun i hi=>by omega⟩ (bU (m5 _) (by repeat' first|exact bo2|refine xqI rfl rfl ?_|fail)) ?_;rintro⟨k,hk,hinv3⟩ bqG hKM;by_cases hlt:k<s.done.length
  ·obtain⟨j,hj⟩: ∃j,j=s.done.getD k default:=⟨_,rfl⟩
   have hj':=hj.symm;have hm:j∈s.done:=(by rw[hj];exact cC hlt);by_cases h1:0≤bK (iM j.who j.n) s.wait
   ·repeat' first| (first|apply bn1|apply aKK (show s.wait.length<2^40 by omega))<;>(simp only[go_sem,hj'])|apply bn2 (by omega)|refine⟨by omega,?_⟩|fail
    all_goals first| (exfalso;omega)|exact aZ hQ (dB false) rfl rfl (congrArg dB (aOH fun h=>(h.2.apart.2.2 j hm) (ZP.1 h1))).symm
   ·repeat' first| (first|apply bn1|apply aKK (show s.wait.length<2^40 by omega))<;>(simp only[go_sem,hj'];try simp (disch:=omega) only[Iw])|apply bn2 (by omega)|apply bn3 (by omega)|refine⟨by omega,?_⟩|fail
    all_goals first| (exfalso;omega)|exact hKM _ _ _ ⟨k+1,by omega,iS hinv3 (by rw[hj'];exact fun h=>h1 (ZP.2 h))⟩ (by omega) (by(try dsimp only);omega) (bU (m5 _) (by repeat' first|exact bo2|refine xqI rfl rfl ?_|fail))
  ·have hk2:k=s.done.length:=(by omega);subst hk2;have hst:BA c s:=aTG hat ha har hw hdn ht hc (aKJ (P:=fun j=>key j∉s.wait.map key∧key j∉s.done.map key) hinv2) (aKJ (P:=fun j=>key j∉s.wait.map key) hinv3);repeat' first|apply bn1<;>(simp only[go_sem])|apply bn3 (by omega)|fail
   exact aZ hQ (dB true) rfl rfl (congrArg dB (aTX hb hst)).symm
end
end Go.Proofs.YtmccpdapaccnoaaGreat
